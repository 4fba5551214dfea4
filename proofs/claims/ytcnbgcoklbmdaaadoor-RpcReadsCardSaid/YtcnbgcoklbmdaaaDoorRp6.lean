/- A message's bytes in the document's words; as; what is written is read. -/
import Derived.Test.YtcnbgcoklbmdaaaDoorRp2
import Derived.Test.YtcnbgcoklbmdaaaDoorRp5
namespace Go.Proofs.YtcnbgcoklbmdaaaDoor
open Go.ChangeShapes Go.WideShapes Go.ChangeAt Go.RowKit

set_option maxRecDepth 100000 in
set_option maxHeartbeats 2000000 in
theorem refBytes_any (r : Bool) (x p : Int) (hx : 0 ≤ x ∧ x < 4294967296) (hp : 0 ≤ p ∧ p < 4294967296) (s : ByteArray) (hs : s.size ≤ 1000) (w : World) :
    Calls Tryd.prog 7 #[.agg #[.bool r, .int .u32 x, .int .u32 p, .string s]] w fun e w' => ∃ v, e = .returned v ∧ Owns w' w.heap.size 5 v (bv (bytesM r x p (bl s))) ∧ Ext w w' := by
  have hbd := heads_bd (r := r) hx hp
  have HB := Lib.hid hbd
  clear hbd
  cases r with
  | false =>
    go_enter Tryd.func7, Tryd.ntmps7
    go_wp2_with fail
    obtain ⟨W, hW⟩ : ∃ W, W = (w.alloc (.cells #[.bool false, .int .u32 x, .int .u32 p, .string s] 25)).alloc (.cells #[.int .u32 x, .int .u32 0, .int .u32 2, .int .u32 536870913, .int .u32 1, .int .u32 p] 23) := ⟨_, rfl⟩
    have hX0 : Ext w W := by rw [hW]; exact ((Ext.refl w).alloc _).alloc _
    have hgl : W.heap[w.heap.size + 1]? = some (.cells ((heads false x p).map (Value.int .u32)).toArray 23 (0, 0)) := by rw [hW]; exact heap_alloc2_new w _ _
    have hgm : W.heap[w.heap.size]? = some (.cells #[.bool false, .int .u32 x, .int .u32 p, .string s] 25 (0, 0)) := by rw [hW]; exact heap_alloc2_old w _ _
    rw [← hW]
    clear hW
    have HL := Lib.hid (show ∀ i, i < 6 → W.cell? ⟨w.heap.size + 1, i, none⟩ = some (.int .u32 ((heads false x p).getD i 0)) from fun i hi => by
      rw [cell_of hgl i]
      have : i < (heads false x p).length := hi
      simp [List.getD, List.getElem?_eq_getElem this])
    have hglt := lt_of_heap hgl
    have HGM := Lib.hid hgm
    have HX0 := Lib.hid hX0
    have HLn := Lib.hid (show (heads false x p).length = 6 from rfl)
    clear hgl hgm hX0
    have HBM := Lib.hid (show bytesM false x p (bl s) = nums (heads false x p) ++ bl s from rfl)
    generalize heads false x p = L at *
    go_loopw [4, 5] (fun v4 v5 wr => ∃ i : Nat, i ≤ 6 ∧ v5 = .int .i64 i ∧ Owns wr W.heap.size 5 v4 (bv (nums (L.take i))) ∧ Ext W wr) (fun _ v5 _ => 6 - (intOf v5).toNat)
    case atStart => exact ⟨0, by omega, rfl, Owns.nil _ _ _, Ext.refl _⟩
    case round =>
      obtain ⟨i, hi, rfl, hO, hXr⟩ := hrel
      have HO := Lib.hid hO
      have HXr := Lib.hid hXr
      clear hO hXr
      by_cases hlt : i < 6
      · have hd : decide ((i : Int) < 6) = true := by simp; omega
        have hi0 : (0 : Int) ≤ (i : Int) := by omega
        have hi1 : (i : Int) < 6 := by omega
        have q := HXr.out.cell (HL.out i hlt)
        have hgr := World.block_lt_of_cell? wr _ q
        have hz := HB.out (L.getD i 0) (by
          have : i < L.length := by rw [HLn.out]; exact hlt
          simp [List.getD, List.getElem?_eq_getElem this])
        have HS := Lib.hid (nums_snoc L i (by rw [HLn.out]; exact hlt))
        have HNL := Lib.hid (show (nums (L.take i)).length ≤ 100 by rw [nums_len, List.length_take]; omega)
        generalize L.getD i 0 = z at *
        obtain ⟨v', w', p1, p2, p3⟩ := app_row (HO.out.ext ((Ext.refl wr).alloc (.cells #[.int .u8 (z / 16777216), .int .u8 (z / 65536 % 256), .int .u8 (z / 256 % 256), .int .u8 (z % 256)] 5))) (c := 4) (be4_row z hz.1 hz.2 wr) (fun e => by cases e) (by have := HNL.out; rw [bv_len]; omega) (by have := HXr.out.size; simp; omega) 22
        rw [← bv_app, ← HS.out] at p2
        have P1 := Lib.hid p1
        have P2 := Lib.hid p2
        have P3 := Lib.hid (grown_ext p3 (HXr.out.alloc (.cells #[.int .u8 (z / 16777216), .int .u8 (z / 65536 % 256), .int .u8 (z / 256 % 256), .int .u8 (z % 256)] 5)) (fun g hg => (HO.out.lt hg).1))
        clear p1 p2 p3
        go_wp2_with fail
        refine (refU32_any z hz.1 hz.2 wr).mono ?_
        rintro e w2 ⟨rfl, rfl⟩
        go_wp2_with (at_builtin; refine wpList_append_run rfl (.tmp 24) (.tmp 29) _ rfl _ _ _ ?_ ?_ P1.out ?_)
        · rfl
        · rfl
        · go_roundw
          case rel => exact ⟨i + 1, by omega, by go_num, P2.out, P3.out⟩
          case measure => simp [intOf]; omega
      · have hd : decide ((i : Int) < 6) = false := by simp; omega
        have hE : L.take i = L := List.take_of_length_le (by rw [HLn.out]; omega)
        rw [hE] at HO
        clear hE
        have hgw := HXr.out.heap HGM.out
        obtain ⟨c0, c1, c2, c3, f0, f1, f2, f3⟩ := blk4 hgw
        have hgwl := lt_of_heap hgw
        obtain ⟨cb, Wb, b1, b2, b3, _⟩ := run_strBytes wr s (by omega)
        obtain ⟨v', w', p1, p2, p3⟩ := app_row (HO.out.ext b3) (c := cb) b2 (fun e => by cases e) (by rw [bv_len, nums_len, HLn.out]; omega) (Nat.le_trans HXr.out.size b3.size) 22
        rw [← bv_app, ← HBM.out] at p2
        have P1 := Lib.hid p1
        have P2 := Lib.hid p2
        have P3 := Lib.hid (grown_ext p3 (HX0.out.trans (HXr.out.trans b3)) (fun g hg => Nat.le_trans HX0.out.size (HO.out.lt hg).1))
        clear p1 p2 p3 hgw b2 b3
        go_wp2_with (at_builtin; refine wpList_append_run rfl (.tmp 31) (.tmp 34) _ rfl _ _ _ ?_ ?_ P1.out ?_)
        · rfl
        · rfl
        · go_ret
          exact ⟨_, rfl, P2.out.low HX0.out.size, P3.out⟩
  | true =>
    go_enter Tryd.func7, Tryd.ntmps7
    go_wp2_with fail
    obtain ⟨W, hW⟩ : ∃ W, W = ((w.alloc (.cells #[.bool true, .int .u32 x, .int .u32 p, .string s] 25)).alloc (.cells #[.int .u32 x, .int .u32 0, .int .u32 2, .int .u32 536870913, .int .u32 1, .int .u32 p] 23)).alloc (.cells #[.int .u32 x, .int .u32 1, .int .u32 0, .int .u32 p] 23) := ⟨_, rfl⟩
    have hX0 : Ext w W := by rw [hW]; exact (((Ext.refl w).alloc _).alloc _).alloc _
    have hgl : W.heap[w.heap.size + 2]? = some (.cells ((heads true x p).map (Value.int .u32)).toArray 23 (0, 0)) := by rw [hW]; exact heap_alloc3_new w _ _ _
    have hgm : W.heap[w.heap.size]? = some (.cells #[.bool true, .int .u32 x, .int .u32 p, .string s] 25 (0, 0)) := by rw [hW]; exact heap_alloc3_old w _ _ _
    rw [← hW]
    clear hW
    have HL := Lib.hid (show ∀ i, i < 4 → W.cell? ⟨w.heap.size + 2, i, none⟩ = some (.int .u32 ((heads true x p).getD i 0)) from fun i hi => by
      rw [cell_of hgl i]
      have : i < (heads true x p).length := hi
      simp [List.getD, List.getElem?_eq_getElem this])
    have hglt := lt_of_heap hgl
    have HGM := Lib.hid hgm
    have HX0 := Lib.hid hX0
    have HLn := Lib.hid (show (heads true x p).length = 4 from rfl)
    clear hgl hgm hX0
    have HBM := Lib.hid (show bytesM true x p (bl s) = nums (heads true x p) ++ bl s from rfl)
    generalize heads true x p = L at *
    go_loopw [4, 5] (fun v4 v5 wr => ∃ i : Nat, i ≤ 4 ∧ v5 = .int .i64 i ∧ Owns wr W.heap.size 5 v4 (bv (nums (L.take i))) ∧ Ext W wr) (fun _ v5 _ => 4 - (intOf v5).toNat)
    case atStart => exact ⟨0, by omega, rfl, Owns.nil _ _ _, Ext.refl _⟩
    case round =>
      obtain ⟨i, hi, rfl, hO, hXr⟩ := hrel
      have HO := Lib.hid hO
      have HXr := Lib.hid hXr
      clear hO hXr
      by_cases hlt : i < 4
      · have hd : decide ((i : Int) < 4) = true := by simp; omega
        have hi0 : (0 : Int) ≤ (i : Int) := by omega
        have hi1 : (i : Int) < 4 := by omega
        have q := HXr.out.cell (HL.out i hlt)
        have hgr := World.block_lt_of_cell? wr _ q
        have hz := HB.out (L.getD i 0) (by
          have : i < L.length := by rw [HLn.out]; exact hlt
          simp [List.getD, List.getElem?_eq_getElem this])
        have HS := Lib.hid (nums_snoc L i (by rw [HLn.out]; exact hlt))
        have HNL := Lib.hid (show (nums (L.take i)).length ≤ 100 by rw [nums_len, List.length_take]; omega)
        generalize L.getD i 0 = z at *
        obtain ⟨v', w', p1, p2, p3⟩ := app_row (HO.out.ext ((Ext.refl wr).alloc (.cells #[.int .u8 (z / 16777216), .int .u8 (z / 65536 % 256), .int .u8 (z / 256 % 256), .int .u8 (z % 256)] 5))) (c := 4) (be4_row z hz.1 hz.2 wr) (fun e => by cases e) (by have := HNL.out; rw [bv_len]; omega) (by have := HXr.out.size; simp; omega) 22
        rw [← bv_app, ← HS.out] at p2
        have P1 := Lib.hid p1
        have P2 := Lib.hid p2
        have P3 := Lib.hid (grown_ext p3 (HXr.out.alloc (.cells #[.int .u8 (z / 16777216), .int .u8 (z / 65536 % 256), .int .u8 (z / 256 % 256), .int .u8 (z % 256)] 5)) (fun g hg => (HO.out.lt hg).1))
        clear p1 p2 p3
        go_wp2_with fail
        refine (refU32_any z hz.1 hz.2 wr).mono ?_
        rintro e w2 ⟨rfl, rfl⟩
        go_wp2_with (at_builtin; refine wpList_append_run rfl (.tmp 24) (.tmp 29) _ rfl _ _ _ ?_ ?_ P1.out ?_)
        · rfl
        · rfl
        · go_roundw
          case rel => exact ⟨i + 1, by omega, by go_num, P2.out, P3.out⟩
          case measure => simp [intOf]; omega
      · have hd : decide ((i : Int) < 4) = false := by simp; omega
        have hE : L.take i = L := List.take_of_length_le (by rw [HLn.out]; omega)
        rw [hE] at HO
        clear hE
        have hgw := HXr.out.heap HGM.out
        obtain ⟨c0, c1, c2, c3, f0, f1, f2, f3⟩ := blk4 hgw
        have hgwl := lt_of_heap hgw
        obtain ⟨cb, Wb, b1, b2, b3, _⟩ := run_strBytes wr s (by omega)
        obtain ⟨v', w', p1, p2, p3⟩ := app_row (HO.out.ext b3) (c := cb) b2 (fun e => by cases e) (by rw [bv_len, nums_len, HLn.out]; omega) (Nat.le_trans HXr.out.size b3.size) 22
        rw [← bv_app, ← HBM.out] at p2
        have P1 := Lib.hid p1
        have P2 := Lib.hid p2
        have P3 := Lib.hid (grown_ext p3 (HX0.out.trans (HXr.out.trans b3)) (fun g hg => Nat.le_trans HX0.out.size (HO.out.lt hg).1))
        clear p1 p2 p3 hgw b2 b3
        go_wp2_with (at_builtin; refine wpList_append_run rfl (.tmp 31) (.tmp 34) _ rfl _ _ _ ?_ ?_ P1.out ?_)
        · rfl
        · rfl
        · go_ret
          exact ⟨_, rfl, P2.out.low HX0.out.size, P3.out⟩

set_option maxHeartbeats 1000000 in
theorem as_any (b : Bool) (x p : Int) (a : Option Addr) (n c : Nat) (zs : List Int) (w : World) (h : IsRow .u8 w a n c zs) :
    Calls Tryd.prog 12 #[.agg #[.bool b, .int .u32 x, .int .u32 p, .slice a n c]] w fun r w' => r = .returned (.agg #[.bool b, .int .u32 x, .int .u32 p, .string (strOfNums zs)]) ∧ Ext w w' := by
  have hs := (h.ext (((Ext.refl w).alloc (.cells #[.bool b, .int .u32 x, .int .u32 p, .slice a n c] 32)).alloc (.cells #[.bool false, .int .u32 0, .int .u32 0, .string ⟨#[]⟩] 25))).str
  clear h
  go_enter Tryd.func12, Tryd.ntmps12
  go_wp2_with fail
  exact bodyPost_ret (v := .agg #[.bool b, .int .u32 x, .int .u32 p, .string (strOfNums zs)]) (by simp [results, Tryd.results12, go_sem]) rfl ⟨rfl, ((Ext.refl w).alloc _).alloc _⟩
theorem val_be4 (n : Int) (h0 : 0 ≤ n) (h1 : n < 4294967296) : val (be4 n) = n := by
  simp only [val, be4, List.foldl_cons, List.foldl_nil]
  omega
theorem stepN_be4 (l : List Int) (n : Int) (h0 : 0 ≤ n) (h1 : n < 4294967296) (rest : List Int) (k : Nat) (hl : l = [] ∨ n ∈ l) : stepN l (be4 n ++ rest) k none = (n, rest, k + 4, none) := by
  unfold stepN
  have e1 : (be4 n ++ rest).take 4 = be4 n := by simp [be4]
  have e2 : (be4 n ++ rest).drop 4 = rest := by simp [be4]
  rw [if_neg (by simp [be4]), e1, e2, val_be4 n h0 h1]
  exact if_pos hl
theorem rdAll_bytesM (r : Bool) (x p : Int) (hx : 0 ≤ x ∧ x < 4294967296) (hp : 0 ≤ p ∧ p < 4294967296) (zs : List Int) : rdAll (bytesM r x p zs) = (r, x, p, (if r then 16 else 24), none) ∧ (bytesM r x p zs).drop (if r then 16 else 24) = zs := by
  cases r with
  | true =>
    have e : bytesM true x p zs = be4 x ++ (be4 1 ++ (be4 0 ++ (be4 p ++ zs))) := by simp [bytesM, nums, heads]
    refine ⟨?_, by rw [e]; simp [be4]⟩
    rw [e, rdAll_eq, stepN_be4 [] x hx.1 hx.2 _ _ (.inl rfl), stepN_be4 [0, 1] 1 (by omega) (by omega) _ _ (.inr (by simp)), rd2_yes, stepN_be4 [0] 0 (by omega) (by omega) _ _ (.inr (by simp)), stepN_be4 [] p hp.1 hp.2 _ _ (.inl rfl)]
    rfl
  | false =>
    have e : bytesM false x p zs = be4 x ++ (be4 0 ++ (be4 2 ++ (be4 536870913 ++ (be4 1 ++ (be4 p ++ zs))))) := by simp [bytesM, nums, heads]
    refine ⟨?_, by rw [e]; simp [be4]⟩
    rw [e, rdAll_eq, stepN_be4 [] x hx.1 hx.2 _ _ (.inl rfl), stepN_be4 [0, 1] 0 (by omega) (by omega) _ _ (.inr (by simp)), rd2_no _ _ (by omega), stepN_be4 [2] 2 (by omega) (by omega) _ _ (.inr (by simp)), rd3_eq, stepN_be4 [536870913] 536870913 (by omega) (by omega) _ _ (.inr (by simp)), rd4_eq, stepN_be4 [1] 1 (by omega) (by omega) _ _ (.inr (by simp)), rd5_eq, stepN_be4 [] p hp.1 hp.2 _ _ (.inl rfl)]
    rfl
end Go.Proofs.YtcnbgcoklbmdaaaDoor
