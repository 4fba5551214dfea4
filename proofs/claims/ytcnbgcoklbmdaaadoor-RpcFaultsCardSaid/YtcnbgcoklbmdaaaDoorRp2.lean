/- A message's bytes: rpc.Write; lives. -/
import Derived.Test.YtcnbgcoklbmdaaaDoorRp1
namespace Go.Proofs.YtcnbgcoklbmdaaaDoor
open Go.ChangeShapes Go.WideShapes Go.ChangeAt Go.RowKit

/-- The numbers ahead of a message's body. -/
def heads (reply : Bool) (xid proc : Int) : List Int := if reply then [xid, 1, 0, proc] else [xid, 0, 2, 536870913, 1, proc]
def nums (l : List Int) : List Int := l.flatMap be4
theorem nums_len (l : List Int) : (nums l).length = 4 * l.length := by
  induction l with
  | nil => rfl
  | cons a l ih => simp only [nums, List.flatMap_cons, List.length_append] at *; rw [ih]; simp [be4]; omega
theorem nums_snoc (l : List Int) (i : Nat) (hi : i < l.length) : nums (l.take (i + 1)) = nums (l.take i) ++ be4 (l.getD i 0) := by
  rw [List.take_succ_eq_append_getElem hi]
  unfold nums
  rw [List.flatMap_append]
  simp [List.getD, List.getElem?_eq_getElem hi]
theorem nums_wf {l : List Int} (h : ∀ z ∈ l, 0 ≤ z ∧ z < 4294967296) : ∀ z ∈ nums l, (Lit.int .u8 z).wf = true := by
  intro z hz
  simp only [nums, List.mem_flatMap] at hz
  obtain ⟨n, hn, hm⟩ := hz
  exact be4_wf n (h n hn).1 (h n hn).2 z hm
theorem heads_bd {r : Bool} {x p : Int} (hx : 0 ≤ x ∧ x < 4294967296) (hp : 0 ≤ p ∧ p < 4294967296) : ∀ z ∈ heads r x p, 0 ≤ z ∧ z < 4294967296 := by
  intro z hz
  unfold heads at hz
  split at hz <;> simp at hz <;> omega
def bytesM (r : Bool) (x p : Int) (zs : List Int) : List Int := nums (heads r x p) ++ zs

theorem heap_alloc3_new (w : World) (a b c : Obj) : (((w.alloc a).alloc b).alloc c).heap[w.heap.size + 2]? = some c := by
  have := heap_alloc_new ((w.alloc a).alloc b) c
  simpa using this
theorem heap_alloc3_old (w : World) (a b c : Obj) : (((w.alloc a).alloc b).alloc c).heap[w.heap.size]? = some a := by
  exact ((((Ext.refl (w.alloc a)).alloc b).alloc c)).heap (heap_alloc_new w a)
set_option maxRecDepth 100000 in
set_option maxHeartbeats 2000000 in
theorem write_any (r : Bool) (x p : Int) (hx : 0 ≤ x ∧ x < 4294967296) (hp : 0 ≤ p ∧ p < 4294967296) (a : Option Addr) (n c : Nat) (zs : List Int) (hn : n ≤ 100000) (w : World) (h : IsRow .u8 w a n c zs) (ha : Plain a c) :
    Calls Tryd.prog 24 #[.agg #[.bool r, .int .u32 x, .int .u32 p, .slice a n c]] w fun e w' => ∃ v, e = .returned v ∧ Owns w' w.heap.size 5 v (bv (bytesM r x p zs)) ∧ Ext w w' := by
  have hbd := heads_bd (r := r) hx hp
  have HB := Lib.hid hbd
  have H := Lib.hid h
  have HA := Lib.hid ha
  clear hbd h ha
  cases r with
  | false =>
    go_enter Tryd.func24, Tryd.ntmps24
    go_wp2_with fail
    obtain ⟨W, hW⟩ : ∃ W, W = (w.alloc (.cells #[.bool false, .int .u32 x, .int .u32 p, .slice a n c] 32)).alloc (.cells #[.int .u32 x, .int .u32 0, .int .u32 2, .int .u32 536870913, .int .u32 1, .int .u32 p] 23) := ⟨_, rfl⟩
    have hX0 : Ext w W := by rw [hW]; exact ((Ext.refl w).alloc _).alloc _
    have hgl : W.heap[w.heap.size + 1]? = some (.cells ((heads false x p).map (Value.int .u32)).toArray 23 (0, 0)) := by rw [hW]; exact heap_alloc2_new w _ _
    have hgm : W.heap[w.heap.size]? = some (.cells #[.bool false, .int .u32 x, .int .u32 p, .slice a n c] 32 (0, 0)) := by rw [hW]; exact heap_alloc2_old w _ _
    rw [← hW]
    clear hW
    have HL := Lib.hid (show ∀ i, i < 6 → W.cell? ⟨w.heap.size + 1, i, none⟩ = some (.int .u32 ((heads false x p).getD i 0)) from fun i hi => by
      rw [cell_of hgl i]
      have : i < (heads false x p).length := hi
      simp [List.getD, List.getElem?_eq_getElem this])
    have hglt := lt_of_heap hgl
    have HGM := Lib.hid hgm
    have HX0 := Lib.hid hX0
    have HLn := Lib.hid (show (heads false x p).length = 6 from rfl)
    clear hgl hgm hX0
    have HBM := Lib.hid (show bytesM false x p zs = nums (heads false x p) ++ zs from rfl)
    generalize heads false x p = L at *
    go_loopw [4, 21] (fun v4 v21 wr => ∃ i : Nat, i ≤ 6 ∧ v21 = .int .i64 i ∧ Owns wr w.heap.size 5 v4 (bv (nums (L.take i))) ∧ Ext W wr) (fun _ v21 _ => 6 - (intOf v21).toNat)
    case atStart => exact ⟨0, by omega, rfl, Owns.nil _ _ _, Ext.refl _⟩
    case round =>
      obtain ⟨i, hi, rfl, hO, hXr⟩ := hrel
      have HO := Lib.hid hO
      have HXr := Lib.hid hXr
      clear hO hXr
      by_cases hlt : i < 6
      · have hd : decide ((i : Int) < 6) = true := by simp; omega
        have hi0 : (0 : Int) ≤ (i : Int) := by omega
        have hi1 : (i : Int) < 6 := by omega
        have q := HXr.out.cell (HL.out i hlt)
        have hgr := World.block_lt_of_cell? wr _ q
        have hz := HB.out (L.getD i 0) (by
          have : i < L.length := by rw [HLn.out]; exact hlt
          simp [List.getD, List.getElem?_eq_getElem this])
        have HU := Lib.hid (u32_own HO.out (nums_wf (fun z hz => HB.out z (List.mem_of_mem_take hz))) (L.getD i 0) hz.1 hz.2 (by rw [nums_len, List.length_take]; omega))
        have HS := Lib.hid (nums_snoc L i (by rw [HLn.out]; exact hlt))
        rw [← HS.out] at HU
        generalize L.getD i 0 = z at *
        go_wp2_with fail
        refine HU.out.mono ?_
        rintro e w2 ⟨v2, rfl, hO2, hX2⟩
        have HO2 := Lib.hid (hO2.low (Nat.le_trans HX0.out.size HXr.out.size))
        have HX2 := Lib.hid (HXr.out.trans hX2)
        clear hO2 hX2
        go_wp2_with fail
        go_roundw
        case rel => exact ⟨i + 1, by omega, by go_num, HO2.out, HX2.out⟩
        case measure => simp [intOf]; omega
      · have hd : decide ((i : Int) < 6) = false := by simp; omega
        have hE : L.take i = L := List.take_of_length_le (by rw [HLn.out]; omega)
        rw [hE] at HO
        clear hE
        have hgw := HXr.out.heap HGM.out
        obtain ⟨c0, c1, c2, c3, f0, f1, f2, f3⟩ := blk4 hgw
        have hgwl := lt_of_heap hgw
        obtain ⟨v', w', p1, p2, p3⟩ := app_row HO.out (c := c) (H.out.ext (HX0.out.trans HXr.out)) HA.out.nil0 (by rw [bv_len, nums_len, HLn.out]; omega) (Nat.le_trans HX0.out.size HXr.out.size) 22
        rw [← bv_app, ← HBM.out] at p2
        have P1 := Lib.hid p1
        have P2 := Lib.hid p2
        have P3 := Lib.hid (grown_ext p3 (HX0.out.trans HXr.out) (fun g hg => (HO.out.lt hg).1))
        clear p1 p2 p3 hgw
        go_wp2_with (at_builtin; refine wpList_append_run rfl (.tmp 29) (.tmp 31) _ rfl _ _ _ ?_ ?_ P1.out ?_)
        · rfl
        · rfl
        · go_ret
          exact ⟨_, rfl, P2.out, P3.out⟩
  | true =>
    go_enter Tryd.func24, Tryd.ntmps24
    go_wp2_with fail
    obtain ⟨W, hW⟩ : ∃ W, W = ((w.alloc (.cells #[.bool true, .int .u32 x, .int .u32 p, .slice a n c] 32)).alloc (.cells #[.int .u32 x, .int .u32 0, .int .u32 2, .int .u32 536870913, .int .u32 1, .int .u32 p] 23)).alloc (.cells #[.int .u32 x, .int .u32 1, .int .u32 0, .int .u32 p] 23) := ⟨_, rfl⟩
    have hX0 : Ext w W := by rw [hW]; exact (((Ext.refl w).alloc _).alloc _).alloc _
    have hgl : W.heap[w.heap.size + 2]? = some (.cells ((heads true x p).map (Value.int .u32)).toArray 23 (0, 0)) := by rw [hW]; exact heap_alloc3_new w _ _ _
    have hgm : W.heap[w.heap.size]? = some (.cells #[.bool true, .int .u32 x, .int .u32 p, .slice a n c] 32 (0, 0)) := by rw [hW]; exact heap_alloc3_old w _ _ _
    rw [← hW]
    clear hW
    have HL := Lib.hid (show ∀ i, i < 4 → W.cell? ⟨w.heap.size + 2, i, none⟩ = some (.int .u32 ((heads true x p).getD i 0)) from fun i hi => by
      rw [cell_of hgl i]
      have : i < (heads true x p).length := hi
      simp [List.getD, List.getElem?_eq_getElem this])
    have hglt := lt_of_heap hgl
    have HGM := Lib.hid hgm
    have HX0 := Lib.hid hX0
    have HLn := Lib.hid (show (heads true x p).length = 4 from rfl)
    clear hgl hgm hX0
    have HBM := Lib.hid (show bytesM true x p zs = nums (heads true x p) ++ zs from rfl)
    generalize heads true x p = L at *
    go_loopw [4, 21] (fun v4 v21 wr => ∃ i : Nat, i ≤ 4 ∧ v21 = .int .i64 i ∧ Owns wr w.heap.size 5 v4 (bv (nums (L.take i))) ∧ Ext W wr) (fun _ v21 _ => 4 - (intOf v21).toNat)
    case atStart => exact ⟨0, by omega, rfl, Owns.nil _ _ _, Ext.refl _⟩
    case round =>
      obtain ⟨i, hi, rfl, hO, hXr⟩ := hrel
      have HO := Lib.hid hO
      have HXr := Lib.hid hXr
      clear hO hXr
      by_cases hlt : i < 4
      · have hd : decide ((i : Int) < 4) = true := by simp; omega
        have hi0 : (0 : Int) ≤ (i : Int) := by omega
        have hi1 : (i : Int) < 4 := by omega
        have q := HXr.out.cell (HL.out i hlt)
        have hgr := World.block_lt_of_cell? wr _ q
        have hz := HB.out (L.getD i 0) (by
          have : i < L.length := by rw [HLn.out]; exact hlt
          simp [List.getD, List.getElem?_eq_getElem this])
        have HU := Lib.hid (u32_own HO.out (nums_wf (fun z hz => HB.out z (List.mem_of_mem_take hz))) (L.getD i 0) hz.1 hz.2 (by rw [nums_len, List.length_take]; omega))
        have HS := Lib.hid (nums_snoc L i (by rw [HLn.out]; exact hlt))
        rw [← HS.out] at HU
        generalize L.getD i 0 = z at *
        go_wp2_with fail
        refine HU.out.mono ?_
        rintro e w2 ⟨v2, rfl, hO2, hX2⟩
        have HO2 := Lib.hid (hO2.low (Nat.le_trans HX0.out.size HXr.out.size))
        have HX2 := Lib.hid (HXr.out.trans hX2)
        clear hO2 hX2
        go_wp2_with fail
        go_roundw
        case rel => exact ⟨i + 1, by omega, by go_num, HO2.out, HX2.out⟩
        case measure => simp [intOf]; omega
      · have hd : decide ((i : Int) < 4) = false := by simp; omega
        have hE : L.take i = L := List.take_of_length_le (by rw [HLn.out]; omega)
        rw [hE] at HO
        clear hE
        have hgw := HXr.out.heap HGM.out
        obtain ⟨c0, c1, c2, c3, f0, f1, f2, f3⟩ := blk4 hgw
        have hgwl := lt_of_heap hgw
        obtain ⟨v', w', p1, p2, p3⟩ := app_row HO.out (c := c) (H.out.ext (HX0.out.trans HXr.out)) HA.out.nil0 (by rw [bv_len, nums_len, HLn.out]; omega) (Nat.le_trans HX0.out.size HXr.out.size) 22
        rw [← bv_app, ← HBM.out] at p2
        have P1 := Lib.hid p1
        have P2 := Lib.hid p2
        have P3 := Lib.hid (grown_ext p3 (HX0.out.trans HXr.out) (fun g hg => (HO.out.lt hg).1))
        clear p1 p2 p3 hgw
        go_wp2_with (at_builtin; refine wpList_append_run rfl (.tmp 29) (.tmp 31) _ rfl _ _ _ ?_ ?_ P1.out ?_)
        · rfl
        · rfl
        · go_ret
          exact ⟨_, rfl, P2.out, P3.out⟩
end Go.Proofs.YtcnbgcoklbmdaaaDoor
