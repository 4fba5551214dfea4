/- Numbers that are read: bytes.Clone, xdr.Read, the reader's fail, number and U32. -/
import Derived.Test.YtpgbocdcjlcelaaDe3

namespace Go.Proofs.Ytpgbocdcjlcelaa
open Go.ChangeShapes Go.WideShapes Go.ChangeAt Go.RowKit

theorem clone_any (a : Option Addr) (n cap : Nat) (zs : List Int) (hn : n ≤ 1000000) (w : World) (h : IsRow .u8 w a n cap zs) (ha : a = none → cap = 0) :
    Calls Try.prog 30 #[.slice a n cap] w fun r w' => ∃ v, r = .returned v ∧ Owns w' w.heap.size 5 v (bv zs) ∧ Ext w w' := by
  have hcm := h.2.2.1
  have hlc := h.2.1
  have hl := h.1
  unfold maxLen at hcm
  cases a with
  | none =>
    have hc0 := ha rfl
    have hz : zs = [] := List.eq_nil_of_length_eq_zero (by omega)
    obtain rfl : n = 0 := by omega
    subst hz hc0
    clear h ha
    have hnn := fun W => Go.Lib.run_eql_slice_nil (P := Try.prog) W 22 5 none 0 0 0 0 Try.underlying22
    simp only [Option.isNone_none] at hnn
    go_enter Try.func30, Try.ntmps30
    go_wp2
    go_ret
    exact ⟨_, rfl, Owns.nil _ _ _, Ext.refl w⟩
  | some ad =>
    have h0 : Owns (w.alloc (.cells #[] 5)) w.heap.size 5 (.slice (some ⟨w.heap.size, 0, none⟩) 0 0) [] :=
      ⟨by simp, .inr ⟨w.heap.size, 0, #[], rfl, Nat.le_refl _, heap_alloc_new w _, by simp, by unfold maxLen; omega, by simp, by simp⟩⟩
    obtain ⟨v', w', h1, h2, h3⟩ := app_row h0 (c := cap) (h.ext ((Ext.refl w).alloc (.cells #[] 5))) (fun e => by cases e) (by simp; omega) (by simp) 22
    have H1 := Lib.hid h1
    have H2 := Lib.hid (show Owns w' w.heap.size 5 v' (bv zs) from h2)
    have H3 := Lib.hid (grown_ext h3 ((Ext.refl w).alloc (.cells #[] 5)) (fun g hg => by simp [Value.ownBlock] at hg; omega))
    clear h h0 h1 h2 h3 ha hl
    have hnn := fun W => Go.Lib.run_eql_slice_nil (P := Try.prog) W 22 5 (some ad) n cap 0 0 Try.underlying22
    simp only [Option.isNone_some] at hnn
    go_enter Try.func30, Try.ntmps30
    go_wp2_with (at_builtin; refine wpList_append_run rfl (.tmp 5) (.tmp 6) _ rfl _ _ _ ?_ ?_ H1.out ?_)
    · rfl
    · rfl
    · go_ret
      exact ⟨_, rfl, H2.out, H3.out⟩

/-- The reader at block g: its first error, and the bytes that are left. -/
def RdW (w : World) (g : Nat) (e : Int) (zs : List Int) : Prop :=
  ∃ a c, w.heap[g]? = some (.cells #[.int .i64 e, .slice a zs.length c] 64 (0, 0)) ∧ IsRow .u8 w a zs.length c zs ∧ Plain a c
theorem RdW.ext {w w' : World} {g : Nat} {e : Int} {zs : List Int} (h : RdW w g e zs) (hx : Ext w w') : RdW w' g e zs := by
  obtain ⟨a, c, h1, h2, h3⟩ := h
  exact ⟨a, c, hx.heap h1, h2.ext hx, h3⟩
theorem RdW.lt {w : World} {g : Nat} {e : Int} {zs : List Int} (h : RdW w g e zs) : g < w.heap.size := by
  obtain ⟨a, c, h1, _⟩ := h
  exact lt_of_heap h1
theorem read_any (a : Option Addr) (n cap : Nat) (zs : List Int) (hn : n ≤ 1000000) (w : World) (h : IsRow .u8 w a n cap zs) (ha : a = none → cap = 0) :
    Calls Try.prog 26 #[.slice a n cap] w fun r w' => ∃ g, r = .returned (.pointer (some ⟨g, 0, none⟩)) ∧ RdW w' g 0 zs ∧ w.heap.size ≤ g ∧ Ext w w' := by
  have hw := h.2.2.2.1
  have HW := Lib.hid hw
  have H := Lib.hid (clone_any a n cap zs hn w h ha)
  clear h ha hw
  go_enter Try.func26, Try.ntmps26
  go_wp2_with fail
  refine H.out.mono ?_
  rintro r w1 ⟨v, rfl, hO, hX⟩
  obtain ⟨b, c, rfl, hr, hp⟩ := hO.row2 HW.out
  have HR := Lib.hid hr
  have HP := Lib.hid hp
  have HX := Lib.hid hX
  clear hO hr hp hX
  go_wp2_with fail
  go_ret
  exact ⟨_, rfl, ⟨b, c, heap_alloc_new _ _, HR.out.ext ((Ext.refl _).alloc _), HP.out⟩, HX.out.size, HX.out.trans ((Ext.refl _).alloc _)⟩

/-- Cells of bytes lie in no reader. -/
theorem row_apart {w : World} {g : Nat} {x y : Value} {t : TypeId} (hg : w.heap[g]? = some (.cells #[x, y] t (0, 0))) (hx : ∀ z, x ≠ .int .u8 z) (hy : ∀ z, y ≠ .int .u8 z) {b i : Nat} {z : Int} (h : w.cell? ⟨b, i, none⟩ = some (.int .u8 z)) : b ≠ g := by
  intro e
  subst e
  rw [cell_of hg] at h
  match i with
  | 0 => simp at h; exact hx z h
  | 1 => simp at h; exact hy z h
  | i + 2 => simp at h
theorem IsRow.upd {S : List Nat} {k : IntKind} {w w' : World} {a : Option Addr} {len cap : Nat} {zs : List Int} (h : IsRow k w a len cap zs) (hx : Upd S w w') (hs : ∀ b i z, w.cell? ⟨b, i, none⟩ = some (.int k z) → b ∉ S) : IsRow k w' a len cap zs := by
  obtain ⟨h1, h2, h3, h4, h5⟩ := h
  refine ⟨h1, h2, h3, h4, ?_⟩
  rcases h5 with h5 | ⟨g, o, h6, h7⟩
  · exact .inl h5
  · exact .inr ⟨g, o, h6, fun i hi => hx.cell (h7 i hi) (hs _ _ _ (h7 i hi))⟩

theorem fail_any (g : Nat) (e n : Int) (zs : List Int) (w : World) (h : RdW w g e zs) :
    Calls Try.prog 33 #[.pointer (some ⟨g, 0, none⟩), .int .i64 n] w fun r w' => r = .returned (.tuple #[]) ∧ RdW w' g n [] ∧ Upd [g] w w' := by
  obtain ⟨a, c, h1, _, _⟩ := h
  have hg := lt_of_heap h1
  obtain ⟨c0, c1, f0, f1⟩ := blk2 h1
  have H1 := Lib.hid h1
  clear h1
  go_enter Try.func33, Try.ntmps33
  go_wp2_with fail
  go_end0
  have b1 := heap_setCell_same w g 0 _ _ (.int .i64 n) H1.out
  have b2 := heap_setCell_same _ g 1 _ _ (.slice none 0 0) b1
  exact ⟨rfl, ⟨none, 0, by rw [b2]; rfl, ⟨rfl, by simp, by unfold maxLen; omega, by simp, .inl rfl⟩, .inl ⟨rfl, rfl⟩⟩, ((Upd.refl [g] w).setCell _ _ (by simp)).setCell _ _ (by simp)⟩

/-- What bytes are as a number. -/
def val (l : List Int) : Int := l.foldl (fun a z => a * 256 + z) 0
theorem val_snoc (l : List Int) (z : Int) : val (l ++ [z]) = val l * 256 + z := by simp [val]
theorem val_bd {zs : List Int} (h : ∀ z ∈ zs, (Lit.int .u8 z).wf = true) : ∀ i, i ≤ zs.length → 0 ≤ val (zs.take i) ∧ val (zs.take i) < 256 ^ i := by
  intro i
  induction i with
  | zero => intro _; simp [val]
  | succ i ih =>
    intro hi
    have h1 := ih (by omega)
    have h2 := wf_u8 (h _ (List.getElem_mem (show i < zs.length by omega)))
    rw [List.take_succ_eq_append_getElem (by omega), val_snoc, Int.pow_succ]
    omega
theorem or_byte (n : Int) (z : Int) (hn0 : 0 ≤ n) (hn : n ≤ 16777215) (hz0 : 0 ≤ z) (hz : z ≤ 255) : bits .or .u64 (n * 256) z = n * 256 + z := by
  obtain ⟨m, rfl⟩ := Int.eq_ofNat_of_zero_le hn0
  obtain ⟨k, rfl⟩ := Int.eq_ofNat_of_zero_le hz0
  have h1 : bits .or .u64 ((m : Int) * 256) (k : Int) = IntKind.u64.wrap ((BitVec.ofInt 64 ((m : Int) * 256) ||| BitVec.ofInt 64 (k : Int)).toNat : Nat) := rfl
  have h2 : (BitVec.ofInt 64 (k : Int)).toNat = k := by rw [BitVec.toNat_ofInt]; simp; omega
  have h3 : (BitVec.ofInt 64 ((m : Int) * 256)).toNat = m * 256 := by rw [BitVec.toNat_ofInt]; omega
  have h4 : m * 256 ||| k = m * 256 + k := by
    have := Nat.two_pow_add_eq_or_of_lt (i := 8) (b := k) (by omega) m
    rw [show (2 : Nat) ^ 8 = 256 by rfl, Nat.mul_comm] at this
    exact this.symm
  rw [h1, BitVec.toNat_or, h2, h3, h4]
  simp [IntKind.wrap, IntKind.signed, IntKind.bits]
  omega
theorem number_err (g : Nat) (e : Int) (he : e ≠ 0) (zs : List Int) (w : World) (h : RdW w g e zs) :
    Calls Try.prog 31 #[.pointer (some ⟨g, 0, none⟩), .int .i64 4] w fun r w' => r = .returned (.int .u64 0) ∧ w = w' := by
  obtain ⟨a, c, h1, _, _⟩ := h
  have hg := lt_of_heap h1
  obtain ⟨c0, c1, f0, f1⟩ := blk2 h1
  have hd : (e != 0) = true := by simp [he]
  clear h1
  go_enter Try.func31, Try.ntmps31
  go_wp2_with fail
  go_ret
  exact ⟨rfl, rfl⟩
theorem number_short (g : Nat) (zs : List Int) (hz : zs.length < 4) (w : World) (h : RdW w g 0 zs) :
    Calls Try.prog 31 #[.pointer (some ⟨g, 0, none⟩), .int .i64 4] w fun r w' => r = .returned (.int .u64 0) ∧ RdW w' g 3 [] ∧ Upd [g] w w' := by
  have HF := Lib.hid (fail_any g 0 3 zs w h)
  obtain ⟨a, c, h1, _, _⟩ := h
  have hg := lt_of_heap h1
  obtain ⟨c0, c1, f0, f1⟩ := blk2 h1
  have hd : decide ((zs.length : Int) < 4) = true := by simp; omega
  clear h1
  go_enter Try.func31, Try.ntmps31
  go_wp2_with fail
  refine HF.out.mono ?_
  rintro r w2 ⟨rfl, hr, hu⟩
  go_wp2_with fail
  go_ret
  exact ⟨rfl, hr, hu⟩
set_option maxHeartbeats 1000000 in
theorem number_ok (g : Nat) (zs : List Int) (hz : 4 ≤ zs.length) (w : World) (h : RdW w g 0 zs) :
    Calls Try.prog 31 #[.pointer (some ⟨g, 0, none⟩), .int .i64 4] w fun r w' => r = .returned (.int .u64 (val (zs.take 4))) ∧ RdW w' g 0 (zs.drop 4) ∧ Upd [g] w w' := by
  obtain ⟨a, c, h1, h2, h3⟩ := h
  have hg := lt_of_heap h1
  obtain ⟨c0, c1, f0, f1⟩ := blk2 h1
  have hcm := h2.2.2.1
  have hlc := h2.2.1
  unfold maxLen at hcm
  obtain ⟨gb, o, rfl, hcell⟩ : ∃ gb o, a = some ⟨gb, o, none⟩ ∧ ∀ i, i < zs.length → w.cell? ⟨gb, o + i, none⟩ = some (.int .u8 (zs.getD i 0)) := by
    rcases h2.2.2.2.2 with h0 | h0
    · omega
    · exact h0
  have hd : decide ((zs.length : Int) < 4) = false := by simp; omega
  have HC := Lib.hid hcell
  have H1 := Lib.hid h1
  have H2 := Lib.hid h2
  obtain ⟨n, hn⟩ : ∃ n, n = zs.length := ⟨_, rfl⟩
  rw [← hn] at c1 hd hlc hz
  have HN := Lib.hid hn
  clear h1 h2 h3 hcell hn
  go_enter Try.func31, Try.ntmps31
  go_wp2_with fail
  go_loop [5, 30] (fun v5 v30 => ∃ i : Nat, i ≤ 4 ∧ v30 = .int .i64 i ∧ v5 = .int .u64 (val (zs.take i))) (fun _ v30 => 4 - (intOf v30).toNat)
  case atStart => exact ⟨0, by omega, rfl, by simp [val]⟩
  case round =>
    obtain ⟨i, hi, rfl, rfl⟩ := hrel
    by_cases hlt : i < 4
    · have hdi : decide ((i : Int) < 4) = true := by simp; omega
      have hi0 : (0 : Int) ≤ (i : Int) := by omega
      have hi1 : (i : Int) < 4 := by omega
      have q := HC.out i (by have := HN.out; omega)
      have HV := Lib.hid (show val (zs.take (i + 1)) = val (zs.take i) * 256 + zs.getD i 0 by
        have hl : i < zs.length := by have := HN.out; omega
        rw [List.take_succ_eq_append_getElem hl, val_snoc]
        simp [List.getD, List.getElem?_eq_getElem hl])
      have hv := val_bd H2.out.2.2.2.1 i (by have := HN.out; omega)
      have hv2 : val (zs.take i) ≤ 16777215 := by
        have : i = 0 ∨ i = 1 ∨ i = 2 ∨ i = 3 := by omega
        rcases this with rfl | rfl | rfl | rfl <;> omega
      have hv0 := hv.1
      have hzb := wf_u8 (H2.out.2.2.2.1 (zs.getD i 0) (by
        have hl : i < zs.length := by have := HN.out; omega
        simp [List.getD, List.getElem?_eq_getElem hl]))
      generalize zs.getD i 0 = z at *
      generalize val (zs.take i) = t at *
      have hor := or_byte t z hv0 hv2 hzb.1 hzb.2
      clear hv
      go_wp2_with fail
      go_round
      case rel => exact ⟨i + 1, by omega, by go_num, by rw [HV.out]⟩
      case measure => simp [intOf]; omega
    · have hdi : decide ((i : Int) < 4) = false := by simp; omega
      obtain rfl : i = 4 := by omega
      by_cases hc4 : c = 4
      · subst hc4
        go_wp2_with fail
        go_ret
        have b1 := heap_setCell_same w g 1 _ _ (.slice (some ⟨gb, o, none⟩) 0 0) H1.out
        have e1 : (zs.drop 4).length = 0 := by rw [List.length_drop, ← HN.out]; omega
        have u1 : Upd [g] w (w.setCell ⟨g, 1, none⟩ (.slice (some ⟨gb, o, none⟩) 0 0)) := (Upd.refl [g] w).setCell _ _ (by simp)
        refine ⟨rfl, ⟨some ⟨gb, o, none⟩, 0, by rw [b1, e1]; rfl, ?_, .inr ⟨gb, o, rfl⟩⟩, u1⟩
        have hr := H2.out.cut (j := 4) (by rw [← HN.out]; exact hz) (some ⟨gb, o, none⟩) (fun h => by have := HN.out; omega)
        rw [e1]
        rw [← HN.out, show n - 4 = 0 by omega] at hr
        exact hr.upd u1 (fun b i z hb => by simpa using row_apart H1.out (by simp) (by simp) hb)
      · go_wp2_with fail
        go_ret
        have b1 := heap_setCell_same w g 1 _ _ (.slice (some ⟨gb, o + 4, none⟩) (n - 4) (c - 4)) H1.out
        have e1 : (zs.drop 4).length = n - 4 := by rw [List.length_drop, ← HN.out]
        have u1 : Upd [g] w (w.setCell ⟨g, 1, none⟩ (.slice (some ⟨gb, o + 4, none⟩) (n - 4) (c - 4))) := (Upd.refl [g] w).setCell _ _ (by simp)
        refine ⟨rfl, ⟨some ⟨gb, o + 4, none⟩, c - 4, by rw [b1, e1]; rfl, ?_, .inr ⟨gb, o + 4, rfl⟩⟩, u1⟩
        have hr := H2.out.cut (j := 4) (by rw [← HN.out]; exact hz) (some ⟨gb, o + 4, none⟩) (fun _ => rfl)
        rw [e1]
        rw [← HN.out] at hr
        exact hr.upd u1 (fun b i z hb => by simpa using row_apart H1.out (by simp) (by simp) hb)
/-- The next number: it is there. -/
theorem u32r_ok (g : Nat) (zs : List Int) (hz : 4 ≤ zs.length) (w : World) (h : RdW w g 0 zs) :
    Calls Try.prog 27 #[.pointer (some ⟨g, 0, none⟩)] w fun r w' => r = .returned (.int .u32 (val (zs.take 4))) ∧ RdW w' g 0 (zs.drop 4) ∧ Upd [g] w w' := by
  have hb : 0 ≤ val (zs.take 4) ∧ val (zs.take 4) < 4294967296 := by
    obtain ⟨a, c, _, h2, _⟩ := h
    exact val_bd h2.2.2.2.1 4 hz
  have HN := Lib.hid (number_ok g zs hz w h)
  clear h
  generalize val (zs.take 4) = t at *
  go_enter Try.func27, Try.ntmps27
  go_wp2_with fail
  refine HN.out.mono ?_
  rintro r w2 ⟨rfl, hr, hu⟩
  go_wp2_with fail
  go_ret
  exact ⟨rfl, hr, hu⟩
theorem u32r_err (g : Nat) (e : Int) (he : e ≠ 0) (zs : List Int) (w : World) (h : RdW w g e zs) :
    Calls Try.prog 27 #[.pointer (some ⟨g, 0, none⟩)] w fun r w' => r = .returned (.int .u32 0) ∧ w = w' := by
  have HN := Lib.hid (number_err g e he zs w h)
  clear h
  go_enter Try.func27, Try.ntmps27
  go_wp2_with fail
  refine HN.out.mono ?_
  rintro r w2 ⟨rfl, rfl⟩
  go_wp2_with fail
  go_ret
  exact ⟨rfl, rfl⟩
theorem u32r_short (g : Nat) (zs : List Int) (hz : zs.length < 4) (w : World) (h : RdW w g 0 zs) :
    Calls Try.prog 27 #[.pointer (some ⟨g, 0, none⟩)] w fun r w' => r = .returned (.int .u32 0) ∧ RdW w' g 3 [] ∧ Upd [g] w w' := by
  have HN := Lib.hid (number_short g zs hz w h)
  clear h
  go_enter Try.func27, Try.ntmps27
  go_wp2_with fail
  refine HN.out.mono ?_
  rintro r w2 ⟨rfl, hr, hu⟩
  go_wp2_with fail
  go_ret
  exact ⟨rfl, hr, hu⟩
end Go.Proofs.Ytpgbocdcjlcelaa
