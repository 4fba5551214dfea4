/- The document's reader: short, word, U32. -/
import Derived.Test.YtcnbgcoklbmdaaaDoorXr
import Derived.Test.YtcnbgcoklbmdaaaDoorBy
namespace Go.Proofs.YtcnbgcoklbmdaaaDoor
open Go.ChangeShapes Go.WideShapes Go.ChangeAt Go.RowKit

/-- The document's reader at block g. -/
def RW (w : World) (g : Nat) (a : Option Addr) (n c k : Nat) (e : Int) : Prop := w.heap[g]? = some (.cells #[.slice a n c, .int .i64 k, .int .i64 e] 66 (0, 0))
theorem rshort_no (g : Nat) (a : Option Addr) (n c k : Nat) (hk : k + 4 ≤ n) (hn : n ≤ 100000) (w : World) (h : RW w g a n c k 0) :
    Calls Tryd.prog 29 #[.pointer (some ⟨g, 0, none⟩), .int .i64 4] w fun r w' => r = .returned (.bool false) ∧ ∃ q, w' = w.drewN q := by
  have hg := lt_of_heap h
  obtain ⟨c0, c1, c2, f0, f1, f2⟩ := blk3 h
  clear h
  have e1 : IntKind.i64.wrap ((n : Int) - (k : Int)) = (n : Int) - (k : Int) := IntWalk.i64_in _ (by omega)
  have e2 : decide ((n : Int) - (k : Int) < 4) = false := by simp; omega
  go_enter Tryd.func29, Tryd.ntmps29
  go_wp2_with (go_quiet (fail))
  go_ret
  exact ⟨rfl, _, rfl⟩
theorem rshort_yes (g : Nat) (a : Option Addr) (n c k : Nat) (hk : n < k + 4) (hkn : k ≤ n) (hn : n ≤ 100000) (w : World) (h : RW w g a n c k 0) :
    Calls Tryd.prog 29 #[.pointer (some ⟨g, 0, none⟩), .int .i64 4] w fun r w' => r = .returned (.bool true) ∧ RW w' g a n c k 3 ∧ Upd [g] w w' := by
  have hg := lt_of_heap h
  obtain ⟨c0, c1, c2, f0, f1, f2⟩ := blk3 h
  have H := Lib.hid h
  clear h
  have e1 : IntKind.i64.wrap ((n : Int) - (k : Int)) = (n : Int) - (k : Int) := IntWalk.i64_in _ (by omega)
  have e2 : decide ((n : Int) - (k : Int) < 4) = true := by simp; omega
  go_enter Tryd.func29, Tryd.ntmps29
  go_wp2_with (go_quiet (fail))
  go_ret
  have hd : (w.drewN nq).heap[g]? = some (.cells #[.slice a n c, .int .i64 k, .int .i64 0] 66 (0, 0)) := H.out
  exact ⟨rfl, heap_setCell_same _ g 2 _ _ (.int .i64 3) hd, (((Ext.refl w).drewN nq).upd _).setCell _ _ (by simp)⟩
set_option maxHeartbeats 2000000 in
theorem rword (g gb o : Nat) (n c k : Nat) (zs : List Int) (hk : k + 4 ≤ n) (hn : n ≤ 100000) (w : World) (h : RW w g (some ⟨gb, o, none⟩) n c k 0) (hr : IsRow .u8 w (some ⟨gb, o, none⟩) n c zs) :
    Calls Tryd.prog 30 #[.pointer (some ⟨g, 0, none⟩), .int .i64 k] w fun r w' => r = .returned (.int .u32 (val ((zs.drop k).take 4))) ∧ ∃ q, w' = w.drewN q := by
  have hg := lt_of_heap h
  obtain ⟨c0, c1, c2, f0, f1, f2⟩ := blk3 h
  have hlc := hr.2.1
  have hl := hr.1
  have hcell : ∀ i, i < n → w.cell? ⟨gb, o + i, none⟩ = some (.int .u8 (zs.getD i 0)) ∧ 0 ≤ zs.getD i 0 ∧ zs.getD i 0 ≤ 255 := fun i hi => by
    rcases hr.2.2.2.2 with h0 | ⟨g', o', e, h7⟩
    · omega
    · injection e with e
      injection e with e1 e2 _
      subst e1 e2
      refine ⟨h7 i hi, wf_u8 (hr.2.2.2.1 _ ?_)⟩
      have : i < zs.length := by omega
      simp [List.getD, List.getElem?_eq_getElem this]
  obtain ⟨q0, b0, b0'⟩ := hcell k (by omega)
  obtain ⟨q1, b1, b1'⟩ := hcell (k + 1) (by omega)
  obtain ⟨q2, b2, b2'⟩ := hcell (k + 2) (by omega)
  obtain ⟨q3, b3, b3'⟩ := hcell (k + 3) (by omega)
  have HV := Lib.hid (show val ((zs.drop k).take 4) = zs.getD k 0 * 16777216 + zs.getD (k + 1) 0 * 65536 + zs.getD (k + 2) 0 * 256 + zs.getD (k + 3) 0 by
    have e : (zs.drop k).take 4 = [zs.getD k 0, zs.getD (k + 1) 0, zs.getD (k + 2) 0, zs.getD (k + 3) 0] := by
      apply List.ext_getElem?
      intro j
      match j with
      | 0 => simp [List.getElem?_take, List.getElem?_drop, List.getD, List.getElem?_eq_getElem (show k < zs.length by omega)]
      | 1 => simp [List.getElem?_take, List.getElem?_drop, List.getD, List.getElem?_eq_getElem (show k + 1 < zs.length by omega)]
      | 2 => simp [List.getElem?_take, List.getElem?_drop, List.getD, List.getElem?_eq_getElem (show k + 2 < zs.length by omega)]
      | 3 => simp [List.getElem?_take, List.getElem?_drop, List.getD, List.getElem?_eq_getElem (show k + 3 < zs.length by omega)]
      | j + 4 => (simp [List.getElem?_take]; omega)
    rw [e]
    simp [val]
    omega)
  generalize zs.getD k 0 = y0 at *
  generalize zs.getD (k + 1) 0 = y1 at *
  generalize zs.getD (k + 2) 0 = y2 at *
  generalize zs.getD (k + 3) 0 = y3 at *
  clear h hr hcell
  have k0 : (0 : Int) ≤ (k : Int) := by omega
  have k0' : (k : Int) < (n : Int) := by omega
  have k1 : (0 : Int) ≤ (k : Int) + 1 := by omega
  have k1' : (k : Int) + 1 < (n : Int) := by omega
  have k2 : (0 : Int) ≤ (k : Int) + 2 := by omega
  have k2' : (k : Int) + 2 < (n : Int) := by omega
  have k3 : (0 : Int) ≤ (k : Int) + 3 := by omega
  have k3' : (k : Int) + 3 < (n : Int) := by omega
  have t1 : ((k : Int) + 1).toNat = k + 1 := by omega
  have t2 : ((k : Int) + 2).toNat = k + 2 := by omega
  have t3 : ((k : Int) + 3).toNat = k + 3 := by omega
  have w1 : IntKind.i64.wrap ((k : Int) + 1) = (k : Int) + 1 := IntWalk.i64_in _ (by omega)
  have w2 : IntKind.i64.wrap ((k : Int) + 2) = (k : Int) + 2 := IntWalk.i64_in _ (by omega)
  have w3 : IntKind.i64.wrap ((k : Int) + 3) = (k : Int) + 3 := IntWalk.i64_in _ (by omega)
  have u0 : IntKind.u32.wrap y0 = y0 := IntWalk.u32_in _ (by omega)
  have u1 : IntKind.u32.wrap y1 = y1 := IntWalk.u32_in _ (by omega)
  have u2 : IntKind.u32.wrap y2 = y2 := IntWalk.u32_in _ (by omega)
  have u3 : IntKind.u32.wrap y3 = y3 := IntWalk.u32_in _ (by omega)
  have m0 : IntKind.u32.wrap (y0 * 16777216) = y0 * 16777216 := IntWalk.u32_in _ (by omega)
  have m1 : IntKind.u32.wrap (y1 * 65536) = y1 * 65536 := IntWalk.u32_in _ (by omega)
  have m2 : IntKind.u32.wrap (y2 * 256) = y2 * 256 := IntWalk.u32_in _ (by omega)
  have s1 : IntKind.u32.wrap (y0 * 16777216 + y1 * 65536) = y0 * 16777216 + y1 * 65536 := IntWalk.u32_in _ (by omega)
  have s2 : IntKind.u32.wrap (y0 * 16777216 + y1 * 65536 + y2 * 256) = y0 * 16777216 + y1 * 65536 + y2 * 256 := IntWalk.u32_in _ (by omega)
  have s3 : IntKind.u32.wrap (y0 * 16777216 + y1 * 65536 + y2 * 256 + y3) = y0 * 16777216 + y1 * 65536 + y2 * 256 + y3 := IntWalk.u32_in _ (by omega)
  go_enter Tryd.func30, Tryd.ntmps30
  go_wp2_with (go_quiet (fail))
  go_ret
  exact ⟨ret_int HV.out.symm, _, rfl⟩
theorem ru32_short (g : Nat) (a : Option Addr) (n c k : Nat) (hk : n < k + 4) (hkn : k ≤ n) (hn : n ≤ 100000) (w : World) (h : RW w g a n c k 0) :
    Calls Tryd.prog 22 #[.pointer (some ⟨g, 0, none⟩)] w fun r w' => r = .returned (.int .u32 0) ∧ RW w' g a n c k 3 ∧ Upd [g] w w' := by
  have H := Lib.hid (rshort_yes g a n c k hk hkn hn w h)
  clear h
  go_enter Tryd.func22, Tryd.ntmps22
  go_wp2_with fail
  refine H.out.mono ?_
  rintro r w' ⟨rfl, h1, h2⟩
  go_wp2_with fail
  go_ret
  exact ⟨rfl, h1, h2⟩
set_option maxHeartbeats 1000000 in
theorem ru32_ok (g gb o : Nat) (n c k : Nat) (zs : List Int) (hk : k + 4 ≤ n) (hn : n ≤ 100000) (w : World) (h : RW w g (some ⟨gb, o, none⟩) n c k 0) (hr : IsRow .u8 w (some ⟨gb, o, none⟩) n c zs) :
    Calls Tryd.prog 22 #[.pointer (some ⟨g, 0, none⟩)] w fun r w' => r = .returned (.int .u32 (val ((zs.drop k).take 4))) ∧ RW w' g (some ⟨gb, o, none⟩) n c (k + 4) 0 ∧ Upd [g] w w' := by
  have H1 := Lib.hid (rshort_no g (some ⟨gb, o, none⟩) n c k hk hn w h)
  have H2 := Lib.hid (fun q => rword g gb o n c k zs hk hn (w.drewN q) h (hr.ext ((Ext.refl w).drewN q)))
  have HB := Lib.hid h
  clear h hr
  generalize val ((zs.drop k).take 4) = v at *
  go_enter Tryd.func22, Tryd.ntmps22
  go_wp2_with fail
  refine H1.out.mono ?_
  rintro r w1 ⟨rfl, q, rfl⟩
  have hb1 : (w.drewN q).heap[g]? = some (.cells #[.slice (some ⟨gb, o, none⟩) n c, .int .i64 k, .int .i64 0] 66 (0, 0)) := HB.out
  have hg1 := lt_of_heap hb1
  obtain ⟨c0, c1, c2, f0, f1, f2⟩ := blk3 hb1
  have HX := Lib.hid ((Ext.refl w).drewN q)
  clear hb1
  obtain ⟨W, hW⟩ : ∃ W, W = w.drewN q := ⟨_, rfl⟩
  have HW := Lib.hid hW
  rw [← hW] at c0 c1 c2 f0 f1 f2 hg1 HX
  rw [← hW]
  clear hW
  go_wp2_with fail
  refine (show Calls Tryd.prog 30 #[.pointer (some ⟨g, 0, none⟩), .int .i64 k] W fun r w' => r = .returned (.int .u32 v) ∧ ∃ q, w' = W.drewN q by rw [HW.out]; exact H2.out q).mono ?_
  rintro r w2 ⟨rfl, q2, rfl⟩
  have hb2 : (W.drewN q2).heap[g]? = some (.cells #[.slice (some ⟨gb, o, none⟩) n c, .int .i64 k, .int .i64 0] 66 (0, 0)) := by rw [HW.out]; exact HB.out
  have hg2 := lt_of_heap hb2
  obtain ⟨d0, d1, d2, e0, e1, e2⟩ := blk3 hb2
  have HB2 := Lib.hid hb2
  have HX2 := Lib.hid (HX.out.trans ((Ext.refl W).drewN q2))
  clear hb2 c0 c1 c2 f0 f1 f2
  generalize W.drewN q2 = W2 at *
  go_wp2_with fail
  go_ret
  exact ⟨rfl, heap_setCell_same W2 g 1 _ _ (.int .i64 ((k : Int) + 4)) HB2.out, (HX2.out.upd _).setCell _ _ (by simp)⟩
end Go.Proofs.YtcnbgcoklbmdaaaDoor
