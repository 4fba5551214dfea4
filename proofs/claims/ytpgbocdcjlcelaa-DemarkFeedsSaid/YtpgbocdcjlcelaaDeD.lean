/- The document's example; the walk of the law DemarkNews. -/
import Derived.Test.YtpgbocdcjlcelaaDeC
namespace Go.Proofs.Ytpgbocdcjlcelaa
open Go.ChangeShapes Go.WideShapes Go.ChangeAt Go.RowKit

def exb : List Int := [0, 0, 0, 1, 97, 128, 0, 0, 1, 98]
theorem ex_feed : feed 10 3 exb (St.new, []) = (⟨0, [], [], 0, 0, true, 0⟩, [[97, 98]]) := by rfl
theorem new_apart {w : World} {b g m f : Nat} {s : St} {vn vr : Value} (h : DW w b g m f s vn vr) {ga : Nat} (hg : w.heap.size ≤ ga) : ga ∉ foot g vn vr := fun hm => by have := (h.foot_low hm).2; omega
/-- Bytes that stand in the text. -/
theorem const_row (W : World) (zs : List Int) (hz : ∀ z ∈ zs, (Lit.int .u8 z).wf = true) (hl : zs.length ≤ 100000) (mk : Nat × Nat) : IsRow .u8 (W.alloc (.cells (bv zs).toArray 5 mk)) (some ⟨W.heap.size, 0, none⟩) zs.length zs.length zs := by
  refine ⟨rfl, Nat.le_refl _, by unfold maxLen; omega, hz, .inr ⟨W.heap.size, 0, rfl, fun i hi => ?_⟩⟩
  simp only [World.cell?, heap_alloc_new]
  simp [bv, List.getD, List.getElem?_eq_getElem hi]
set_option maxRecDepth 100000 in
set_option maxHeartbeats 2000000 in
theorem lives_any (w : World) : Calls Try.prog 20 #[] w fun r w' => r = .returned (.bool true) ∧ Ext w w' := by
  have hcv := fun W => Go.Lib.run_convert_bytes_const (P := Try.prog) W 22 5 #[.int .u8 0, .int .u8 0, .int .u8 0, .int .u8 1, .int .u8 97, .int .u8 128, .int .u8 0, .int .u8 0, .int .u8 1, .int .u8 98] 10 10 Try.underlying22 Try.underlying5
  have hcw := fun W => Go.Lib.run_convert_bytes_const (P := Try.prog) W 22 5 #[.int .u8 97, .int .u8 98] 2 2 Try.underlying22 Try.underlying5
  go_enter Try.func20, Try.ntmps20
  go_wp2_with fail
  refine (new_ok 10 3 (by omega) (by omega) (by omega) w).mono ?_
  rintro r w1 ⟨rfl, hD, hX⟩
  have HD := Lib.hid hD
  have HX := Lib.hid hX
  have hlt := hD.lt
  clear hD hX
  go_wp2_with fail
  have HX2 := Lib.hid (show Ext w1 (w1.alloc (.cells (bv exb).toArray 5 (10, 11))) from (Ext.refl w1).alloc _)
  refine (feed_any (HD.out.ext HX2.out) (Inv.new 10 3) (by have := HX.out.size; have := HX2.out.size; omega) (by omega) (by omega) (some ⟨w1.heap.size, 0, none⟩) 10 10 exb (const_row w1 exb (by decide) (by decide) (10, 11))
    (fun ga o e => by simp only [Option.some.injEq, Addr.mk.injEq] at e; rw [← e.1]; exact new_apart HD.out (Nat.le_refl _)) (by omega)).mono ?_
  rintro r w2 ⟨v, rfl, vn, vr, hD2, hT2, hU2, hF2, _⟩
  rw [ex_feed] at hD2 hT2
  have hX3 : Ext w w2 := hU2.ext (HX.out.trans HX2.out) (fun k hk => (HD.out.foot_low hk).1)
  have HD2 := Lib.hid hD2
  have HX3 := Lib.hid hX3
  obtain ⟨a, c, rfl, hR, _⟩ := hT2.owns.rows
  have HR := Lib.hid hR
  have hlt2 := hD2.lt
  clear hD2 hT2 hU2 hF2 hX3 hR
  go_wp2_with fail
  have hX4 : Ext w2 ((w2.alloc (.cells (bv [97, 98]).toArray 5 (2, 3))).alloc (.cells #[.slice (some ⟨w2.heap.size, 0, none⟩) 2 2] 22)) := ((Ext.refl w2).alloc _).alloc _
  have HX4 := Lib.hid hX4
  have hR2 : IsRows Plain ((w2.alloc (.cells (bv [97, 98]).toArray 5 (2, 3))).alloc (.cells #[.slice (some ⟨w2.heap.size, 0, none⟩) 2 2] 22)) (some ⟨w2.heap.size + 1, 0, none⟩) 1 1 [[97, 98]] := by
    refine ⟨rfl, by omega, by unfold maxLen; omega, .inr ⟨_, 0, rfl, fun i hi => ?_⟩⟩
    obtain rfl : i = 0 := by omega
    refine ⟨some ⟨w2.heap.size, 0, none⟩, 2, ?_, (const_row w2 [97, 98] (by decide) (by decide) (2, 3)).ext ((Ext.refl _).alloc _), .inr ⟨_, _, rfl⟩⟩
    have e : w2.heap.size + 1 = (w2.alloc (.cells (bv [97, 98]).toArray 5 (2, 3))).heap.size := by simp
    rw [e]
    simp only [World.cell?, heap_alloc_new]
    rfl
  have HR2 := Lib.hid hR2
  clear hX4 hR2
  refine (sameBytes_yes _ a (some ⟨w2.heap.size + 1, 0, none⟩) 1 c 1 [[97, 98]] (HR.out.ext HX4.out) HR2.out (by omega)).mono ?_
  rintro r w3 ⟨rfl, hX5⟩
  have HX5 := Lib.hid (HX4.out.trans hX5)
  clear hX5
  go_wp2_with fail
  refine (clean_any (HD2.out.ext HX5.out) (by decide) (by decide)).mono ?_
  rintro r w4 ⟨rfl, rfl⟩
  go_wp2_with fail
  go_ret
  exact ⟨rfl, HX3.out.trans HX5.out⟩
end Go.Proofs.Ytpgbocdcjlcelaa
