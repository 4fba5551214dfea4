/- lives; messages that are compared. -/
import Derived.Test.YtcnbgcoklbmdaaaDoorRp2
import Derived.Test.YtcnbgcoklbmdaaaDoorRpX
import Derived.Laws.StructEq
namespace Go.Proofs.YtcnbgcoklbmdaaaDoor
open Go.ChangeShapes Go.WideShapes Go.ChangeAt Go.RowKit

set_option maxHeartbeats 1000000 in
theorem lives_any (w : World) : Calls Tryd.prog 15 #[] w fun r w' => r = .returned (.bool true) ∧ Ext w w' := by
  have HW := Lib.hid (write_any false 7 3 (by omega) (by omega) none 0 0 [] (by omega) w ⟨rfl, by omega, by unfold maxLen; omega, by simp, .inl rfl⟩ (.inl ⟨rfl, rfl⟩))
  go_enter Tryd.func15, Tryd.ntmps15
  go_wp2_with fail
  refine HW.out.mono ?_
  rintro r w1 ⟨v, rfl, hO, hX⟩
  have hl : (bv (bytesM false 7 3 [])).length = 24 := rfl
  obtain ⟨g, cap, rfl, _, hg, hc1, hc2, q3, _⟩ := hO.cell (i := 3) (by rw [hl]; omega)
  obtain ⟨g', cap', hv, _, _, _, _, q23, _⟩ := hO.cell (i := 23) (by rw [hl]; omega)
  injection hv with h1 h2 h3
  injection h1 with h1
  injection h1 with h1 _ _
  subst h1
  have e3 : (bv (bytesM false 7 3 []))[3]'(by rw [hl]; omega) = .int .u8 7 := rfl
  have e23 : (bv (bytesM false 7 3 []))[23]'(by rw [hl]; omega) = .int .u8 3 := rfl
  rw [e3] at q3
  rw [e23] at q23
  rw [hl]
  have HX := Lib.hid hX
  rw [hl] at hc1
  clear hO hX e3 e23 hl h2 h3
  unfold maxLen at hc2
  go_wp2_with fail
  go_ret
  exact ⟨rfl, HX.out⟩

theorem run_eqM (m k : MV) (W : World) : (binOp .eql 25 m.val k.val).run Tryd.prog W = .ok (.bool (eqM m k)) W := by
  obtain ⟨r1, x1, p1, s1⟩ := m
  obtain ⟨r2, x2, p2, s2⟩ := k
  simp only [MV.val, MV.cells, eqM]
  by_cases hr : r1 = r2
  · by_cases hx : x1 = x2
    · by_cases hp : p1 = p2
      · subst hr hx hp
        go_simp
        by_cases h : s1.toList = s2.toList <;> simp [h]
      · have hd : (p1 == p2) = false := by simpa using hp
        subst hr hx
        go_simp
    · have hd : (x1 == x2) = false := by simpa using hx
      subst hr
      go_simp
  · have hd : (r1 == r2) = false := by simpa using hr
    go_simp
end Go.Proofs.YtcnbgcoklbmdaaaDoor
