/- The walks of the laws CodesOf and CodesTotal. -/
import Derived.Test.YtfbdahhlhmdicaaDoorA4
namespace Go.Proofs.YtfbdahhlhmdicaaDoor
open Go.ChangeShapes Go.WideShapes Go.ChangeAt Go.RowKit

theorem byE_self (k : Nat) (hk : k < 19) : byE (rowAt k).e = rowAt k := (show ∀ k, k < 19 → byE (rowAt k).e = rowAt k by decide) k hk
theorem byS_self (k : Nat) (hk : k < 19) : byS (rowAt k).s = rowAt k := (show ∀ k, k < 19 → byS (rowAt k).s = rowAt k by decide) k hk
theorem byE_is (e : Int) : ∃ k, k < 19 ∧ byE e = rowAt k := by
  obtain ⟨k, h, h2, _⟩ := byE_mem e
  exact ⟨k, h, h2⟩

def OfRel (w : World) (n : Int) (k : Nat) (wr : World) : Prop := k ≤ 2 ∧ wr.heap[w.heap.size]? = some (.cells #[.int .i64 n, .int .i64 (arnd n 26 - 1)] 22 (0, 0)) ∧ Ext w wr
theorem OfRel.cell {w wr : World} {n : Int} {k : Nat} (h : OfRel w n k wr) (hk : k < 2) : ∃ e, wr.cell? ⟨w.heap.size, k, none⟩ = some (.int .i64 e) := by
  have : k = 0 ∨ k = 1 := by omega
  rcases this with rfl | rfl <;> exact ⟨_, by simp only [World.cell?, h.2.1]; rfl⟩

set_option maxHeartbeats 1000000 in
theorem codesOf_walk (n : Int) (w0 : (Lit.int .i64 n).wf = true) (w : World) (ht : TabW w) :
    Calls Tryd.prog 3 #[.int .i64 n] w fun r w' => r = .returned (.bool true) ∧ Ext w w' := by
  have hx : -9223372036854775808 ≤ n ∧ n ≤ 9223372036854775807 := by simpa [Lit.wf, IntKind.min, IntKind.max, IntKind.signed, IntKind.bits] using w0
  have HT := Lib.hid ht
  have hab := arnd_bd n 26 (by omega)
  clear ht w0
  go_enter Tryd.func3, Tryd.ntmps3
  go_wp2_with fail
  refine (around_any n 26 w (by omega) hx.1 hx.2).mono ?_
  rintro r w2 ⟨rfl, rfl⟩
  go_wp2_with fail
  go_loopw [4] (fun v4 wr => ∃ k : Nat, v4 = .int .i64 k ∧ OfRel w n k wr) (fun v4 _ => 2 - (intOf v4).toNat)
  case atStart => exact ⟨0, rfl, by omega, heap_alloc_new w _, (Ext.refl w).alloc _⟩
  case round =>
    obtain ⟨k, rfl, HR⟩ := hrel
    have hk := HR.1
    have hTr := HT.out.ext HR.2.2
    have HTr := Lib.hid hTr
    clear hTr
    by_cases hlt : k < 2
    · have hd : decide ((k : Int) < 2) = true := by simp; omega
      obtain ⟨e, hc⟩ := HR.cell hlt
      have hsz : w.heap.size < wr.heap.size := (Array.getElem?_eq_some_iff.1 HR.2.1).1
      go_wp2_with fail
      refine (status_any e _ HTr.out).mono ?_
      rintro r w1 ⟨rfl, hx1⟩
      have H1 := Lib.hid hx1
      clear hx1 hc
      go_wp2_with fail
      refine (refStatus_any e _).mono ?_
      rintro r w2 ⟨rfl, hx2⟩
      have H2 := Lib.hid (H1.out.trans hx2)
      clear hx2 H1
      go_wp2_with fail
      refine (code_any e _ (HTr.out.ext H2.out)).mono ?_
      rintro r w3 ⟨rfl, hx3⟩
      have H3 := Lib.hid (H2.out.trans hx3)
      clear hx3 H2
      go_wp2_with fail
      refine (refCode_any e _).mono ?_
      rintro r w4 ⟨rfl, hx4⟩
      have H4 := Lib.hid (H3.out.trans hx4)
      clear hx4 H3
      go_wp2_with fail
      refine (text_any e _ (HTr.out.ext H4.out)).mono ?_
      rintro r w5 ⟨rfl, hx5⟩
      have H5 := Lib.hid (H4.out.trans hx5)
      clear hx5 H4
      go_wp2_with fail
      refine (refText_any e _).mono ?_
      rintro r w6 ⟨rfl, hx6⟩
      have H6 := Lib.hid (H5.out.trans hx6)
      clear hx6 H5
      go_wp2_with fail
      go_roundw
      case rel => exact ⟨k + 1, by go_num, by omega, H6.out.heap HR.2.1, HR.2.2.trans H6.out⟩
      case measure => simp [intOf]; omega
    · have hd : decide ((k : Int) < 2) = false := by simp; omega
      go_wp2_with fail
      refine (lives_any _ HTr.out).mono ?_
      rintro r w2 ⟨rfl, hx2⟩
      go_wp2_with fail
      go_ret
      exact ⟨rfl, HR.2.2.trans hx2⟩

set_option maxHeartbeats 1000000 in
theorem codesTotal_walk (n : Int) (_w0 : (Lit.int .i64 n).wf = true) (w : World) (ht : TabW w) :
    Calls Tryd.prog 5 #[.int .i64 n] w fun r w' => r = .returned (.bool true) ∧ Ext w w' := by
  have HT := Lib.hid ht
  clear ht
  obtain ⟨i, hi, he⟩ := byE_is n
  have hs := byS_self i hi
  have hee := byE_self i hi
  have hcc := code_at i hi
  have hbc := byC_in i hi
  have He := Lib.hid he
  have Hs := Lib.hid hs
  have Hee := Lib.hid hee
  have Hcc := Lib.hid hcc
  have Hbc := Lib.hid hbc
  clear he hs hee hcc hbc
  go_enter Tryd.func5, Tryd.ntmps5
  go_wp2_with fail
  refine (status_any n _ HT.out).mono ?_
  rintro r w1 ⟨rfl, hx1⟩
  rw [He.out]
  have H1 := Lib.hid hx1
  clear hx1
  go_wp2_with fail
  refine (fromStatus_any _ _ (HT.out.ext H1.out)).mono ?_
  rintro r w2 ⟨rfl, hx2⟩
  rw [Hs.out]
  have H2 := Lib.hid (H1.out.trans hx2)
  clear hx2 H1
  go_wp2_with fail
  refine (code_any _ _ (HT.out.ext H2.out)).mono ?_
  rintro r w3 ⟨rfl, hx3⟩
  rw [Hee.out, Hcc.out]
  have H3 := Lib.hid (H2.out.trans hx3)
  clear hx3 H2
  have hd0 : decide ((i : Int) < 19) = true := by simp; omega
  go_wp2_with fail
  refine (fromCode_any _ _ (HT.out.ext H3.out)).mono ?_
  rintro r w4 ⟨rfl, hx4⟩
  rw [Hbc.out]
  have H4 := Lib.hid (H3.out.trans hx4)
  clear hx4 H3
  go_wp2_with fail
  refine (code_any _ _ (HT.out.ext H4.out)).mono ?_
  rintro r w5 ⟨rfl, hx5⟩
  rw [He.out, Hcc.out]
  have H5 := Lib.hid (H4.out.trans hx5)
  clear hx5 H4
  go_wp2_with fail
  refine (lives_any _ (HT.out.ext H5.out)).mono ?_
  rintro r w6 ⟨rfl, hx6⟩
  have H6 := Lib.hid (H5.out.trans hx6)
  clear hx6 H5
  go_wp2_with fail
  go_ret
  exact ⟨rfl, H6.out⟩
end Go.Proofs.YtfbdahhlhmdicaaDoor
