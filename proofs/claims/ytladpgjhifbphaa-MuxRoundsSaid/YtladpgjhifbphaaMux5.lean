/- The walk of the law MuxRounds. -/
import Derived.Test.YtladpgjhifbphaaMux4
namespace Go.Proofs.Ytladpgjhifbphaa
open Go.ChangeShapes Go.WideShapes Go.ChangeAt Go.RowKit

set_option maxHeartbeats 2000000 in
theorem muxRounds_walk (a : Int) (w0 : (Lit.int .i64 a).wf = true) (b : Int) (w1 : (Lit.int .i64 b).wf = true) (w : World) :
    Calls Try.prog 5 #[.int .i64 a, .int .i64 b] w fun r w' => r = .returned (.bool true) ∧ Ext w w' := by
  have ha : -9223372036854775808 ≤ a ∧ a ≤ 9223372036854775807 := by simpa [Lit.wf, IntKind.min, IntKind.max, IntKind.signed, IntKind.bits] using w0
  have hb : -9223372036854775808 ≤ b ∧ b ≤ 9223372036854775807 := by simpa [Lit.wf, IntKind.min, IntKind.max, IntKind.signed, IntKind.bits] using w1
  have hab := arnd_bd a 5 (by omega)
  obtain ⟨x, hx⟩ := Int.eq_ofNat_of_zero_le hab.1
  have hx4 : x ≤ 4 := by omega
  have HA := Lib.hid (show ∀ W, Calls Try.prog 9 #[.int .i64 a, .int .i64 5] W fun r w' => r = .returned (.int .i64 (x : Nat)) ∧ W = w' from
    fun W => (around_any a 5 W (by omega) ha.1 ha.2).mono fun r w' h => by rw [← hx]; exact h)
  have hbb := arnd_bd b 5 (by omega)
  obtain ⟨y, hy⟩ := Int.eq_ofNat_of_zero_le hbb.1
  have hy4 : y ≤ 4 := by omega
  have HB := Lib.hid (show ∀ W, Calls Try.prog 9 #[.int .i64 b, .int .i64 5] W fun r w' => r = .returned (.int .i64 (y : Nat)) ∧ W = w' from
    fun W => (around_any b 5 W (by omega) hb.1 hb.2).mono fun r w' h => by rw [← hy]; exact h)
  clear w0 w1 hx hy hab hbb ha hb
  go_enter Try.func5, Try.ntmps5
  go_wp2_with fail
  refine (HA.out _).mono ?_
  rintro r wb ⟨rfl, rfl⟩
  go_wp2_with fail
  refine (HB.out _).mono ?_
  rintro r wb ⟨rfl, rfl⟩
  go_wp2_with fail
  refine (new_yes 0 16 w (by omega) (by omega)).mono ?_
  rintro r wa ⟨rfl, hma, hxa⟩
  have MA := Lib.hid hma
  have XA := Lib.hid hxa
  clear hma hxa
  go_wp2_with fail
  go_loopw [9] (fun v9 wr => ∃ i : Nat, i ≤ y ∧ v9 = .int .i64 i ∧ MuxW wr (w.heap.size + 1) w.heap.size i 16 (seqL 0 i) ∧ Ext w wr) (fun v9 _ => y - (intOf v9).toNat)
  case atStart => exact ⟨0, by omega, rfl, MA.out, XA.out⟩
  case round =>
    obtain ⟨i, hi, rfl, hM, hU⟩ := hrel
    have HM := Lib.hid hM
    have HU := Lib.hid hU
    clear hM hU
    by_cases hlt : i < y
    · have hd : decide ((i : Int) < (y : Int)) = true := by simp; omega
      have hfr : Free (seqL 0 i) (i : Int) 0 := by
        have := seqL_free 0 i (by omega)
        rwa [show ((0 : Int) + i) % 4294967296 = i by omega] at this
      have HFr := Lib.hid hfr
      clear hfr
      go_wp2_with fail
      refine (call_at _ _ _ _ _ 1 i _ HM.out (by rw [seqL_len]; omega) (by omega) (by omega) 0 HFr.out (by omega) i ((i + 1 : Nat) : Int) (by omega) (by omega)).mono ?_
      rintro r w3 ⟨rfl, hm3, hu3⟩
      have M3 := Lib.hid (show MuxW w3 (w.heap.size + 1) w.heap.size ((i + 1 : Nat) : Int) 16 (seqL 0 (i + 1)) by rw [seqL_succ, show ((0 : Int) + i) % 4294967296 = i by omega]; exact hm3)
      have U3 := Lib.hid (hu3.ext HU.out (by simp))
      clear hm3 hu3
      go_wp2_with fail
      go_roundw
      case rel => exact ⟨i + 1, by omega, by go_num, M3.out, U3.out⟩
      case measure => simp [intOf]; omega
    · have hd : decide ((i : Int) < (y : Int)) = false := by simp; omega
      obtain rfl : i = y := by omega
      go_wp2_with fail
      refine (new_yes (4294967295 - x) 16 _ (by omega) (by omega)).mono ?_
      rintro r wc ⟨rfl, hmc, hxc⟩
      have hgw : w.heap.size + 1 < wr.heap.size := lt_of_heap HM.out.ptr
      have M0 := Lib.hid (HM.out.ext hxc)
      have E0 := Lib.hid (HU.out.trans hxc)
      have MC0 := Lib.hid hmc
      clear hmc hxc HM HU
      generalize wr.heap.size = g at *
      go_wp2_with fail
      go_loopw [14] (fun v14 wr => ∃ j : Nat, j ≤ x + 1 ∧ v14 = .int .i64 j ∧ MuxW wr (g + 1) g ((4294967295 - x + j) % 4294967296) 16 (seqL (4294967295 - x) j) ∧ MuxW wr (w.heap.size + 1) w.heap.size i 16 (seqL 0 i) ∧ Ext w wr) (fun v14 _ => x + 1 - (intOf v14).toNat)
      case atStart => exact ⟨0, by omega, rfl, by rw [show ((4294967295 : Int) - x + (0 : Nat)) % 4294967296 = 4294967295 - x by omega]; exact MC0.out, M0.out, E0.out⟩
      case round =>
        obtain ⟨j, hj, rfl, hM, hM0, hU⟩ := hrel
        have HM := Lib.hid hM
        have HM0 := Lib.hid hM0
        have HU := Lib.hid hU
        clear hM hM0 hU
        by_cases hlt2 : j ≤ x
        · have hd2 : decide ((j : Int) ≤ (x : Int)) = true := by simp; omega
          go_wp2_with fail
          refine (call_at _ _ _ _ _ 1 j _ HM.out (by rw [seqL_len]; omega) (by omega) (by omega) 0 (seqL_free _ j (by omega)) (by omega) ((4294967295 - x + j) % 4294967296) ((4294967295 - x + (j + 1 : Nat)) % 4294967296) (by omega) (by omega)).mono ?_
          rintro r w3 ⟨rfl, hm3, hu3⟩
          have M3 := Lib.hid hm3
          have M03 := Lib.hid (HM0.out.upd hu3 (by simp; omega) (by simp; omega))
          have U3 := Lib.hid (hu3.ext HU.out (by simp; omega))
          clear hm3 hu3
          go_wp2_with fail
          go_roundw
          case rel => exact ⟨j + 1, by omega, by go_num, by rw [seqL_succ]; exact M3.out, M03.out, U3.out⟩
          case measure => simp [intOf]; omega
        · have hd2 : decide ((j : Int) ≤ (x : Int)) = false := by simp; omega
          obtain rfl : j = x + 1 := by omega
          go_wp2_with fail
          refine (call_at _ _ _ _ _ 1 9 _ HM.out (by rw [seqL_len]; omega) (by omega) (by omega) 0 (seqL_free _ (x + 1) (by omega)) (by omega) 0 1 (by omega) (by omega)).mono ?_
          rintro r w3 ⟨rfl, hm3, hu3⟩
          have M3 := Lib.hid hm3
          have M03 := Lib.hid (HM0.out.upd hu3 (by simp; omega) (by simp; omega))
          have U3 := Lib.hid (hu3.ext HU.out (by simp; omega))
          clear hm3 hu3
          go_wp2_with fail
          refine (len_any _ _ _ _ _ _ M03.out).mono ?_
          rintro r w4 ⟨rfl, rfl⟩
          rw [seqL_len]
          go_wp2_with fail
          refine (len_any _ _ _ _ _ _ M3.out).mono ?_
          rintro r w4 ⟨rfl, rfl⟩
          rw [List.length_append, seqL_len, show (((x + 1 + [(⟨0, 1, 9⟩ : MC)].length : Nat)) : Int) = (x : Int) + 2 by simp; omega]
          go_wp2_with fail
          refine (lives_any _).mono ?_
          rintro r w4 ⟨rfl, hx4⟩
          go_wp2_with fail
          go_ret
          exact ⟨rfl, U3.out.trans hx4⟩
end Go.Proofs.Ytladpgjhifbphaa
