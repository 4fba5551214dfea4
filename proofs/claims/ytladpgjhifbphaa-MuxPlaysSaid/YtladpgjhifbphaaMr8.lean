/- The walks of Xid, of 'same' and of the law MuxRows. -/
import Derived.Test.YtladpgjhifbphaaMr7
namespace Go.Proofs.Ytladpgjhifbphaa
open Go.ChangeShapes Go.WideShapes Go.ChangeAt Go.RowKit

set_option maxRecDepth 100000 in
set_option maxHeartbeats 2000000 in
theorem same_yes (w : World) (b1 b2 : Nat) (v1 v2 : Value) (xs : List Int) (h1 : URow w b1 v1 xs) (h2 : URow w b2 v2 xs) (hl : xs.length ≤ 1000) :
    Calls Try.prog 20 #[v1, v2] w fun r w' => r = .returned (.bool true) ∧ Ext w w' := by
  have H1 := Lib.hid h1
  have H2 := Lib.hid h2
  obtain ⟨a1, c1, rfl, hc1, hm1, -⟩ := h1.form
  obtain ⟨a2, c2, rfl, hc2, hm2, -⟩ := h2.form
  obtain ⟨n, hn⟩ : ∃ n, n = xs.length := ⟨_, rfl⟩
  rw [← hn] at H1 H2 hl hc1 hc2 ⊢
  have HN := Lib.hid hn
  unfold maxLen at hm1 hm2
  clear h1 h2 hn
  go_enter Try.func20, Try.ntmps20
  go_wp2_with fail
  go_loopw [5] (fun v5 wr => ∃ j : Nat, j ≤ n ∧ v5 = .int .i64 j ∧ Ext w wr) (fun v5 _ => n - (intOf v5).toNat)
  case atStart => exact ⟨0, by omega, rfl, Ext.refl _⟩
  case round =>
    obtain ⟨j, hj, rfl, hx⟩ := hrel
    by_cases hjn : j < n
    · have hjl : j < xs.length := by rw [← HN.out]; exact hjn
      obtain ⟨a1', c1', e1, -, -, hcell1⟩ := (H1.out.ext hx).form
      obtain ⟨a2', c2', e2, -, -, hcell2⟩ := (H2.out.ext hx).form
      injection e1 with e1 _ e1'
      injection e2 with e2 _ e2'
      subst e1 e1' e2 e2'
      obtain ⟨g1, rfl, hg1, q1, -⟩ := hcell1 j hjl
      obtain ⟨g2, rfl, hg2, q2, -⟩ := hcell2 j hjl
      have hd : decide (j < n) = true := by simpa using hjn
      have hj0 : (0 : Int) ≤ (j : Int) := by omega
      have hj1 : (j : Int) < (n : Int) := by omega
      generalize xs[j] = xj at *
      have HX := Lib.hid hx
      clear hx hcell1 hcell2
      go_wp2_with fail
      go_quiet (fail)
      go_wp2_with fail
      go_roundw
      case rel => exact ⟨j + 1, by omega, by go_num, HX.out.drewN _⟩
      case measure => simp [intOf]; omega
    · have hd : decide (j < n) = false := by simpa using hjn
      have HX := Lib.hid hx
      clear hx
      go_wp2_with fail
      go_ret
      exact ⟨rfl, HX.out⟩

/-- Two calls in a row of their own. -/
theorem CRow.two (w : World) (a b : Int) : CRow (w.alloc (.cells #[.int .u32 a, .int .u32 0, .int .i64 0, .int .u32 b, .int .u32 0, .int .i64 0] 51)) w.heap.size (.slice (some ⟨w.heap.size, 0, none⟩) 2 2) [⟨a, 0, 0⟩, ⟨b, 0, 0⟩] :=
  ⟨rfl, .inr ⟨w.heap.size, 2, _, rfl, Nat.le_refl _, heap_alloc_new w _, by simp, by unfold maxLen; omega, rfl, rfl⟩⟩

set_option maxRecDepth 100000 in
set_option maxHeartbeats 8000000 in
theorem muxRows_walk (first : Int) (w0 : (Lit.int .u32 first).wf = true) (many : Int) (w1 : (Lit.int .i64 many).wf = true) (w : World) :
    Calls Try.prog 7 #[.int .u32 first, .int .i64 many] w fun r w' => r = .returned (.bool true) ∧ Ext w w' := by
  have hf : 0 ≤ first ∧ first ≤ 4294967295 := by simpa [Lit.wf, IntKind.min, IntKind.max, IntKind.signed, IntKind.bits] using w0
  have hm : -9223372036854775808 ≤ many ∧ many ≤ 9223372036854775807 := by simpa [Lit.wf, IntKind.min, IntKind.max, IntKind.signed, IntKind.bits] using w1
  have hab := arnd_bd many 20 (by omega)
  obtain ⟨n, hn⟩ := Int.eq_ofNat_of_zero_le hab.1
  have hn5 : n ≤ 19 := by omega
  have HA := Lib.hid (show ∀ W, Calls Try.prog 9 #[.int .i64 many, .int .i64 20] W fun r w' => r = .returned (.int .i64 (n : Nat)) ∧ W = w' from
    fun W => (around_any many 20 W (by omega) hm.1 hm.2).mono fun r w' h => by rw [← hn]; exact h)
  obtain ⟨hf0, hf1⟩ := hf
  have HNo := Lib.hid (show ∀ i : Nat, i ≤ 20 → lookC [(⟨first, 1, 1⟩ : MC)] ((first + i + 1) % 4294967296) = none from fun i hi => by
    have : first ≠ (first + i + 1) % 4294967296 := by omega
    simp [lookC, this])
  clear w0 w1 hn hab hm
  go_enter Try.func7, Try.ntmps7
  go_wp2_with fail
  refine (new_yes first 3 w (by omega) (by omega)).mono ?_
  rintro r wa ⟨rfl, hma, hxa⟩
  have MA := Lib.hid hma
  have XA := Lib.hid hxa
  clear hma hxa
  go_wp2_with fail
  refine (call_at _ _ _ _ _ 1 1 _ MA.out (by simp) hf0 (by omega) 0 (Free.zero hf0 (by omega) rfl) (by omega) first ((first + (0 : Nat) + 1) % 4294967296) (by omega) (by omega)).mono ?_
  rintro r wb ⟨rfl, hmb, hub⟩
  have MB := Lib.hid hmb
  have XB := Lib.hid (hub.ext XA.out (by simp))
  clear hmb hub MA
  go_wp2_with fail
  refine (HA.out _).mono ?_
  rintro r wb' ⟨rfl, rfl⟩
  go_wp2_with fail
  go_loopw [10, 11] (fun v10 v11 wr => ∃ i : Nat, i ≤ n ∧ v11 = .int .i64 i ∧ v10 = .int .u32 ((first + i) % 4294967296) ∧ MuxW wr (w.heap.size + 1) w.heap.size ((first + i + 1) % 4294967296) 3 [(⟨first, 1, 1⟩ : MC)] ∧ Ext w wr) (fun _ v11 _ => n - (intOf v11).toNat)
  case atStart => exact ⟨0, by omega, rfl, congrArg (Value.int .u32) (by omega), MB.out, XB.out⟩
  case round =>
    obtain ⟨i, hi, rfl, rfl, hM, hX⟩ := hrel
    have HM := Lib.hid hM
    have HX := Lib.hid hX
    clear hM hX MB XB XA
    by_cases hlt : i < n
    · have hd : decide ((i : Int) < (n : Int)) = true := by simp; omega
      go_wp2_with fail
      refine (call_at _ _ _ _ _ 2 i _ HM.out (by simp) (by omega) (by omega) 0 (Free.zero (by omega) (by omega) (HNo.out i (by omega))) (by omega) ((first + i + 1) % 4294967296) ((first + (i + 1 : Nat) + 1) % 4294967296) (by omega) (by omega)).mono ?_
      rintro r w3 ⟨rfl, hm3, hu3⟩
      have hmt := match_ok _ _ _ _ _ ((first + i + 1) % 4294967296) ⟨(first + i + 1) % 4294967296, 2, i⟩ _ hm3 (lookC_app (HNo.out i (by omega)))
      rw [delC_app (HNo.out i (by omega))] at hmt
      have HMt := Lib.hid hmt
      have X3 := Lib.hid (hu3.ext HX.out (by simp))
      have e1 : ((first + (i : Int) + 1) % 4294967296 == first) = false := by simp; omega
      clear hm3 hu3 hmt
      go_wp2_with fail
      refine HMt.out.mono ?_
      rintro r w4 ⟨rfl, hm4, hu4⟩
      have M4 := Lib.hid hm4
      have X4 := Lib.hid (hu4.ext X3.out (by simp))
      clear hm4 hu4
      go_wp2_with fail
      go_roundw
      case rel => exact ⟨i + 1, by omega, by go_num, congrArg (Value.int .u32) (by omega), M4.out, X4.out⟩
      case measure => simp [intOf]; omega
    · obtain rfl : i = n := by omega
      have hd : decide ((i : Int) < (i : Int)) = false := by simp
      go_wp2_with fail
      refine (call_at _ _ _ _ _ 3 3 _ HM.out (by simp) (by omega) (by omega) 0 (Free.zero (by omega) (by omega) (HNo.out i (by omega))) (by omega) ((first + i + 1) % 4294967296) ((first + i + 1 + 1) % 4294967296) (by omega) (by omega)).mono ?_
      rintro r w3 ⟨rfl, hm3, hu3⟩
      have M3 := Lib.hid hm3
      have X3 := Lib.hid (hu3.ext HX.out (by simp))
      have hE : (first + (i : Int) + 1) % 4294967296 = (first + (i : Int) + 1) % 4294967296 := rfl
      clear hm3 hu3 hE
      go_wp2_with fail
      refine (has_any _ _ _ _ _ _ _ M3.out).mono ?_
      rintro r w4 ⟨rfl, hx4⟩
      rw [show (lookC ([(⟨first, 1, 1⟩ : MC)] ++ [⟨(first + (i : Int) + 1) % 4294967296, 3, 3⟩]) first).isSome = true by simp [lookC]]
      have M4 := Lib.hid (M3.out.ext hx4)
      have X4 := Lib.hid (X3.out.trans hx4)
      clear hx4
      generalize hb : (first + (i : Int) + 1) % 4294967296 = b at *
      go_wp2_with fail
      refine (live_any _ _ _ _ _ _ M4.out (by simp)).mono ?_
      rintro r w5 ⟨v5, y5, rfl, p5, o5, r5, hx5⟩
      have hC := CRow.two w5 first b
      have P5 := Lib.hid p5
      have O5 := Lib.hid o5
      have R5 := Lib.hid r5
      have X5 := Lib.hid (X4.out.trans hx5)
      have HC := Lib.hid hC
      clear p5 o5 r5 hx5 hC
      go_wp2_with fail
      refine (refLive _ _ _ _ _ _ HC.out (by simp)).mono ?_
      rintro r w6 ⟨v6, y6, rfl, p6, o6, r6, hx6⟩
      have hx56 : Ext w5 w6 := ((Ext.refl w5).alloc _).trans hx6
      have hy : y5 = y6 := List.Perm.eq_of_pairwise (fun x y _ _ h1 h2 => Int.le_antisymm h1 h2) O5.out.pair o6 (P5.out.trans (by simpa using p6.symm))
      subst hy
      have S6 := Lib.hid (fun W (hW : Ext w6 W) => same_yes W _ _ v5 v6 y5 ((R5.out.ext hx56).ext hW) (r6.ext hW) (by have := P5.out.length_eq; simp at this; omega))
      have X6 := Lib.hid (X5.out.trans hx56)
      clear p6 o6 r6 hx6 hx56
      go_wp2_with fail
      refine (S6.out _ (Ext.refl _)).mono ?_
      rintro r w7 ⟨rfl, hx7⟩
      have X7 := Lib.hid (X6.out.trans hx7)
      clear hx7
      go_wp2_with fail
      refine (lives_any _).mono ?_
      rintro r w8 ⟨rfl, hx8⟩
      have X8 := Lib.hid (X7.out.trans hx8)
      clear hx8
      go_wp2_with fail
      go_ret
      exact ⟨rfl, X8.out⟩
end Go.Proofs.Ytladpgjhifbphaa
