/- The walk of the document's Decimal at every number; of a fault's Error. -/
import Derived.Test.YtcnbgcoklbmdaaaDoorFaF
namespace Go.Proofs.YtcnbgcoklbmdaaaDoor
open Go.ChangeShapes Go.WideShapes Go.ChangeAt Go.RowKit

theorem num_step_neg (m : Int) (h : 10 ≤ m) : numS (-(m / 10)) ++ strOfNums [48 + m % 10] = numS (-m) := by
  rw [← num_neg (m / 10) (by omega), ← num_neg m (by omega), ← num_step m h]
  apply ByteArray.ext
  simp
set_option maxRecDepth 100000 in
set_option maxHeartbeats 1000000 in
theorem dec_neg (k : Nat) : ∀ (m : Int), 0 < m → m ≤ 9223372036854775808 → m.toNat ≤ k → ∀ (n : Int), n = -m → ∀ w,
    Calls Tryd.prog 16 #[.int .i64 n] w fun r w' => r = .returned (.string (numS (-m))) ∧ Ext w w' := by
  induction k with
  | zero => exact fun m h0 _ h2 => by omega
  | succ k ih =>
    intro m h0 hm h2 n hn w
    have hr : n.tmod 10 = -(m % 10) := by rw [hn, Int.neg_tmod, Int.tmod_eq_emod_of_nonneg (by omega)]
    have hq : n.tdiv 10 = -(m / 10) := by rw [hn, Int.neg_tdiv, Int.tdiv_eq_ediv_of_nonneg (by omega)]
    have hdn : decide (n < 0) = true := by simp; omega
    have hd3 : decide (n < 10) = true := by simp; omega
    obtain ⟨r, hrr⟩ : ∃ r, r = m % 10 := ⟨_, rfl⟩
    obtain ⟨q, hqq⟩ : ∃ q, q = m / 10 := ⟨_, rfl⟩
    rw [← hrr] at hr
    rw [← hqq] at hq
    have hr0 : 0 ≤ r := by omega
    have hr1 : r < 10 := by omega
    have hcv := run_digit w (48 + r)
    have hs2 : (strOfNums [48 + r]).size ≤ 1 := by rw [strOfNums_size]; simp
    by_cases h1 : m < 10
    · have hE : (⟨#[45]⟩ : ByteArray) ++ strOfNums [48 + r] = numS (-m) := by
        have : r = m := by omega
        rw [this, digit_eq m (by omega) h1, num_neg m h0]
      have HE := Lib.hid hE
      have hrp : 0 < r := by omega
      have hd0 : decide (-r < 0) = true := by simp; omega
      have hd2 : decide (-10 < n) = true := by simp; omega
      clear ih hE hrr hqq hn hq h2
      go_enter Tryd.func16, Tryd.ntmps16
      go_wp2_with fail
      go_ret
      exact ⟨by rw [← HE.out]; rfl, (Ext.refl w).alloc _⟩
    · have hE := num_step_neg m (by omega)
      rw [← hrr, ← hqq] at hE
      have HE := Lib.hid hE
      have HI := Lib.hid (fun W => ih q (by omega) (by omega) (by omega) (-q) rfl W)
      have hd2 : decide (-10 < n) = false := by simp; omega
      have hs1 := numS_size (-q) (by omega) (by omega)
      have hnb : -9223372036854775808 ≤ n := by omega
      have hq1 : 0 < q := by omega
      have hq2 : q ≤ 922337203685477580 := by omega
      clear ih hE hrr hqq hn h2 h1
      by_cases hz : r = 0
      · subst hz
        have hr' : n.tmod 10 = 0 := by rw [hr]; rfl
        have hcv' := run_digit w 48
        have hs2' : (strOfNums [48]).size ≤ 1 := by rw [strOfNums_size]; simp
        clear hr hcv hs2
        go_enter Tryd.func16, Tryd.ntmps16
        go_wp2_with fail
        refine (HI.out _).mono ?_
        rintro r w2 ⟨rfl, hx⟩
        have HX := Lib.hid (((Ext.refl w).alloc _).trans hx)
        clear hx
        go_wp2_with fail
        go_ret
        exact ⟨by rw [← HE.out]; rfl, HX.out⟩
      · have hd0 : decide (-r < 0) = true := by simp; omega
        go_enter Tryd.func16, Tryd.ntmps16
        go_wp2_with fail
        refine (HI.out _).mono ?_
        rintro r w2 ⟨rfl, hx⟩
        have HX := Lib.hid (((Ext.refl w).alloc _).trans hx)
        clear hx
        go_wp2_with fail
        go_ret
        exact ⟨by rw [← HE.out]; rfl, HX.out⟩
theorem decimal_any (n : Int) (h0 : -9223372036854775808 ≤ n) (h1 : n ≤ 9223372036854775807) (w : World) :
    Calls Tryd.prog 16 #[.int .i64 n] w fun r w' => r = .returned (.string (numS n)) ∧ Ext w w' := by
  by_cases h : 0 ≤ n
  · exact dec_pos n.toNat n h h1 (Nat.le_refl _) w
  · have := dec_neg (-n).toNat (-n) (by omega) (by omega) (Nat.le_refl _) n (by omega) w
    rwa [Int.neg_neg] at this
end Go.Proofs.YtcnbgcoklbmdaaaDoor
