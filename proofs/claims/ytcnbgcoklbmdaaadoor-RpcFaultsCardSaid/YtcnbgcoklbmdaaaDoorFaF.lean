/- The walk of the document's Decimal: the library's numeral. -/
import Derived.Test.YtcnbgcoklbmdaaaDoorFaE
import Derived.Test.YtcnbgcoklbmdaaaDoorBy
namespace Go.Proofs.YtcnbgcoklbmdaaaDoor
open Go.ChangeShapes Go.WideShapes Go.ChangeAt Go.RowKit

/-- A numeral as a string. -/
def numS (n : Int) : ByteArray := ⟨(Lib.itoa n).toArray⟩
theorem run_digit (w : World) (c : Int) : (convert 22 9 (.slice (some ⟨w.heap.size, 0, none⟩) 1 1)).run Tryd.prog (w.alloc (.cells #[.int .u8 c] 5)) = .ok (.string (strOfNums [c])) (w.alloc (.cells #[.int .u8 c] 5)) :=
  run_convert_bytes_arg _ 22 5 Tryd.underlying22 Tryd.underlying5 w.heap.size 0 1 1 [c] rfl (fun i hi => by
    obtain rfl : i = 0 := by omega
    rw [cell_of (heap_alloc_new w _)]
    rfl) 9 Tryd.underlying9
theorem digit_eq (n : Int) (h0 : 0 ≤ n) (h1 : n < 10) : strOfNums [48 + n] = numS n := by
  unfold numS Lib.itoa
  rw [if_neg (by omega), Lib.decDigits, dif_pos (by omega)]
  obtain ⟨k, rfl⟩ := Int.eq_ofNat_of_zero_le h0
  have hk : k < 10 := by omega
  have : k = 0 ∨ k = 1 ∨ k = 2 ∨ k = 3 ∨ k = 4 ∨ k = 5 ∨ k = 6 ∨ k = 7 ∨ k = 8 ∨ k = 9 := by omega
  rcases this with rfl | rfl | rfl | rfl | rfl | rfl | rfl | rfl | rfl | rfl <;> decide
theorem dd_step (u : Nat) (h : 10 ≤ u) : Lib.decDigits u = Lib.decDigits (u / 10) ++ [UInt8.ofNat (48 + u % 10)] := by
  rw [Lib.decDigits, dif_neg (by omega)]
theorem dd_small (u : Nat) (h : u < 10) : Lib.decDigits u = [UInt8.ofNat (48 + u)] := by
  rw [Lib.decDigits, dif_pos h]
theorem num_step (n : Int) (h : 10 ≤ n) : numS (n / 10) ++ strOfNums [48 + n % 10] = numS n := by
  rw [digit_eq (n % 10) (by omega) (by omega)]
  unfold numS Lib.itoa
  rw [if_neg (by omega), if_neg (by omega), if_neg (by omega)]
  obtain ⟨k, rfl⟩ := Int.eq_ofNat_of_zero_le (show 0 ≤ n by omega)
  have e1 : ((k : Int) / 10).toNat = k / 10 := by omega
  have e2 : ((k : Int) % 10).toNat = k % 10 := by omega
  rw [e1, e2, Int.toNat_natCast, dd_step k (by omega), dd_small (k % 10) (by omega)]
  apply ByteArray.ext
  simp
theorem num_neg (n : Int) (h : 0 < n) : (⟨#[45]⟩ : ByteArray) ++ numS n = numS (-n) := by
  unfold numS Lib.itoa
  rw [if_neg (by omega), if_pos (by omega)]
  have : (-n).natAbs = n.toNat := by omega
  rw [this]
  apply ByteArray.ext
  simp

theorem dd_len : ∀ (k u : Nat), u < 10 ^ (k + 1) → (Lib.decDigits u).length ≤ k + 1
  | 0, u, h => by rw [dd_small u (by simpa using h)]; simp
  | k + 1, u, h => by
    by_cases h1 : u < 10
    · rw [dd_small u h1]; simp
    · rw [dd_step u (by omega), List.length_append]
      have := dd_len k (u / 10) (by rw [Nat.pow_succ] at h; omega)
      simp
      omega
theorem numS_size (n : Int) (h0 : -9223372036854775808 ≤ n) (h1 : n ≤ 9223372036854775807) : (numS n).size ≤ 20 := by
  have key : ∀ u : Nat, u ≤ 9223372036854775808 → (Lib.decDigits u).length ≤ 19 := fun u hu => dd_len 18 u (by
    have : (10 : Nat) ^ (18 + 1) = 10000000000000000000 := by decide
    omega)
  show (Lib.itoa n).toArray.size ≤ 20
  unfold Lib.itoa
  split
  · have := key n.natAbs (by omega)
    simp
    omega
  · have := key n.toNat (by omega)
    simp
    omega
set_option maxRecDepth 100000 in
set_option maxHeartbeats 1000000 in
theorem dec_small (n : Int) (h0 : 0 ≤ n) (h1 : n < 10) (w : World) :
    Calls Tryd.prog 16 #[.int .i64 n] w fun r w' => r = .returned (.string (numS n)) ∧ Ext w w' := by
  have hd0 : decide (n % 10 < 0) = false := by simp; omega
  have hd1 : decide (n < 0) = false := by simp; omega
  have hd2 : decide (-10 < n) = true := by simp; omega
  have hd3 : decide (n < 10) = true := by simp; omega
  have hcv := run_digit w (48 + n % 10)
  have HE := Lib.hid (show strOfNums [48 + n % 10] = numS n by rw [show n % 10 = n by omega]; exact digit_eq n h0 h1)
  go_enter Tryd.func16, Tryd.ntmps16
  go_wp2_with fail
  go_ret
  exact ⟨by rw [HE.out]; rfl, (Ext.refl w).alloc _⟩
set_option maxRecDepth 100000 in
set_option maxHeartbeats 1000000 in
theorem dec_pos (k : Nat) : ∀ (n : Int), 0 ≤ n → n ≤ 9223372036854775807 → n.toNat ≤ k → ∀ w, 
    Calls Tryd.prog 16 #[.int .i64 n] w fun r w' => r = .returned (.string (numS n)) ∧ Ext w w' := by
  induction k with
  | zero => exact fun n h0 _ h2 w => dec_small n h0 (by omega) w
  | succ k ih =>
    intro n h0 hm h2 w
    by_cases h1 : n < 10
    · exact dec_small n h0 h1 w
    · have hd0 : decide (n % 10 < 0) = false := by simp; omega
      have hd2 : decide (-10 < n) = true := by simp; omega
      have hd3 : decide (n < 10) = false := by simp; omega
      have hcv := run_digit w (48 + n % 10)
      have HE := Lib.hid (num_step n (by omega))
      have hs1 := numS_size (n / 10) (by omega) (by omega)
      have hs2 : (strOfNums [48 + n % 10]).size ≤ 1 := by rw [strOfNums_size]; simp
      have HI := Lib.hid (fun W => ih (n / 10) (by omega) (by omega) (by omega) W)
      clear ih h1 h2
      go_enter Tryd.func16, Tryd.ntmps16
      go_wp2_with fail
      refine (HI.out _).mono ?_
      rintro r w2 ⟨rfl, hx⟩
      have HX := Lib.hid (((Ext.refl w).alloc _).trans hx)
      clear hx
      go_wp2_with fail
      go_ret
      exact ⟨by rw [← HE.out]; rfl, HX.out⟩
end Go.Proofs.YtcnbgcoklbmdaaaDoor
