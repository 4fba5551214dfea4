/- Sizes of fragments: the plain list, and the walks of count, Sizes (both) and same. -/
import Derived.Test.YtggojigbflbloaaIn
namespace Go.Proofs.Ytggojigbflbloaa
open Go.ChangeShapes Go.WideShapes Go.ChangeAt Go.RowKit

/-- How many fragments n bytes have, and how many bytes the i'th has. -/
def cnt (n s : Nat) : Nat := if n = 0 then 1 else (n + s - 1) / s
def szAt (n s i : Nat) : Nat := min s (n - i * s)
def vals (n s k : Nat) : List Value := (List.range k).map fun i => .int .i64 (szAt n s i)
theorem vals_len (n s k : Nat) : (vals n s k).length = k := by simp [vals]
theorem vals_succ (n s k : Nat) : vals n s (k + 1) = vals n s k ++ [.int .i64 (szAt n s k)] := by simp [vals, List.range_succ]
theorem vals_at {n s k i : Nat} (h : i < (vals n s k).length) : (vals n s k)[i] = .int .i64 (szAt n s i) := by simp [vals]
theorem cnt_pos (n s : Nat) (hs : 1 ≤ s) : 1 ≤ cnt n s := by
  unfold cnt
  split
  · omega
  · exact (Nat.le_div_iff_mul_le (by omega)).2 (by omega)
/-- i is the last fragment's number just when what is left is no more than s. -/
theorem cnt_iff (n s i : Nat) (hs : 1 ≤ s) : i < cnt n s ↔ (i = 0 ∨ i * s < n) := by
  unfold cnt
  split
  · next h => subst h; omega
  · next h =>
    rw [show (i < (n + s - 1) / s) ↔ i + 1 ≤ (n + s - 1) / s from Iff.rfl, Nat.le_div_iff_mul_le (by omega), Nat.add_mul]
    constructor
    · intro h1; right; omega
    · rintro (rfl | h1)
      · omega
      · omega
theorem cnt_le (n s : Nat) (hs : 1 ≤ s) (hn : n ≤ 4096) : cnt n s ≤ 4096 := by
  unfold cnt
  split
  · omega
  · refine Nat.div_le_of_le_mul ?_
    have : 4096 * 1 ≤ 4096 * s := Nat.mul_le_mul_left _ hs
    rw [Nat.mul_comm s 4096]
    omega
theorem cnt_div (n s : Nat) (hs : 1 ≤ s) : cnt n s = if 0 < n % s ∨ n = 0 then n / s + 1 else n / s := by
  have hd := Nat.div_add_mod n s
  have hm := Nat.mod_lt n (show 0 < s by omega)
  unfold cnt
  by_cases h0 : n = 0
  · subst h0; simp
  · rw [if_neg h0]
    generalize n / s = q at *
    generalize n % s = r at *
    subst hd
    by_cases hr : 0 < r
    · rw [if_pos (.inl hr), show s * q + r + s - 1 = (r - 1 + s) + s * q by omega, Nat.add_mul_div_left _ _ (by omega), Nat.add_div_right _ (by omega), Nat.div_eq_of_lt (by omega)]
      omega
    · rw [if_neg (by omega), show s * q + r + s - 1 = (s - 1) + s * q by omega, Nat.add_mul_div_left _ _ (by omega), Nat.div_eq_of_lt (by omega)]
      omega

theorem wrap_in (n : Int) (h : -9223372036854775808 ≤ n ∧ n ≤ 9223372036854775807) : wrap64 n = n := by unfold wrap64; omega
theorem count_any (n s : Nat) (hs : 1 ≤ s) (hn : n ≤ 4611686018427387904) (w : World) :
    Calls Try.prog 23 #[.int .i64 n, .int .i64 s] w fun r w' => r = .returned (.int .i64 (cnt n s)) ∧ w = w' := by
  have hz : ((s : Int) == 0) = false := by simp; omega
  have hqn : n / s ≤ n := Nat.div_le_self _ _
  have hq : (n : Int) / (s : Int) = ((n / s : Nat) : Int) := by simp
  have hr : (n : Int) % (s : Int) = ((n % s : Nat) : Int) := by simp
  have HC := Lib.hid (cnt_div n s hs)
  have HQ := Lib.hid (show wrap64 ((n : Int) / (s : Int)) = ((n / s : Nat) : Int) by rw [hq]; have := Int.natCast_nonneg (n / s); exact wrap_in _ (by omega))
  have hcase : (decide (0 < (n : Int) % (s : Int)) = true) ∨ (decide (0 < (n : Int) % (s : Int)) = false ∧ ((n : Int) == 0) = true) ∨ (decide (0 < (n : Int) % (s : Int)) = false ∧ ((n : Int) == 0) = false) := by
    by_cases h1 : 0 < (n : Int) % (s : Int)
    · left; simpa using h1
    · by_cases h2 : n = 0
      · right; left; exact ⟨by simpa using h1, by simp [h2]⟩
      · right; right; exact ⟨by simpa using h1, by simp; omega⟩
  rcases hcase with hd | ⟨hd, hd2⟩ | ⟨hd, hd2⟩
  · have HC2 := Lib.hid (show cnt n s = n / s + 1 by rw [HC.out, if_pos (.inl (by have h := of_decide_eq_true hd; rw [hr] at h; omega))])
    clear hq hr hqn
    go_enter Try.func23, Try.ntmps23
    go_wp2
    go_ret
    exact ⟨ret_int (by rw [HC2.out, HQ.out]; have := Nat.div_le_self n s; have := Int.natCast_nonneg (n / s); rw [wrap_in _ (by omega)]; omega), rfl⟩
  · have HC2 := Lib.hid (show cnt n s = n / s + 1 by rw [HC.out, if_pos (.inr (by simpa using hd2))])
    clear hq hr hqn
    go_enter Try.func23, Try.ntmps23
    go_wp2
    go_ret
    exact ⟨ret_int (by rw [HC2.out, HQ.out]; have := Nat.div_le_self n s; have := Int.natCast_nonneg (n / s); rw [wrap_in _ (by omega)]; omega), rfl⟩
  · have HC2 := Lib.hid (show cnt n s = n / s by rw [HC.out, if_neg (by rw [hr] at hd; simp at hd hd2; omega)])
    clear hq hr hqn
    go_enter Try.func23, Try.ntmps23
    go_wp2
    go_ret
    exact ⟨ret_int (by rw [HC2.out, HQ.out]), rfl⟩

theorem infoI64 : (Try.prog.info? 3).map (fun i => (i.zero, i.size, i.bytes)) = some (some (.int .i64 0), 1, 8) := by kernel_rfl
/-- One more number is appended. -/
theorem more {w : World} {base : Nat} {v : Value} {xs : List Value} (h : Owns w base 3 v xs) (x : Int) (hl : xs.length ≤ 5000) (hb : base ≤ w.heap.size) :
    ∃ v' w', (Builtin.append_ #[23, 23] 23 #[v, .slice (some ⟨w.heap.size, 0, none⟩) 1 1]).run Try.prog (w.alloc (.cells #[.int .i64 x] 3)) = .ok v' w' ∧ Owns w' base 3 v' (xs ++ [.int .i64 x]) ∧
      Ext w (w.alloc (.cells #[.int .i64 x] 3)) ∧ ∀ o, o.heap.size ≤ base → Ext o w → Ext o w' := by
  obtain ⟨v', w', h1, h2, h3, _⟩ := h.append1 (P := Try.prog) (t := 23) (ty := 23) (.int .i64 0) 8 Try.underlying23 infoI64 rfl (.int .i64 x) rfl (by unfold maxLen; omega) (by omega) hb
  exact ⟨v', w', h1, h2, (Ext.refl w).alloc _, fun o ho hx => grown_ext h3 (hx.alloc _) (fun g hg => by have := (h.lt hg).1; omega)⟩

set_option maxHeartbeats 1000000 in
theorem sizes_any (n s : Nat) (hs : 1 ≤ s) (hs2 : s ≤ 9223372036854775807) (hn : n ≤ 4096) (w : World) :
    Calls Try.prog 10 #[.int .i64 n, .int .i64 s] w fun r w' => ∃ v, r = .returned v ∧ Owns w' w.heap.size 3 v (vals n s (cnt n s)) ∧ Ext w w' := by
  have hd1 : decide ((n : Int) < 0) = false := by simp
  have hd2 : decide (4096 < (n : Int)) = false := by simp; omega
  have hd3 : decide ((s : Int) < 1) = false := by simp; omega
  have hcl := cnt_le n s hs hn
  go_enter Try.func10, Try.ntmps10
  go_wp2_with fail
  refine (count_any n s hs (by omega) w).mono ?_
  rintro r wb ⟨rfl, rfl⟩
  go_wp2_with fail
  go_loopw [0, 5, 20] (fun v0 v5 v20 wr => ∃ i : Nat, i ≤ cnt n s ∧ v0 = .int .i64 ((n - i * s : Nat) : Int) ∧ v20 = .int .i64 i ∧ Owns wr w.heap.size 3 v5 (vals n s i) ∧ Ext w wr) (fun _ _ v20 _ => cnt n s - (intOf v20).toNat)
  case atStart => exact ⟨0, by omega, by simp, rfl, Owns.nil _ _ _, Ext.refl w⟩
  case round =>
    obtain ⟨i, hi, rfl, rfl, hO, hX⟩ := hrel
    have HO := Lib.hid hO
    have HX := Lib.hid hX
    clear hO hX
    by_cases hlt : i < cnt n s
    · have hd : decide (i < cnt n s) = true := by simp; omega
      have HN := Lib.hid (show n - i * s - szAt n s i = n - (i + 1) * s by unfold szAt; rw [Nat.add_mul]; omega)
      have HZ := Lib.hid (show szAt n s i = min s (n - i * s) from rfl)
      have hle : n - i * s ≤ 4096 := by omega
      generalize n - i * s = m at *
      obtain ⟨v', w', h1, h2, _, h4⟩ := more HO.out (szAt n s i) (by rw [vals_len]; omega) HX.out.size
      have H2 := Lib.hid (show Owns w' w.heap.size 3 v' (vals n s (i + 1)) by rw [vals_succ]; exact h2)
      have H4 := Lib.hid (h4 w (Nat.le_refl _) HX.out)
      clear h2 h4
      by_cases hms : m < s
      · have hz : szAt n s i = m := by rw [HZ.out]; omega
        rw [hz] at h1 HN
        have H1 := Lib.hid h1
        clear h1 hz
        go_wp2_with (at_builtin; refine wpList_append_run rfl (.tmp 25) (.tmp 27) _ rfl _ _ _ rfl rfl H1.out ?_)
        go_roundw
        case rel => exact ⟨i + 1, by omega, by rw [← HN.out]; go_num, by go_num, H2.out, H4.out⟩
        case measure => simp [intOf]; omega
      · have hz : szAt n s i = s := by rw [HZ.out]; omega
        rw [hz] at h1 HN
        have H1 := Lib.hid h1
        clear h1 hz
        go_wp2_with (at_builtin; refine wpList_append_run rfl (.tmp 25) (.tmp 27) _ rfl _ _ _ rfl rfl H1.out ?_)
        go_roundw
        case rel => exact ⟨i + 1, by omega, by rw [← HN.out]; go_num, by go_num, H2.out, H4.out⟩
        case measure => simp [intOf]; omega
    · have hd : decide (i < cnt n s) = false := by simp; omega
      obtain rfl : i = cnt n s := by omega
      go_wp2_with fail
      go_ret
      exact ⟨_, rfl, HO.out, HX.out⟩

set_option maxHeartbeats 1000000 in
theorem refSizes_any (n s : Nat) (hs : 1 ≤ s) (hs2 : s ≤ 9223372036854775807) (hn : n ≤ 4096) (w : World) :
    Calls Try.prog 12 #[.int .i64 n, .int .i64 s] w fun r w' => ∃ v, r = .returned v ∧ Owns w' w.heap.size 3 v (vals n s (cnt n s)) ∧ Ext w w' := by
  have hcl := cnt_le n s hs hn
  go_enter Try.func12, Try.ntmps12
  go_wp2_with fail
  go_loopw [0, 5] (fun v0 v5 wr => ∃ i : Nat, i < cnt n s ∧ v0 = .int .i64 ((n - i * s : Nat) : Int) ∧ Owns wr w.heap.size 3 v5 (vals n s i) ∧ Ext w wr) (fun v0 _ _ => (intOf v0).toNat)
  case atStart => exact ⟨0, cnt_pos n s hs, by simp, Owns.nil _ _ _, Ext.refl w⟩
  case round =>
    obtain ⟨i, hi, rfl, hO, hX⟩ := hrel
    have HO := Lib.hid hO
    have HX := Lib.hid hX
    clear hO hX
    have HI := Lib.hid (cnt_iff n s (i + 1) hs)
    have HN := Lib.hid (show n - i * s - s = n - (i + 1) * s by rw [Nat.add_mul]; omega)
    have HJ := Lib.hid (show (i + 1) * s < n ↔ s < n - i * s by rw [Nat.add_mul]; omega)
    have HZ := Lib.hid (show szAt n s i = min s (n - i * s) from rfl)
    have hle : n - i * s ≤ 4096 := by omega
    generalize n - i * s = m at *
    obtain ⟨v', w', h1, h2, _, h4⟩ := more HO.out (szAt n s i) (by rw [vals_len]; omega) HX.out.size
    have H2 := Lib.hid (show Owns w' w.heap.size 3 v' (vals n s (i + 1)) by rw [vals_succ]; exact h2)
    have H4 := Lib.hid (h4 w (Nat.le_refl _) HX.out)
    clear h2 h4
    by_cases hms : s < m
    · have hd : decide (s < m) = true := by simpa using hms
      have hz : szAt n s i = s := by rw [HZ.out]; omega
      rw [hz] at h1
      have H1 := Lib.hid h1
      have hi1 : i + 1 < cnt n s := HI.out.2 (.inr (HJ.out.2 hms))
      clear h1 hz
      go_wp2_with (at_builtin; refine wpList_append_run rfl (.tmp 9) (.tmp 11) _ rfl _ _ _ rfl rfl H1.out ?_)
      go_roundw
      case rel => exact ⟨i + 1, hi1, by rw [← HN.out]; go_num, H2.out, H4.out⟩
      case measure => simp [intOf]; omega
    · have hd : decide (s < m) = false := by simpa using hms
      have hz : szAt n s i = m := by rw [HZ.out]; omega
      rw [hz] at h1
      have H1 := Lib.hid h1
      have HI1 := Lib.hid (show cnt n s = i + 1 by have h1 := HI.out; have h2 := HJ.out; omega)
      clear h1 hz
      go_wp2_with (at_builtin; refine wpList_append_run rfl (.tmp 16) (.tmp 18) _ rfl _ _ _ rfl rfl H1.out ?_)
      go_ret
      exact ⟨_, rfl, by rw [HI1.out]; exact H2.out, H4.out⟩

/-- Lists that are the same. -/
theorem same_yes (n s k : Nat) (hk : k ≤ 5000) (w : World) (b1 b2 : Nat) (v1 v2 : Value) (h1 : Owns w b1 3 v1 (vals n s k)) (h2 : Owns w b2 3 v2 (vals n s k)) (hk0 : 1 ≤ k) :
    Calls Try.prog 11 #[v1, v2] w fun r w' => r = .returned (.bool true) ∧ Ext w w' := by
  have C1 : ∃ g cap, v1 = .slice (some ⟨g, 0, none⟩) k cap ∧ k ≤ cap ∧ cap ≤ maxLen ∧ g < w.heap.size ∧ ∀ i, i < k → w.cell? ⟨g, i, none⟩ = some (.int .i64 (szAt n s i)) := by
    rcases h1.form with ⟨_, h0⟩ | ⟨g, cap, cur, hv, hb, hn, hm, hg, hs, ht⟩
    · have := congrArg List.length h0; rw [vals_len] at this; simp at this; omega
    · rw [vals_len] at hv hn
      refine ⟨g, cap, hv, hn, hm, lt_of_heap hg, fun i hi => ?_⟩
      obtain ⟨g', cap', hv', _, _, _, _, hc, _⟩ := h1.cell (i := i) (by rw [vals_len]; exact hi)
      rw [vals_at] at hc
      rw [hv, vals_len] at hv'
      injection hv' with hv' _ _
      injection hv' with hv'
      injection hv' with hv' _ _
      rw [hv']
      exact hc
  have C2 : ∃ g cap, v2 = .slice (some ⟨g, 0, none⟩) k cap ∧ k ≤ cap ∧ cap ≤ maxLen ∧ g < w.heap.size ∧ ∀ i, i < k → w.cell? ⟨g, i, none⟩ = some (.int .i64 (szAt n s i)) := by
    rcases h2.form with ⟨_, h0⟩ | ⟨g, cap, cur, hv, hb, hn, hm, hg, hs, ht⟩
    · have := congrArg List.length h0; rw [vals_len] at this; simp at this; omega
    · rw [vals_len] at hv hn
      refine ⟨g, cap, hv, hn, hm, lt_of_heap hg, fun i hi => ?_⟩
      obtain ⟨g', cap', hv', _, _, _, _, hc, _⟩ := h2.cell (i := i) (by rw [vals_len]; exact hi)
      rw [vals_at] at hc
      rw [hv, vals_len] at hv'
      injection hv' with hv' _ _
      injection hv' with hv'
      injection hv' with hv' _ _
      rw [hv']
      exact hc
  obtain ⟨g1, c1, rfl, hc1, hm1, hl1, hf1⟩ := C1
  obtain ⟨g2, c2, rfl, hc2, hm2, hl2, hf2⟩ := C2
  have HF1 := Lib.hid hf1
  have HF2 := Lib.hid hf2
  unfold maxLen at hm1 hm2
  clear h1 h2 hf1 hf2
  go_enter Try.func11, Try.ntmps11
  go_wp2_with fail
  go_loopw [5] (fun v5 wr => ∃ i : Nat, i ≤ k ∧ v5 = .int .i64 i ∧ Ext w wr) (fun v5 _ => k - (intOf v5).toNat)
  case atStart => exact ⟨0, by omega, rfl, Ext.refl w⟩
  case round =>
    obtain ⟨i, hi, rfl, hX⟩ := hrel
    have HX := Lib.hid hX
    clear hX
    by_cases hlt : i < k
    · have hd : decide (i < k) = true := by simpa using hlt
      have q1 := HX.out.cell (HF1.out i hlt)
      have q2 := HX.out.cell (HF2.out i hlt)
      have hi0 : (0 : Int) ≤ (i : Int) := by omega
      have hi1 : (i : Int) < (k : Int) := by omega
      have z1 : g1 < wr.heap.size := Nat.lt_of_lt_of_le hl1 HX.out.size
      have z2 : g2 < wr.heap.size := Nat.lt_of_lt_of_le hl2 HX.out.size
      go_wp2_with (go_quiet (fail))
      go_roundw
      case rel => exact ⟨i + 1, by omega, by go_num, HX.out.drewN _⟩
      case measure => simp [intOf]; omega
    · have hd : decide (i < k) = false := by simpa using hlt
      go_wp2_with fail
      go_ret
      exact ⟨rfl, HX.out⟩
end Go.Proofs.Ytggojigbflbloaa
