/- Plain lemmas on lists of fids; the walks of lives and of the law FidsFull. -/
import Derived.Test.YtekdoannpkifaaaFid2
namespace Go.Proofs.Ytekdoannpkifaaa
open Go.ChangeShapes Go.WideShapes Go.ChangeAt Go.RowKit

theorem lookF_app_none {l : List (Int × FV)} {k j : Int} {v : FV} (h : lookF l k = none) (hj : j ≠ k) : lookF (l ++ [(j, v)]) k = none := by
  induction l with
  | nil => simp [lookF, hj]
  | cons p l ih =>
    unfold lookF at h
    by_cases hk : p.1 = k
    · rw [if_pos hk] at h; cases h
    · rw [if_neg hk] at h
      simp [lookF, hk, ih h]
theorem lookF_app_some {l : List (Int × FV)} {k j : Int} {v u : FV} (h : lookF l k = some u) : lookF (l ++ [(j, v)]) k = some u := by
  induction l with
  | nil => simp [lookF] at h
  | cons p l ih =>
    unfold lookF at h
    by_cases hk : p.1 = k
    · rw [if_pos hk] at h; simp [lookF, hk, h]
    · rw [if_neg hk] at h
      simp [lookF, hk, ih h]
theorem lookF_app_new {l : List (Int × FV)} {k : Int} {v : FV} (h : lookF l k = none) : lookF (l ++ [(k, v)]) k = some v := by
  induction l with
  | nil => simp [lookF]
  | cons p l ih =>
    unfold lookF at h
    by_cases hk : p.1 = k
    · rw [if_pos hk] at h; cases h
    · rw [if_neg hk] at h
      simp [lookF, hk, ih h]

set_option maxHeartbeats 1000000 in
theorem lives_any (w : World) : Calls Try.prog 11 #[] w fun r w' => r = .returned (.bool true) ∧ Ext w w' := by
  go_enter Try.func11, Try.ntmps11
  go_wp2_with fail
  refine (new_yes 1 w (by omega) (by omega)).mono ?_
  rintro r w1 ⟨rfl, hm1, hx1⟩
  have M1 := Lib.hid hm1
  have X1 := Lib.hid hx1
  clear hm1 hx1
  go_wp2_with fail
  refine (add_ok _ _ _ _ 7 _ FV.zero M1.out rfl (by decide)).mono ?_
  rintro r w2 ⟨rfl, hm2, hu2⟩
  have M2 := Lib.hid hm2
  have U2 := Lib.hid (hu2.ext X1.out (by simp))
  clear hm2 hu2
  go_wp2_with fail
  refine (add_full _ _ _ _ 8 _ FV.zero M2.out rfl (by decide)).mono ?_
  rintro r w3 ⟨rfl, hx3⟩
  have X3 := Lib.hid hx3
  clear hx3
  go_wp2_with fail
  refine (add_busy _ _ _ _ 7 _ FV.zero (M2.out.ext X3.out) rfl).mono ?_
  rintro r w4 ⟨rfl, hx4⟩
  have X4 := Lib.hid (X3.out.trans hx4)
  clear hx4
  go_wp2_with fail
  go_ret
  exact ⟨rfl, U2.out.trans X4.out⟩

set_option maxHeartbeats 2000000 in
theorem fidsFull_walk (a : Int) (_w0 : (Lit.int .i64 a).wf = true) (b : Int) (_w1 : (Lit.int .i64 b).wf = true) (c : Int) (_w2 : (Lit.int .i64 c).wf = true) (w : World) :
    Calls Try.prog 4 #[.int .i64 a, .int .i64 b, .int .i64 c] w fun r w' => r = .returned (.bool true) ∧ Ext w w' := by
  by_cases hall : a = b ∨ b = c ∨ a = c
  · have hcase : ((a == b) = true) ∨ ((a == b) = false ∧ (b == c) = true) ∨ ((a == b) = false ∧ (b == c) = false ∧ (a == c) = true) := by
      by_cases h1 : a = b
      · left; simpa using h1
      · by_cases h2 : b = c
        · right; left; exact ⟨by simpa using h1, by simpa using h2⟩
        · right; right; exact ⟨by simpa using h1, by simpa using h2, by rcases hall with h | h | h; exact absurd h h1; exact absurd h h2; simpa using h⟩
    clear hall
    rcases hcase with h1 | ⟨h1, h2⟩ | ⟨h1, h2, h3⟩
    all_goals
      go_enter Try.func4, Try.ntmps4
      go_wp2_with fail
      refine (new_yes 2 w (by omega) (by omega)).mono ?_
      rintro r w1 ⟨rfl, hm1, hx1⟩
      have X1 := Lib.hid hx1
      clear hm1 hx1
      go_wp2_with fail
      refine (lives_any _).mono ?_
      rintro r w2 ⟨rfl, hx2⟩
      go_wp2_with fail
      go_ret
      exact ⟨rfl, X1.out.trans hx2⟩
  · have hab : a ≠ b := fun e => hall (Or.inl e)
    have hbc : b ≠ c := fun e => hall (Or.inr (Or.inl e))
    have hac : a ≠ c := fun e => hall (Or.inr (Or.inr e))
    have h1 : (a == b) = false := by simpa using hab
    have h2 : (b == c) = false := by simpa using hbc
    have h3 : (a == c) = false := by simpa using hac
    have HAB := Lib.hid hab
    have HBC := Lib.hid hbc
    have HAC := Lib.hid hac
    clear hall hab hbc hac
    go_enter Try.func4, Try.ntmps4
    go_wp2_with fail
    refine (new_yes 2 w (by omega) (by omega)).mono ?_
    rintro r w1 ⟨rfl, hm1, hx1⟩
    have M1 := Lib.hid hm1
    have X1 := Lib.hid hx1
    clear hm1 hx1
    go_wp2_with fail
    refine (add_ok _ _ _ _ a _ FV.zero M1.out rfl (by simp)).mono ?_
    rintro r w2 ⟨rfl, hm2, hu2⟩
    have M2 := Lib.hid hm2
    have X2 := Lib.hid (hu2.ext X1.out (by simp))
    clear hm2 hu2
    go_wp2_with fail
    refine (add_ok _ _ _ _ b _ FV.zero M2.out (lookF_app_none rfl HAB.out) (by simp)).mono ?_
    rintro r w3 ⟨rfl, hm3, hu3⟩
    have M3 := Lib.hid hm3
    have X3 := Lib.hid (hu3.ext X2.out (by simp))
    clear hm3 hu3
    go_wp2_with fail
    refine (add_full _ _ _ _ c _ FV.zero M3.out (lookF_app_none (lookF_app_none rfl HAC.out) HBC.out) (by simp)).mono ?_
    rintro r w4 ⟨rfl, hx4⟩
    have M4 := Lib.hid (M3.out.ext hx4)
    have X4 := Lib.hid (X3.out.trans hx4)
    clear hx4
    go_wp2_with fail
    refine (add_busy _ _ _ _ a _ FV.zero (u := FV.zero) M4.out (lookF_app_some (lookF_app_new rfl))).mono ?_
    rintro r w5 ⟨rfl, hx5⟩
    have M5 := Lib.hid (M4.out.ext hx5)
    have X5 := Lib.hid (X4.out.trans hx5)
    clear hx5
    go_wp2_with fail
    refine (drop_ok _ _ _ _ b _ (v := FV.zero) M5.out (lookF_app_new (lookF_app_none rfl HAB.out))).mono ?_
    rintro r w6 ⟨rfl, hm6, hu6⟩
    have M6 := Lib.hid (show FidW w6 (w.heap.size + 1) w.heap.size 2 [(a, FV.zero)] by
      have := hm6
      simp [delF, HAB.out] at this
      exact this)
    have X6 := Lib.hid (hu6.ext X5.out (by simp))
    clear hm6 hu6
    go_wp2_with fail
    refine (add_ok _ _ _ _ c _ { FV.zero with off := 1 } M6.out (by simp [lookF, HAC.out]) (by simp)).mono ?_
    rintro r w7 ⟨rfl, hm7, hu7⟩
    have M7 := Lib.hid hm7
    have X7 := Lib.hid (hu7.ext X6.out (by simp))
    clear hm7 hu7
    go_wp2_with fail
    refine (get_ok _ _ _ _ c _ (v := { FV.zero with off := 1 }) M7.out (lookF_app_new (by simp [lookF, HAC.out]))).mono ?_
    rintro r w8 ⟨rfl, hx8⟩
    have X8 := Lib.hid (X7.out.trans hx8)
    clear hx8
    unfold FV.val
    go_wp2_with fail
    refine (lives_any _).mono ?_
    rintro r w9 ⟨rfl, hx9⟩
    go_wp2_with fail
    go_ret
    exact ⟨rfl, (X8.out.alloc _).trans hx9⟩
end Go.Proofs.Ytekdoannpkifaaa
