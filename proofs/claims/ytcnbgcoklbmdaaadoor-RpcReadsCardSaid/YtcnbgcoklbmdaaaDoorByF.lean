/- Around, Few and a number's bytes in the document's words. -/
import Derived.Test.YtcnbgcoklbmdaaaDoorBy
namespace Go.Proofs.YtcnbgcoklbmdaaaDoor
open Go.ChangeShapes Go.WideShapes Go.ChangeAt Go.RowKit

/-- The first so many bytes, in memory of their own. -/
theorem few_any (a : Option Addr) (n cap : Nat) (zs : List Int) (m : Nat) (hm : m ≤ 1000000) (w : World) (h : IsRow .u8 w a n cap zs) (ha : a = none → cap = 0) :
    Calls Tryd.prog 9 #[.slice a n cap, .int .i64 m] w fun r w' => ∃ v, r = .returned v ∧ Owns w' w.heap.size 5 v (bv (zs.take m)) ∧ Ext w w' := by
  have hcm := h.2.2.1
  have hlc := h.2.1
  have hl := h.1
  unfold maxLen at hcm
  obtain ⟨j, hj⟩ : ∃ j, j = min n m := ⟨_, rfl⟩
  obtain ⟨v', w', h1, h2, h3⟩ := app_row (Owns.nil w w.heap.size 5) (h.head (j := j) (by omega)) ha (by simp; omega) (Nat.le_refl _) 22
  have H1 := Lib.hid h1
  have H2 := Lib.hid (show Owns w' w.heap.size 5 v' (bv (zs.take m)) by
    have e : zs.take j = zs.take m := by
      rw [hj, ← hl]
      by_cases hx : zs.length ≤ m
      · rw [Nat.min_eq_left hx, List.take_length, List.take_of_length_le hx]
      · rw [Nat.min_eq_right (by omega)]
    rw [e] at h2
    exact h2)
  have H3 := Lib.hid (grown_ext h3 (Ext.refl w) (fun g hg => by simp [Value.ownBlock] at hg))
  clear h h1 h2 h3 hl
  cases a with
  | none =>
    have hc0 : cap ≤ 0 := by have := ha rfl; omega
    clear ha
    by_cases hmn : m < n
    · omega
    · go_enter Tryd.func9, Tryd.ntmps9
      go_wp2_with (at_builtin; refine wpList_append_run rfl (.tmp 6) (.tmp 12) _ rfl _ _ _ ?_ ?_ H1.out ?_)
      · rfl
      · go_simp <;> omega
      · go_ret
        exact ⟨_, rfl, H2.out, H3.out⟩
  | some ad =>
    clear ha
    by_cases hmn : m < n
    · obtain rfl : j = m := by omega
      clear hj
      go_enter Tryd.func9, Tryd.ntmps9
      go_wp2_with (at_builtin; refine wpList_append_run rfl (.tmp 6) (.tmp 12) _ rfl _ _ _ ?_ ?_ H1.out ?_)
      · rfl
      · go_simp <;> omega
      · go_ret
        exact ⟨_, rfl, H2.out, H3.out⟩
    · obtain rfl : j = n := by omega
      clear hj
      go_enter Tryd.func9, Tryd.ntmps9
      go_wp2_with (at_builtin; refine wpList_append_run rfl (.tmp 6) (.tmp 12) _ rfl _ _ _ ?_ ?_ H1.out ?_)
      · rfl
      · go_simp <;> omega
      · go_ret
        exact ⟨_, rfl, H2.out, H3.out⟩
end Go.Proofs.YtcnbgcoklbmdaaaDoor
