/- The document's Mark gives the plain answer; Few; the walk of the law MarkMarks. -/
import Derived.Test.YtggojigbflbloaaMk5
namespace Go.Proofs.Ytggojigbflbloaa
open Go.ChangeShapes Go.WideShapes Go.ChangeAt Go.RowKit

theorem refMark_any (a : Option Addr) (n cap : Nat) (zs : List Int) (size : Int) (w : World) (h : IsRow .u8 w a n cap zs) (ha : Plain a cap) (hs : size ≤ 9223372036854775807) :
    Calls Try.prog 16 #[.slice a n cap, .int .i64 size] w fun r w' => ∃ v, r = .returned (.tuple #[v, .int .i64 (ans zs size).2]) ∧ Owns w' w.heap.size 5 v (bv (ans zs size).1) ∧ Ext w w' := by
  have hl := h.1
  have hcm := h.2.2.1
  have hlc := h.2.1
  unfold maxLen at hcm
  by_cases h1 : size < 1
  · have e : ans zs size = ([], 1) := by unfold ans; rw [if_pos h1]
    have HE := Lib.hid e
    have hd : decide (size < 1) = true := by simpa using h1
    clear h e ha
    rw [HE.out]
    go_enter Try.func16, Try.ntmps16
    go_wp2
    refine bodyPost_ret (v := .tuple #[.slice none 0 0, .int .i64 1]) (by simp [results, Try.results16, go_sem]) rfl ⟨_, rfl, Owns.nil _ _ _, Ext.refl w⟩
  · have hd : decide (size < 1) = false := by simpa using h1
    by_cases h2 : 4096 < n
    · have e : ans zs size = ([], 4) := by unfold ans; rw [if_neg h1, if_pos (by omega)]
      have HE := Lib.hid e
      have hd2 : decide (4096 < (n : Int)) = true := by simp; omega
      clear h e ha
      rw [HE.out]
      go_enter Try.func16, Try.ntmps16
      go_wp2
      refine bodyPost_ret (v := .tuple #[.slice none 0 0, .int .i64 4]) (by simp [results, Try.results16, go_sem]) rfl ⟨_, rfl, Owns.nil _ _ _, Ext.refl w⟩
    · have hd2 : decide (4096 < (n : Int)) = false := by simp; omega
      obtain ⟨s, rfl⟩ := Int.eq_ofNat_of_zero_le (show 0 ≤ size by omega)
      by_cases h3 : 64 < cnt n s
      · have e : ans zs (s : Int) = ([], 5) := by unfold ans; rw [if_neg h1, if_neg (by omega), if_pos (by rw [hl, Int.toNat_natCast]; exact h3)]
        have HE := Lib.hid e
        have hd3 : decide (64 < (cnt n s : Int)) = true := by simp; omega
        have hcp := cnt_pos n s (by omega)
        clear h e ha
        rw [HE.out]
        go_enter Try.func16, Try.ntmps16
        go_wp2_with fail
        refine (refSizes_any n s (by omega) (by omega) (by omega) w).mono ?_
        rintro r ws ⟨vS, rfl, hvs, hxs⟩
        obtain ⟨gs, cs, rfl, hcs1, hcs2, hgs, hcell⟩ := vals_row hvs hcp
        have HXS := Lib.hid hxs
        clear hvs hxs hcell
        go_wp2
        refine bodyPost_ret (v := .tuple #[.slice none 0 0, .int .i64 5]) (by simp [results, Try.results16, go_sem]) rfl ⟨_, rfl, Owns.nil _ _ _, HXS.out⟩
      · have e : ans zs (s : Int) = (fr zs s (cnt n s), 0) := by unfold ans; rw [if_neg h1, if_neg (by omega), if_neg (by rw [hl, Int.toNat_natCast]; exact h3), hl, Int.toNat_natCast]
        rw [e]
        exact refMark_ok a n cap zs s (by omega) (by omega) (by omega) (by omega) w h ha

/-- A row of the call's own, its address plain. -/
theorem Owns.row2 {w : World} {base : Nat} {e : TypeId} {v : Value} {zs : List Int} (h : Owns w base e v (bv zs)) (hw : ∀ z ∈ zs, (Lit.int .u8 z).wf = true) : ∃ a cap, v = .slice a zs.length cap ∧ IsRow .u8 w a zs.length cap zs ∧ Plain a cap := by
  obtain ⟨a, cap, hv, hr⟩ := h.row hw
  refine ⟨a, cap, hv, hr, ?_⟩
  rcases h.form with ⟨hv2, _⟩ | ⟨g, c, cur, hv2, _⟩
  · rw [hv] at hv2; injection hv2 with h1 h2 h3; exact .inl ⟨h1, h3⟩
  · rw [hv] at hv2; injection hv2 with h1 h2 h3; exact .inr ⟨g, 0, h1⟩

/-- The first so many bytes, in memory of their own. -/
theorem few_any (a : Option Addr) (n cap : Nat) (zs : List Int) (m : Nat) (hm : m ≤ 1000000) (w : World) (h : IsRow .u8 w a n cap zs) (ha : a = none → cap = 0) :
    Calls Try.prog 14 #[.slice a n cap, .int .i64 m] w fun r w' => ∃ v, r = .returned v ∧ Owns w' w.heap.size 5 v (bv (zs.take m)) ∧ Ext w w' := by
  have hcm := h.2.2.1
  have hlc := h.2.1
  have hl := h.1
  unfold maxLen at hcm
  obtain ⟨j, hj⟩ : ∃ j, j = min n m := ⟨_, rfl⟩
  obtain ⟨v', w', h1, h2, h3⟩ := app_row (Owns.nil w w.heap.size 5) (h.head (j := j) (by omega)) ha (by simp; omega) (Nat.le_refl _) 28
  have H1 := Lib.hid h1
  have H2 := Lib.hid (show Owns w' w.heap.size 5 v' (bv (zs.take m)) by
    have e : zs.take j = zs.take m := by
      rw [hj, ← hl]
      by_cases hx : zs.length ≤ m
      · rw [Nat.min_eq_left hx, List.take_length, List.take_of_length_le hx]
      · rw [Nat.min_eq_right (by omega)]
    rw [e] at h2
    exact h2)
  have H3 := Lib.hid (grown_ext h3 (Ext.refl w) (fun g hg => by simp [Value.ownBlock] at hg))
  clear h h1 h2 h3 hl
  cases a with
  | none =>
    have hc0 : cap ≤ 0 := by have := ha rfl; omega
    clear ha
    by_cases hmn : m < n
    · omega
    · go_enter Try.func14, Try.ntmps14
      go_wp2_with (at_builtin; refine wpList_append_run rfl (.tmp 6) (.tmp 12) _ rfl _ _ _ ?_ ?_ H1.out ?_)
      · rfl
      · go_simp <;> omega
      · go_ret
        exact ⟨_, rfl, H2.out, H3.out⟩
  | some ad =>
    clear ha
    by_cases hmn : m < n
    · obtain rfl : j = m := by omega
      clear hj
      go_enter Try.func14, Try.ntmps14
      go_wp2_with (at_builtin; refine wpList_append_run rfl (.tmp 6) (.tmp 12) _ rfl _ _ _ ?_ ?_ H1.out ?_)
      · rfl
      · go_simp <;> omega
      · go_ret
        exact ⟨_, rfl, H2.out, H3.out⟩
    · obtain rfl : j = n := by omega
      clear hj
      go_enter Try.func14, Try.ntmps14
      go_wp2_with (at_builtin; refine wpList_append_run rfl (.tmp 6) (.tmp 12) _ rfl _ _ _ ?_ ?_ H1.out ?_)
      · rfl
      · go_simp <;> omega
      · go_ret
        exact ⟨_, rfl, H2.out, H3.out⟩
end Go.Proofs.Ytggojigbflbloaa
