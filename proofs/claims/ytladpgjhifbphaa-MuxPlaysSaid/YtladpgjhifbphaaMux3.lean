/- Plain lemmas on lists of calls; the walk of lives. -/
import Derived.Test.YtladpgjhifbphaaMux2
namespace Go.Proofs.Ytladpgjhifbphaa
open Go.ChangeShapes Go.WideShapes Go.ChangeAt Go.RowKit

theorem len_le_of_sub : ∀ (a b : List Int), a.Nodup → (∀ x ∈ a, x ∈ b) → a.length ≤ b.length
  | [], b, _, _ => by simp
  | x :: a, b, hn, hs => by
    have hx : x ∈ b := hs x (by simp)
    rw [List.nodup_cons] at hn
    have ih := len_le_of_sub a (b.erase x) hn.2 (fun y hy => by
      have hne : y ≠ x := fun e => hn.1 (e ▸ hy)
      exact (List.mem_erase_of_ne hne).2 (hs y (by simp [hy])))
    have hl := List.length_erase_of_mem hx
    have hp : 0 < b.length := List.length_pos_of_mem hx
    simp only [List.length_cons]
    omega
theorem lookC_none {l : List MC} {k : Int} : lookC l k = none ↔ ∀ c ∈ l, c.k ≠ k := by
  induction l with
  | nil => simp [lookC]
  | cons c l ih =>
    unfold lookC
    by_cases h : c.k = k
    · simp [h]
    · simp [h, ih]
theorem lookC_some {l : List MC} {k : Int} {c : MC} (h : lookC l k = some c) : c ∈ l ∧ c.k = k := by
  induction l with
  | nil => simp [lookC] at h
  | cons d l ih =>
    unfold lookC at h
    by_cases hd : d.k = k
    · rw [if_pos hd] at h; cases h; exact ⟨by simp, hd⟩
    · rw [if_neg hd] at h
      obtain ⟨h1, h2⟩ := ih h
      exact ⟨by simp [h1], h2⟩
theorem lookC_isSome {l : List MC} {k : Int} (h : (lookC l k).isSome = true) : k ∈ l.map MC.k := by
  cases hl : lookC l k with
  | none => rw [hl] at h; cases h
  | some c =>
    obtain ⟨h1, h2⟩ := lookC_some hl
    exact List.mem_map.2 ⟨c, h1, h2⟩
theorem exists_free (l : List MC) (next : Int) (hl : l.length < 4294967296) : ∃ j, j ≤ l.length ∧ Free l next j := by
  have step : ∀ n : Nat, (∀ i : Nat, i < n → (lookC l ((next + i) % 4294967296)).isSome = true) ∨ ∃ j : Nat, j < n ∧ Free l next j := by
    intro n
    induction n with
    | zero => exact .inl (fun i hi => absurd hi (by omega))
    | succ n ih =>
      rcases ih with h | ⟨j, hj, hf⟩
      · cases hk : lookC l ((next + n) % 4294967296) with
        | none => exact .inr ⟨n, by omega, hk, h⟩
        | some c =>
          refine .inl (fun i hi => ?_)
          by_cases e : i = n
          · subst e; rw [hk]; rfl
          · exact h i (by omega)
      · exact .inr ⟨j, by omega, hf⟩
  rcases step (l.length + 1) with h | ⟨j, hj, hf⟩
  · exfalso
    have := len_le_of_sub ((List.range (l.length + 1)).map fun i : Nat => (next + i) % 4294967296) (l.map MC.k)
      (by
        rw [List.nodup_iff_pairwise_ne, List.pairwise_map]
        refine List.Pairwise.imp_of_mem (R := fun a b => a < b) ?_ (List.pairwise_lt_range)
        intro a b ha hb hab
        simp only [List.mem_range] at ha hb
        omega)
      (fun x hx => by
        simp only [List.mem_map, List.mem_range] at hx
        obtain ⟨i, hi, rfl⟩ := hx
        exact lookC_isSome (h i hi))
    simp at this
    omega
  · exact ⟨j, by omega, hf⟩
theorem Free.unique {l : List MC} {next : Int} {i j : Nat} (hi : Free l next i) (hj : Free l next j) : i = j := by
  rcases Nat.lt_trichotomy i j with h | h | h
  · have := hj.taken i h; rw [hi.free] at this; cases this
  · exact h
  · have := hi.taken j h; rw [hj.free] at this; cases this
theorem Free.zero {l : List MC} {next : Int} (h0 : 0 ≤ next) (h1 : next < 4294967296) (h : lookC l next = none) : Free l next 0 :=
  ⟨by rw [show (next + (0 : Nat)) % 4294967296 = next by omega]; exact h, fun i hi => absurd hi (by omega)⟩

set_option maxHeartbeats 1000000 in
theorem lives_any (w : World) : Calls Try.prog 13 #[] w fun r w' => r = .returned (.bool true) ∧ Ext w w' := by
  go_enter Try.func13, Try.ntmps13
  go_wp2_with fail
  refine (new_yes 4294967295 2 w (by omega) (by omega)).mono ?_
  rintro r w1 ⟨rfl, hm1, hx1⟩
  have M1 := Lib.hid hm1
  have X1 := Lib.hid hx1
  clear hm1 hx1
  go_wp2_with fail
  refine (call_room _ _ _ _ _ 3 7 _ M1.out (by decide) (by omega) (by omega) 0 (Free.zero (by omega) (by omega) rfl) (by omega)).mono ?_
  rintro r w2 ⟨rfl, hm2, hu2⟩
  have M2 := Lib.hid hm2
  have U2 := Lib.hid hu2
  clear hm2 hu2
  go_wp2_with fail
  refine (call_room _ _ _ _ _ 3 8 _ M2.out (by decide) (by omega) (by omega) 0 (Free.zero (by omega) (by omega) rfl) (by omega)).mono ?_
  rintro r w3 ⟨rfl, hm3, hu3⟩
  have M3 := Lib.hid hm3
  have U3 := Lib.hid (U2.out.trans hu3)
  clear hm3 hu3 U2
  go_wp2_with fail
  refine (match_ok _ _ _ _ _ 0 ⟨0, 3, 8⟩ _ M3.out (by rfl)).mono ?_
  rintro r w4 ⟨rfl, hm4, hu4⟩
  have U4 := Lib.hid (U3.out.trans hu4)
  clear hm4 hu4 U3
  go_wp2_with fail
  go_ret
  exact ⟨rfl, U4.out.ext X1.out (by simp)⟩
end Go.Proofs.Ytladpgjhifbphaa
