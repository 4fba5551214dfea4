/- The plain law of the fids: the map's pairs and the document's list, in its order; and the walk of 'like'. -/
import Derived.Test.YtekdoannpkifaaaFkH
namespace Go.Proofs.Ytekdoannpkifaaa
open Go.ChangeShapes Go.WideShapes Go.ChangeAt Go.RowKit

theorem lookF_none_iff {n : Int} : ∀ {l : List (Int × FV)}, lookF l n = none ↔ ∀ p ∈ l, p.1 ≠ n
  | [] => by simp [lookF]
  | p :: l => by
    have ih := @lookF_none_iff n l
    unfold lookF
    by_cases h : p.1 = n
    · simp [h]
    · simp [h, ih]
theorem lookF_mem {n : Int} {u : FV} : ∀ {l : List (Int × FV)}, (l.map (·.1)).Nodup → (n, u) ∈ l → lookF l n = some u
  | [], _, h => by cases h
  | p :: l, hn, h => by
    simp only [List.map_cons, List.nodup_cons] at hn
    unfold lookF
    rcases List.mem_cons.1 h with rfl | h
    · simp
    · have hne : p.1 ≠ n := fun e => hn.1 (List.mem_map.2 ⟨_, h, e.symm⟩)
      rw [if_neg hne]
      exact lookF_mem hn.2 h
theorem del_perm {n : Int} {u : FV} (x : FV) : ∀ {l : List (Int × FV)}, lookF l n = some u → l.Perm ((n, u) :: delF l n) ∧ (putF l n x).Perm ((n, x) :: delF l n)
  | [], h => by cases h
  | p :: l, h => by
    unfold lookF at h
    by_cases hk : p.1 = n
    · rw [if_pos hk] at h
      injection h with h
      simp only [delF, putF, if_pos hk]
      obtain ⟨a, b⟩ := p
      simp only at hk h
      subst hk h
      exact ⟨List.Perm.refl _, List.Perm.refl _⟩
    · rw [if_neg hk] at h
      obtain ⟨h1, h2⟩ := del_perm x h
      simp only [delF, putF, if_neg hk]
      exact ⟨(h1.cons p).trans (List.Perm.swap _ _ _), (h2.cons p).trans (List.Perm.swap _ _ _)⟩
theorem cons_erase {α : Type} : ∀ (L : List α) (k : Nat) (hk : k < L.length), (L[k] :: L.eraseIdx k).Perm L
  | [], k, hk => by simp at hk
  | x :: L, 0, _ => List.Perm.refl _
  | x :: L, k + 1, hk => (List.Perm.swap _ _ _).trans ((cons_erase L k (by simpa using hk)).cons x)
theorem set_erase {α : Type} (p : α) : ∀ (L : List α) (k : Nat) (_ : k < L.length), (L.set k p).Perm (p :: L.eraseIdx k)
  | [], k, hk => by simp at hk
  | x :: L, 0, _ => List.Perm.refl _
  | x :: L, k + 1, hk => ((set_erase p L k (by simpa using hk)).cons x).trans (List.Perm.swap _ _ _)
/-- The map's pairs l are the document's list L, which stands in its order. -/
structure Inv (l L : List (Int × FV)) : Prop where
  perm : L.Perm l
  ord : L.Pairwise (fun p q => p.1 < q.1)
theorem Inv.nil : Inv [] [] := ⟨List.Perm.refl _, List.Pairwise.nil⟩
section
variable {l L : List (Int × FV)} {n : Int} {k : Nat}
theorem Inv.len (h : Inv l L) : L.length = l.length := h.perm.length_eq
theorem Inv.nodup (h : Inv l L) : (l.map (·.1)).Nodup := by
  refine (h.perm.map (·.1)).nodup_iff.1 ?_
  rw [List.Nodup, List.pairwise_map]
  exact h.ord.imp (fun hlt => by omega)
theorem Inv.some (h : Inv l L) (hk : k < L.length) (hh : isN n L[k] = true) : lookF l n = some L[k].2 := by
  have hn : L[k].1 = n := by simpa [isN] using hh
  refine lookF_mem h.nodup (h.perm.mem_iff.1 ?_)
  rw [← hn]
  exact List.getElem_mem _
theorem Inv.none (h : Inv l L) (hb : ∀ j (hj : j < L.length), isN n L[j] = false) : lookF l n = none := by
  refine lookF_none_iff.2 fun p hp => ?_
  obtain ⟨j, hj, rfl⟩ := List.getElem_of_mem (h.perm.mem_iff.2 hp)
  have := hb j hj
  simpa [isN] using this
theorem Inv.set (h : Inv l L) (hk : k < L.length) (hh : isN n L[k] = true) (x : FV) : Inv (putF l n x) (L.set k (n, x)) := by
  have hn : L[k].1 = n := by simpa [isN] using hh
  obtain ⟨h1, h2⟩ := del_perm x (h.some hk hh)
  have h3 : (L[k] :: L.eraseIdx k).Perm L := cons_erase L k hk
  have h4 : (L.set k (n, x)).Perm ((n, x) :: L.eraseIdx k) := set_erase _ L k hk
  have h5 : (L[k] :: L.eraseIdx k).Perm (L[k] :: delF l n) := by
    have := (h3.trans h.perm).trans h1
    rwa [show ((n, L[k].2) : Int × FV) = L[k] by rw [← hn]] at this
  refine ⟨h4.trans (((List.Perm.cons_inv h5).cons _).trans h2.symm), ?_⟩
  rw [List.pairwise_iff_getElem]
  intro i j hi hj hij
  simp only [List.length_set] at hi hj
  have ho := List.pairwise_iff_getElem.1 h.ord
  rw [List.getElem_set, List.getElem_set]
  by_cases h6 : k = i
  · subst h6
    rw [if_pos rfl, if_neg (by omega)]
    have := ho k j hk hj hij
    omega
  · rw [if_neg h6]
    by_cases h7 : k = j
    · subst h7
      rw [if_pos rfl]
      have := ho i k hi hk hij
      omega
    · rw [if_neg h7]
      exact ho i j hi hj hij
theorem Inv.drop (h : Inv l L) (hk : k < L.length) (hh : isN n L[k] = true) : Inv (delF l n) (L.eraseIdx k) := by
  have hn : L[k].1 = n := by simpa [isN] using hh
  obtain ⟨h1, _⟩ := del_perm L[k].2 (h.some hk hh)
  have h3 : (L[k] :: L.eraseIdx k).Perm L := cons_erase L k hk
  have h5 : (L[k] :: L.eraseIdx k).Perm (L[k] :: delF l n) := by
    have := (h3.trans h.perm).trans h1
    rwa [show ((n, L[k].2) : Int × FV) = L[k] by rw [← hn]] at this
  exact ⟨List.Perm.cons_inv h5, h.ord.sublist (List.eraseIdx_sublist _ _)⟩
/-- Where a number's place is. -/
theorem Inv.place (_ : Inv l L) (n : Int) : ∃ K, K ≤ L.length ∧ (∀ j (hj : j < L.length), j < K → L[j].1 < n) ∧ ∀ hk : K < L.length, n ≤ L[K].1 := by
  rcases firstK (fun p : Int × FV => decide (n ≤ p.1)) L with ⟨k, hk, h1, h2⟩ | h2
  · refine ⟨k, by omega, fun j hj hlt => ?_, fun _ => by simpa using h1⟩
    have := h2 j hj hlt
    simp at this
    omega
  · refine ⟨L.length, Nat.le_refl _, fun j hj _ => ?_, fun hk => by omega⟩
    have := h2 j hj
    simp at this
    omega
theorem Inv.add (h : Inv l L) (hb : ∀ j (hj : j < L.length), isN n L[j] = false) {K : Nat} (hlt : ∀ j (hj : j < L.length), j < K → L[j].1 < n) (hge : ∀ hk : K < L.length, n ≤ L[K].1) (x : FV) : Inv (l ++ [(n, x)]) (insP L K (n, x)) := by
  have hp : (insP L K (n, x)).Perm (L ++ [(n, x)]) := by
    unfold insP
    have h1 : (L.take K ++ [(n, x)] ++ L.drop K).Perm ([(n, x)] ++ (L.take K ++ L.drop K)) := by
      rw [List.append_assoc, ← List.append_assoc]
      refine (List.Perm.append_right _ List.perm_append_comm).trans ?_
      rw [List.append_assoc]
    rw [List.take_append_drop] at h1
    exact h1.trans List.perm_append_comm
  refine ⟨hp.trans (h.perm.append_right _), ?_⟩
  unfold insP
  have ho := List.pairwise_iff_getElem.1 h.ord
  have hT : ∀ p ∈ L.take K, p.1 < n := fun p hp' => by
    obtain ⟨j, hj, rfl⟩ := List.getElem_of_mem hp'
    rw [List.length_take] at hj
    rw [List.getElem_take]
    exact hlt j (by omega) (by omega)
  have hD : ∀ p ∈ L.drop K, n < p.1 := fun p hp' => by
    obtain ⟨j, hj, rfl⟩ := List.getElem_of_mem hp'
    rw [List.length_drop] at hj
    rw [List.getElem_drop]
    have h1 := hge (by omega)
    have h2 := hb (K + j) (by omega)
    have h3 : L[K].1 ≤ L[K + j].1 := by
      by_cases h0 : j = 0
      · subst h0; exact Int.le_refl _
      · have := ho K (K + j) (by omega) (by omega) (by omega); omega
    simp [isN] at h2
    omega
  rw [List.pairwise_append, List.pairwise_append]
  refine ⟨⟨h.ord.sublist (List.take_sublist _ _), by simp, fun a ha b hb' => ?_⟩, h.ord.sublist (List.drop_sublist _ _), fun a ha b hb' => ?_⟩
  · simp at hb'; subst hb'; exact hT a ha
  · rw [List.mem_append, List.mem_singleton] at ha
    have h1 := hD b hb'
    rcases ha with ha | rfl
    · have := hT a ha; omega
    · exact h1
theorem insP_len (L : List (Int × FV)) (K : Nat) (p : Int × FV) (hK : K ≤ L.length) : (insP L K p).length = L.length + 1 := by
  unfold insP
  rw [List.length_append, List.length_append, List.length_take, List.length_drop]
  simp
  omega
theorem Inv.all (h : Inv l L) {ys : List Int} (hp : ys.Perm (l.map (·.1))) (hR : Rises ys) : ys = L.map (·.1) := by
  refine List.Perm.eq_of_pairwise (fun _ _ _ _ h1 h2 => Int.le_antisymm h1 h2) hR.pair ?_ (hp.trans (h.perm.map (·.1)).symm)
  rw [List.pairwise_map]
  exact h.ord.imp (fun h1 => by omega)
end
theorem run_neqX (v : FV) (W : World) : (binOp .neq 39 v.val v.val).run Try.prog W = .ok (.bool false) W := by
  unfold FV.val
  go_simp
end Go.Proofs.Ytekdoannpkifaaa
