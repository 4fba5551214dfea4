/- Ranging over a map with integer keys; rows of numbers; sorted rows: plain lemmas. -/
import Derived.Test.YtekdoannpkifaaaSrow
import Derived.Maps.RangeWalk
namespace Go.Proofs.Ytekdoannpkifaaa
open Go.ChangeShapes Go.WideShapes Go.ChangeAt Go.RowKit
open Go.ChangeMaps (setBlock)

def keyI : Value → Int
  | .int _ n => n
  | _ => 0
/-- Block r is an iterator over the map of block b, whose entries are l; the keys of left are still to come. -/
def RngIs (w : World) (b r : Nat) (q : IntKind) (l : List (Int × Value)) (left : List Int) : Prop :=
  ∃ es clock seen c0, w.heap[b]? = some (.map es clock) ∧ es.toList.map (fun e => (e.key, e.val)) = l.map (fun p => (Value.int q p.1, p.2)) ∧
    (es.toList.map (·.born)).Nodup ∧ (∀ e ∈ es.toList, e.born < clock) ∧ w.heap[r]? = some (.mapIter (some b) clock seen c0) ∧ clock ≤ c0 ∧
    left = (leftOf es seen).toList.map (fun e => keyI e.key)
theorem RngIs.mapIs {w : World} {b r : Nat} {q : IntKind} {l : List (Int × Value)} {left : List Int} (h : RngIs w b r q l left) : MapIs w b q l := by
  obtain ⟨es, clock, seen, c0, h1, h2, h3, h4, _⟩ := h
  exact ⟨es, clock, h1, h2, h3, h4⟩
theorem RngIs.lt {w : World} {b r : Nat} {q : IntKind} {l : List (Int × Value)} {left : List Int} (h : RngIs w b r q l left) : b < w.heap.size ∧ r < w.heap.size ∧ b ≠ r := by
  obtain ⟨es, clock, seen, c0, h1, h2, h3, h4, h5, _⟩ := h
  exact ⟨lt_of_heap h1, lt_of_heap h5, fun e => by rw [e, h5] at h1; cases h1⟩
theorem RngIs.upd {S : List Nat} {w w' : World} {b r : Nat} {q : IntKind} {l : List (Int × Value)} {left : List Int} (h : RngIs w b r q l left) (hu : Upd S w w') (h1 : b ∉ S) (h2 : r ∉ S) : RngIs w' b r q l left := by
  obtain ⟨es, clock, seen, c0, p1, p2, p3, p4, p5, p6⟩ := h
  exact ⟨es, clock, seen, c0, hu.heap p1 h1, p2, p3, p4, hu.heap p5 h2, p6⟩
theorem RngIs.left_eq {w : World} {b r : Nat} {q : IntKind} {l : List (Int × Value)} {left : List Int} (h : RngIs w b r q l left) : w.rangeLeft b r = left.length := by
  obtain ⟨es, clock, seen, c0, p1, p2, p3, p4, p5, p6, p7⟩ := h
  simp only [World.rangeLeft, p1, p5, p7]
  simp
section
variable {P : Program} {w : World} {b r : Nat} {q : IntKind} {l : List (Int × Value)} {left : List Int} {T K E : TypeId}
/-- 'range m'. -/
theorem MapIs.range (h : MapIs w b q l) (hT : P.underlying T = some (.map K E)) :
    ∃ o, (Instr.range T (.map (some b))).run P w = .ok (.pointer (some ⟨w.heap.size, 0, none⟩)) (w.alloc o) ∧ RngIs (w.alloc o) b w.heap.size q l (l.map (·.1)) := by
  have hlt := h.lt
  obtain ⟨es, clock, h1, h2, h3, h4⟩ := h
  refine ⟨.mapIter (some b) clock #[] clock, ?_, es, clock, #[], clock, ?_, h2, h3, h4, heap_alloc_new w _, Nat.le_refl _, ?_⟩
  · simp [Instr.range, Sem.run_bind, run_underlying hT, getObj, Sem.run, h1]
  · exact ((Ext.refl w).alloc _).heap h1
  · have e1 : (leftOf es #[]).toList = es.toList := by simp [leftOf]
    rw [e1]
    have := congrArg (List.map (fun p : Value × Value => keyI p.1)) h2
    simpa [List.map_map, Function.comp_def, keyI] using this.symm
theorem perm_split {α : Type} (p : α → Bool) : ∀ L : List α, L.Perm (L.filter p ++ L.filter (fun x => !p x))
  | [] => by simp
  | x :: L => by
    have ih := perm_split p L
    cases h : p x
    · simp only [List.filter_cons, h, Bool.false_eq_true, if_false, Bool.not_false, if_true]
      exact (ih.cons x).trans List.perm_middle.symm
    · simp only [List.filter_cons, h, if_true, Bool.not_true, Bool.false_eq_true, if_false]
      exact ih.cons x
theorem filter_born {e : MapEntry} : ∀ {L : List MapEntry}, (L.map (·.born)).Nodup → e ∈ L → L.filter (fun x => x.born == e.born) = [e]
  | [], _, h => by cases h
  | x :: L, hn, h => by
    simp only [List.map_cons, List.nodup_cons] at hn
    rcases List.mem_cons.1 h with rfl | h
    · have : L.filter (fun x => x.born == e.born) = [] := by
        rw [List.filter_eq_nil_iff]
        intro y hy hb
        exact hn.1 (List.mem_map.2 ⟨y, hy, by simpa using hb⟩)
      simp [this]
    · have hx : (x.born == e.born) = false := by
        simp only [beq_eq_false_iff_ne, ne_eq]
        intro e1
        exact hn.1 (by rw [e1]; exact List.mem_map.2 ⟨e, h, rfl⟩)
      rw [List.filter_cons, hx]
      simpa using filter_born hn.2 h
/-- A step of the ranging. -/
theorem RngIs.next (h : RngIs w b r q l left) (ty : TypeId) :
    (left = [] ∧ (Instr.next (.pointer (some ⟨r, 0, none⟩)) false ty).run P w = .ok (.tuple #[.bool false]) w) ∨
    ∃ k v left' w', left.Perm (k :: left') ∧ (Instr.next (.pointer (some ⟨r, 0, none⟩)) false ty).run P w = .ok (.tuple #[.bool true, .int q k, v]) w' ∧ RngIs w' b r q l left' ∧ Upd [r] w w' ∧
      (Instr.entry (.pointer (some ⟨r, 0, none⟩))).run P w' = .ok (.tuple #[.int q k, v]) w' ∧ w'.heap.size = w.heap.size := by
  have hne := h.lt.2.2
  obtain ⟨es, clock, seen, c0, p1, p2, p3, p4, p5, p6, p7⟩ := h
  rcases run_next_at (P := P) w ty r b clock c0 seen es clock p5 p1 p4 p6 with ⟨h0, hrun⟩ | ⟨e, he, w1, hal, hrun⟩
  · refine .inl ⟨?_, hrun⟩
    rw [p7]
    have : (leftOf es seen).toList = [] := List.eq_nil_of_length_eq_zero (by simpa using h0)
    rw [this]; rfl
  · have hem : e ∈ es.toList := by
      simp only [leftOf] at he
      simp at he
      simpa using he.1
    have hkey : ∃ k, e.key = .int q k := by
      have h1 : (e.key, e.val) ∈ es.toList.map (fun e => (e.key, e.val)) := List.mem_map.2 ⟨e, hem, rfl⟩
      rw [p2] at h1
      obtain ⟨p, _, hp⟩ := List.mem_map.1 h1
      injection hp with hp _
      exact ⟨p.1, hp.symm⟩
    obtain ⟨k, hk⟩ := hkey
    have hh1 : w1.heap = w.heap := by rcases hal with rfl | rfl <;> rfl
    have hr1 : w1.heap[r]? = some (.mapIter (some b) clock seen c0) := by rw [hh1]; exact p5
    have hlt := lt_of_heap hr1
    have hset : (setBlock w1 r (.mapIter (some b) clock (seen.push e.born) clock)).heap[r]? = some (.mapIter (some b) clock (seen.push e.born) clock) := by simp [setBlock, hlt]
    have hoth : ∀ i, i ≠ r → (setBlock w1 r (.mapIter (some b) clock (seen.push e.born) clock)).heap[i]? = w.heap[i]? := fun i hi => by
      rw [← hh1]; exact Array.getElem?_setIfInBounds_ne (fun e1 => hi e1.symm)
    have hb' : (setBlock w1 r (.mapIter (some b) clock (seen.push e.born) clock)).heap[b]? = some (.map es clock) := (hoth b hne).trans p1
    have hperm : (leftOf es seen).toList.Perm (e :: (leftOf es (seen.push e.born)).toList) := by
      have h1 := perm_split (fun x : MapEntry => x.born == e.born) (leftOf es seen).toList
      have hn : ((leftOf es seen).toList.map (·.born)).Nodup := by
        have : (leftOf es seen).toList.Sublist es.toList := by simp only [leftOf, Array.toList_filter]; exact List.filter_sublist
        exact p3.sublist (this.map _)
      rw [filter_born hn he] at h1
      have h2 : (leftOf es (seen.push e.born)).toList = (leftOf es seen).toList.filter (fun x => !(x.born == e.born)) := by
        simp only [leftOf, Array.toList_filter, List.filter_filter]
        apply List.filter_congr
        intro x _
        rw [Array.contains_push]
        cases seen.contains x.born <;> cases hb : (x.born == e.born) <;> simp
      rw [h2]
      exact h1
    refine .inr ⟨k, e.val, (leftOf es (seen.push e.born)).toList.map (fun e => keyI e.key), _, ?_, by rw [hrun, hk], ⟨es, clock, seen.push e.born, clock, hb', p2, p3, p4, hset, Nat.le_refl _, rfl⟩, ?_, ?_, ?_⟩
    · have := hperm.map (fun e : MapEntry => keyI e.key)
      rw [p7]
      simpa [hk, keyI] using this
    · rcases hal with rfl | rfl <;> exact ⟨rfl, rfl, rfl, by simp [setBlock], fun i _ hi => hoth i (by simpa using hi)⟩
    · rw [run_entry_at _ r b clock seen es clock e hset hb' hem p3, hk]
    · rcases hal with rfl | rfl <;> simp [setBlock]
end
section
variable {P : Program} {w w' : World} {ops : Array Oper} {rest : List Oper} {o : Oper} {a : Act} {Q : Exit → Act → World → Prop}
theorem wpList_range_run (hgd : o.guard = none) (t : TypeId) (m : Operand) (ho : o.op = .range t m) (mv v' : Value) (hm : a.eval m = mv)
    (hrun : (Instr.range t mv).run P w = .ok v' w') (h : wpList P ops Q rest (a.put o.dst v') w') : wpList P ops Q (o :: rest) a w := by
  refine wpList_plain hgd fun K hK => ?_
  unfold Oper.wp execOp
  simp only [ho, Sem.run_bind, Sem.run_pure, Result.andThen_ok, hm, hrun]
  exact hK _ _ h
theorem wpList_next_run (hgd : o.guard = none) (it : Operand) (ho : o.op = .next it false) (iv v' : Value) (hm : a.eval it = iv)
    (hrun : (Instr.next iv false o.type).run P w = .ok v' w') (h : wpList P ops Q rest (a.put o.dst v') w') : wpList P ops Q (o :: rest) a w := by
  refine wpList_plain hgd fun K hK => ?_
  unfold Oper.wp execOp
  simp only [ho, Sem.run_bind, Sem.run_pure, Result.andThen_ok, hm, hrun]
  exact hK _ _ h
end

/-! ### sorted rows -/
/-- In the row ys all pairs up to i are in order, but those that end at j. -/
def Ord (ys : List Int) (i j : Nat) : Prop := ∀ p q (hp : p < q) (hq : q < ys.length), q ≤ i → q ≠ j → ys[p] ≤ ys[q]
def Rises (ys : List Int) : Prop := ∀ p q (hp : p < q) (hq : q < ys.length), ys[p] ≤ ys[q]
def swapI (ys : List Int) (j : Nat) : List Int := (ys.set j (ys.getD (j - 1) 0)).set (j - 1) (ys.getD j 0)
theorem swapI_len (ys : List Int) (j : Nat) : (swapI ys j).length = ys.length := by simp [swapI]
theorem swapI_at (ys : List Int) (j : Nat) (hj : 0 < j) (hl : j < ys.length) (p : Nat) (hp : p < (swapI ys j).length) : (swapI ys j)[p] = if p = j - 1 then ys[j] else if p = j then ys[j - 1]'(by omega) else ys[p]'(by rw [swapI_len] at hp; exact hp) := by
  have hp' : p < ys.length := by rw [swapI_len] at hp; exact hp
  have e1 : ys.getD j 0 = ys[j] := by simp [List.getD, hl]
  have e2 : ys.getD (j - 1) 0 = ys[j - 1]'(by omega) := by simp [List.getD, show j - 1 < ys.length by omega]
  simp only [swapI, List.getElem_set, e1, e2]
  by_cases h1 : p = j - 1
  · subst h1; simp
  · rw [if_neg h1, if_neg (fun e => h1 e.symm)]
    by_cases h2 : p = j
    · subst h2; simp
    · rw [if_neg h2, if_neg (fun e => h2 e.symm)]
theorem Ord.step {ys : List Int} {i j : Nat} (h : Ord ys i j) (hj : 0 < j) (hji : j ≤ i) (hi : i < ys.length) (hlt : ys[j] < ys[j - 1]'(by omega)) : Ord (swapI ys j) i (j - 1) := by
  intro p q hp hq hqi hqj
  have hq' : q < ys.length := by rw [swapI_len] at hq; exact hq
  rw [swapI_at ys j hj (by omega) p (by omega), swapI_at ys j hj (by omega) q hq, if_neg hqj]
  by_cases hqj' : q = j
  · subst hqj'
    rw [if_pos rfl]
    by_cases h1 : p = q - 1
    · rw [if_pos h1]; omega
    · rw [if_neg h1, if_neg (by omega)]
      exact h p (q - 1) (by omega) (by omega) (by omega) (by omega)
  · rw [if_neg hqj']
    by_cases h1 : p = j - 1
    · rw [if_pos h1]
      exact h j q (by omega) hq' hqi hqj'
    · rw [if_neg h1]
      by_cases h2 : p = j
      · rw [if_pos h2]
        exact h (j - 1) q (by omega) hq' hqi hqj'
      · rw [if_neg h2]
        exact h p q hp hq' hqi hqj'
theorem Ord.done {ys : List Int} {i j : Nat} (h : Ord ys i j) (hji : j ≤ i) (hi : i < ys.length) (hd : j = 0 ∨ ∃ h0 : 0 < j, ys[j - 1]'(by omega) ≤ ys[j]'(by omega)) : Ord ys i (i + 1) := by
  intro p q hp hq hqi _
  by_cases hqj : q = j
  · subst hqj
    rcases hd with rfl | ⟨h0, hd⟩
    · omega
    · by_cases h1 : p = q - 1
      · subst h1; exact hd
      · exact Int.le_trans (h p (q - 1) (by omega) (by omega) (by omega) (by omega)) hd
  · exact h p q hp hq hqi hqj
theorem Ord.next {ys : List Int} {i : Nat} (h : Ord ys i (i + 1)) : Ord ys (i + 1) (i + 1) := fun p q hp hq hqi hne => h p q hp hq (by omega) hne
theorem Ord.zero (ys : List Int) : Ord ys 0 1 := fun p q hp hq hqi _ => by omega
theorem Ord.rises {ys : List Int} {i : Nat} (h : Ord ys i (i + 1)) (hi : ys.length ≤ i + 1) : Rises ys := fun p q hp hq => h p q hp hq (by omega) (by omega)
theorem set_perm {ys : List Int} {i j : Nat} (hi : i < ys.length) (hj : j < ys.length) : ((ys.set i ys[j]).set j ys[i]).Perm ys := List.set_set_perm hi hj
theorem swapI_perm (ys : List Int) (j : Nat) (hl : j < ys.length) : (swapI ys j).Perm ys := by
  have e1 : ys.getD j 0 = ys[j] := by simp [List.getD, hl]
  have e2 : ys.getD (j - 1) 0 = ys[j - 1]'(by omega) := by simp [List.getD, show j - 1 < ys.length by omega]
  rw [swapI, e1, e2]
  exact List.set_set_perm hl (by omega)
/-- Rising rows of the same numbers are one. -/
theorem Rises.pair {ys : List Int} (h : Rises ys) : ys.Pairwise (· ≤ ·) := by
  rw [List.pairwise_iff_getElem]
  exact fun i j hi hj hij => h i j hij hj
theorem Rises.unique {a b : List Int} (ha : Rises a) (hb : Rises b) (hp : a.Perm b) : a = b :=
  hp.eq_of_pairwise (fun _ _ _ _ h1 h2 => Int.le_antisymm h1 h2) ha.pair hb.pair
end Go.Proofs.Ytekdoannpkifaaa
