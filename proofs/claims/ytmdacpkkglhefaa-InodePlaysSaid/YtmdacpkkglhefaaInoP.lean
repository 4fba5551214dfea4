/- The document's table (all that ever came) against the places: plain lists, no program. -/
import Derived.Test.YtmdacpkkglhefaaInoI
namespace Go.Proofs.Ytmdacpkkglhefaa.inoI
open Go.ChangeShapes Go.WideShapes Go.ChangeAt Go.RowKit
open Go.Proofs.Ytmdacpkkglhefaa

/-- Something that came: its handle, what it is, is it still there. -/
structure Rec where
  ino : Int
  gen : Int
  n : Int
  is : Bool
def Rec.cells (r : Rec) : List Value := [.int .i64 r.ino, .int .i64 r.gen, .int .i64 r.n, .bool r.is]
def recCells (L : List Rec) : List Value := L.flatMap Rec.cells
theorem recCells_len : ∀ L : List Rec, (recCells L).length = 4 * L.length
  | [] => rfl
  | r :: L => by
    have := recCells_len L
    show (Rec.cells r ++ recCells L).length = _
    rw [List.length_append, this]
    simp [Rec.cells]
    omega
theorem recCells_at : ∀ (L : List Rec) (i : Nat) (h : i < L.length), (recCells L)[i * 4]? = some (.int .i64 L[i].ino) ∧ (recCells L)[i * 4 + 1]? = some (.int .i64 L[i].gen) ∧ (recCells L)[i * 4 + 2]? = some (.int .i64 L[i].n) ∧ (recCells L)[i * 4 + 3]? = some (.bool L[i].is)
  | [], i, h => by simp at h
  | r :: L, 0, h => by simp [recCells, Rec.cells]
  | r :: L, i + 1, h => by
    have ih := recCells_at L i (by simpa using h)
    simp only [recCells, List.flatMap_cons, Rec.cells, List.cons_append, List.nil_append, List.getElem_cons_succ] at *
    rw [show (i + 1) * 4 = i * 4 + 4 by omega]
    simpa using ih
theorem recCells_set : ∀ (L : List Rec) (i : Nat) (r : Rec), ((((recCells L).set (i * 4) (.int .i64 r.ino)).set (i * 4 + 1) (.int .i64 r.gen)).set (i * 4 + 2) (.int .i64 r.n)).set (i * 4 + 3) (.bool r.is) = recCells (L.set i r)
  | [], i, r => by simp [recCells]
  | x :: L, 0, r => by simp [recCells, Rec.cells]
  | x :: L, i + 1, r => by
    have ih := recCells_set L i r
    simp only [recCells, List.flatMap_cons, Rec.cells, List.cons_append, List.nil_append, List.set_cons_succ] at *
    rw [show (i + 1) * 4 = i * 4 + 1 + 1 + 1 + 1 by omega]
    simpa using ih
theorem recCells_snoc (L : List Rec) (r : Rec) : recCells (L ++ [r]) = recCells L ++ r.cells := by simp [recCells]

def hit (ino gen : Int) (r : Rec) : Bool := r.is && (r.ino == ino && r.gen == gen)
def inn (ino : Int) (r : Rec) : Bool := r.is && r.ino == ino
def ofIno (ino : Int) (r : Rec) : Bool := r.ino == ino
theorem first_of {α : Type} (p : α → Bool) : ∀ L : List α, (∃ k, ∃ hk : k < L.length, p L[k] = true ∧ ∀ j (hj : j < L.length), j < k → p L[j] = false) ∨ ∀ j (hj : j < L.length), p L[j] = false
  | [] => .inr fun j hj => by simp at hj
  | x :: L => by
    cases hp : p x
    · rcases first_of p L with ⟨k, hk, h1, h2⟩ | h
      · refine .inl ⟨k + 1, by simpa using hk, by simpa using h1, fun j hj hlt => ?_⟩
        cases j with
        | zero => exact hp
        | succ j => exact h2 j (by simpa using hj) (by omega)
      · refine .inr fun j hj => ?_
        cases j with
        | zero => exact hp
        | succ j => exact h j (by simpa using hj)
    · exact .inl ⟨0, by simp, hp, fun j hj h => by omega⟩
theorem none_filter {α : Type} (p : α → Bool) (L : List α) (h : ∀ j (hj : j < L.length), p L[j] = false) : L.filter p = [] := by
  rw [List.filter_eq_nil_iff]
  intro x hx
  obtain ⟨j, hj, rfl⟩ := List.getElem_of_mem hx
  simp [h j hj]

/-- What is in the places is what the records say. -/
structure Inv (n : Nat) (L : List Rec) (ps : List Pl) : Prop where
  len : ps.length = n
  rng : ∀ r ∈ L, 1 ≤ r.ino ∧ r.ino ≤ n
  gen : ∀ i (h : i < ps.length), ps[i].gen = ((L.filter (ofIno ((i : Int) + 1))).length : Int)
  has : ∀ i (h : i < ps.length), L.filter (inn ((i : Int) + 1)) = if ps[i].is then [⟨i + 1, ps[i].gen, ps[i].x, true⟩] else []

theorem Inv.zero (n : Nat) : Inv n [] (List.replicate n Pl.zero) := by
  refine ⟨by simp, by simp, fun i h => ?_, fun i h => ?_⟩
  · simp [Pl.zero]
  · simp [Pl.zero]
theorem Inv.gen_bd {n : Nat} {L : List Rec} {ps : List Pl} (h : Inv n L ps) {i : Nat} (hi : i < ps.length) : 0 ≤ ps[i].gen ∧ ps[i].gen ≤ L.length := by
  rw [h.gen i hi]
  have := List.length_filter_le (ofIno ((i : Int) + 1)) L
  omega
/-- A handle that no record that is there has names nothing. -/
theorem Inv.stale {n : Nat} {L : List Rec} {ps : List Pl} (h : Inv n L ps) {ino gen : Int} (hn : ∀ j (hj : j < L.length), hit ino gen L[j] = false) : Stale ps ino gen := fun i hi e his hg => by
  have h1 := h.has i hi
  rw [his] at h1
  have hm : (⟨i + 1, ps[i].gen, ps[i].x, true⟩ : Rec) ∈ L.filter (inn ((i : Int) + 1)) := by rw [h1]; simp
  have hm' := (List.mem_filter.1 hm).1
  obtain ⟨j, hj, ej⟩ := List.getElem_of_mem hm'
  have := hn j hj
  rw [ej] at this
  simp [hit, e, hg] at this
/-- One that a record has names that record's place. -/
theorem Inv.live {n : Nat} {L : List Rec} {ps : List Pl} (h : Inv n L ps) {ino gen : Int} {k : Nat} (hk : k < L.length) (hh : hit ino gen L[k] = true) :
    ∃ i, ∃ hi : i < ps.length, ino = i + 1 ∧ ps[i].is = true ∧ ps[i].gen = gen ∧ L[k] = ⟨i + 1, gen, ps[i].x, true⟩ := by
  have hr := h.rng _ (List.getElem_mem hk)
  simp only [hit, Bool.and_eq_true, beq_iff_eq] at hh
  obtain ⟨h1, h2, h3⟩ := hh
  have hl := h.len
  refine ⟨(ino - 1).toNat, by omega, by omega, ?_⟩
  have hi : (ino - 1).toNat < ps.length := by omega
  have e : (((ino - 1).toNat : Nat) : Int) + 1 = ino := by omega
  have hm : L[k] ∈ L.filter (inn ((((ino - 1).toNat : Nat) : Int) + 1)) := by
    rw [List.mem_filter]
    exact ⟨List.getElem_mem hk, by rw [e]; simp [inn, h1, h2]⟩
  rw [h.has _ hi] at hm
  cases his : ps[(ino - 1).toNat].is
  · rw [his] at hm; simp at hm
  · rw [his] at hm
    simp only [if_true, List.mem_singleton] at hm
    have hg : ps[(ino - 1).toNat].gen = gen := by rw [← h3, hm]
    exact ⟨rfl, hg, by rw [hm, hg]⟩
theorem set_split {α : Type} (L : List α) (k : Nat) (hk : k < L.length) (y : α) : L = L.take k ++ L[k] :: L.drop (k + 1) ∧ L.set k y = L.take k ++ y :: L.drop (k + 1) := by
  refine ⟨?_, ?_⟩
  · rw [List.getElem_cons_drop, List.take_append_drop]
  · rw [List.set_eq_take_append_cons_drop, if_pos hk]
theorem mid_nil {α : Type} {A B : List α} {x y : α} (h : A ++ x :: B = [y]) : A = [] ∧ x = y ∧ B = [] := by
  cases A with
  | nil => simp at h; exact ⟨rfl, h.1, h.2⟩
  | cons a A => simp at h
theorem filter_mid {α : Type} {A B : List α} {x y : α} (p : α → Bool) (h : p x = p y) : ((A ++ x :: B).filter p).length = ((A ++ y :: B).filter p).length := by
  simp only [List.filter_append, List.length_append, List.filter_cons]
  rw [h]
  split <;> simp
/-- Something else, or nothing, is put where a record is. -/
theorem Inv.set {n : Nat} {L : List Rec} {ps : List Pl} (h : Inv n L ps) {i k : Nat} (hi : i < ps.length) (hk : k < L.length) (hr : L[k] = ⟨i + 1, ps[i].gen, ps[i].x, true⟩) (his : ps[i].is = true) (x : Int) (b : Bool) :
    Inv n (L.set k ⟨i + 1, ps[i].gen, x, b⟩) (ps.set i ⟨b, ps[i].gen, x⟩) := by
  obtain ⟨e1, e2⟩ := set_split L k hk ⟨i + 1, ps[i].gen, x, b⟩
  rw [hr] at e1
  refine ⟨by simp [h.len], ?_, ?_, ?_⟩
  · intro r hm
    rcases List.mem_or_eq_of_mem_set hm with hm | rfl
    · exact h.rng r hm
    · have := h.len; simp; omega
  · intro j hj
    have hj' : j < ps.length := by simpa using hj
    have hg := h.gen j hj'
    have hc : ((L.set k ⟨i + 1, ps[i].gen, x, b⟩).filter (ofIno ((j : Int) + 1))).length = (L.filter (ofIno ((j : Int) + 1))).length := by
      rw [e2]
      conv => rhs; rw [e1]
      exact filter_mid _ rfl
    rw [hc, ← hg, List.getElem_set]
    split
    · rename_i e; subst e; rfl
    · rfl
  · intro j hj
    have hj' : j < ps.length := by simpa using hj
    have hh := h.has j hj'
    rw [e1] at hh
    rw [e2]
    simp only [List.filter_append, List.filter_cons] at hh ⊢
    by_cases e : i = j
    · subst e
      rw [his] at hh
      simp only [inn, beq_self_eq_true, Bool.and_self, if_true] at hh
      obtain ⟨q1, _, q2⟩ := mid_nil hh
      simp only [inn, List.getElem_set_self, beq_self_eq_true, Bool.and_true]
      rw [q1, q2]
      cases b <;> simp
    · have ne : (((i : Int) + 1) == ((j : Int) + 1)) = false := by simp; omega
      simp only [inn, ne, Bool.and_false, Bool.false_eq_true, if_false] at hh ⊢
      rw [List.getElem_set, if_neg e]
      exact hh
/-- One more comes. -/
theorem Inv.add {n : Nat} {L : List Rec} {ps : List Pl} (h : Inv n L ps) {m : Nat} (hm : m < ps.length) (hf : ps[m].is = false) (x : Int) :
    Inv n (L ++ [⟨m + 1, ps[m].gen + 1, x, true⟩]) (ps.set m ⟨true, ps[m].gen + 1, x⟩) := by
  have hl := h.len
  refine ⟨by simp [h.len], ?_, ?_, ?_⟩
  · intro r hr
    rcases List.mem_append.1 hr with hr | hr
    · exact h.rng r hr
    · simp only [List.mem_singleton] at hr; subst hr; simp; omega
  · intro j hj
    have hj' : j < ps.length := by simpa using hj
    have hg := h.gen j hj'
    rw [List.filter_append, List.length_append, List.getElem_set]
    by_cases e : m = j
    · subst e
      rw [if_pos rfl]
      simp [ofIno, hg]
    · have ne : (((m : Int) + 1) == ((j : Int) + 1)) = false := by simp; omega
      rw [if_neg e, hg]
      simp only [List.filter_cons, List.filter_nil, ofIno, ne]
      simp
  · intro j hj
    have hj' : j < ps.length := by simpa using hj
    have hh := h.has j hj'
    rw [List.filter_append, hh, List.getElem_set]
    by_cases e : m = j
    · subst e
      rw [if_pos rfl, hf]
      simp [inn]
    · have ne : (((m : Int) + 1) == ((j : Int) + 1)) = false := by simp; omega
      rw [if_neg e]
      simp only [List.filter_cons, List.filter_nil, inn, ne]
      simp
/-- Something is in a place. -/
theorem Inv.taken {n : Nat} {L : List Rec} {ps : List Pl} (h : Inv n L ps) {i : Nat} (hi : i < ps.length) (his : ps[i].is = true) : ∃ k, ∃ hk : k < L.length, inn ((i : Int) + 1) L[k] = true ∧ ∀ j (hj : j < L.length), j < k → inn ((i : Int) + 1) L[j] = false := by
  rcases first_of (inn ((i : Int) + 1)) L with h1 | h1
  · exact h1
  · have h2 := h.has i hi
    rw [none_filter _ _ h1, his] at h2
    simp at h2
theorem Inv.free {n : Nat} {L : List Rec} {ps : List Pl} (h : Inv n L ps) {i : Nat} (hi : i < ps.length) (his : ps[i].is = false) : ∀ j (hj : j < L.length), inn ((i : Int) + 1) L[j] = false := by
  intro j hj
  have h2 := h.has i hi
  rw [his] at h2
  simp only [Bool.false_eq_true, if_false, List.filter_eq_nil_iff] at h2
  simpa using h2 _ (List.getElem_mem hj)
theorem Inv.over {n : Nat} {L : List Rec} {ps : List Pl} (h : Inv n L ps) : ∀ j (hj : j < L.length), inn ((n : Int) + 1) L[j] = false := by
  intro j hj
  have := h.rng _ (List.getElem_mem hj)
  simp only [inn, Bool.and_eq_false_iff]
  right
  simp
  omega

/-- What is there, by the places. -/
def eachP : List Pl → Nat → List Rec
  | [], _ => []
  | p :: ps, i => (if p.is then [⟨i + 1, p.gen, p.x, true⟩] else []) ++ eachP ps (i + 1)
theorem eachP_len : ∀ (ps : List Pl) (i : Nat), (eachP ps i).length = count ps
  | [], _ => rfl
  | p :: ps, i => by
    have := eachP_len ps (i + 1)
    simp only [eachP, count, List.length_append, this]
    split <;> simp
theorem eachP_take : ∀ (ps : List Pl) (i d : Nat) (h : i < ps.length), eachP (ps.take (i + 1)) d = eachP (ps.take i) d ++ (if ps[i].is then [⟨(d + i : Nat) + 1, ps[i].gen, ps[i].x, true⟩] else [])
  | [], i, d, h => by simp at h
  | p :: ps, 0, d, h => by simp [eachP]
  | p :: ps, i + 1, d, h => by
    have ih := eachP_take ps i (d + 1) (by simpa using h)
    simp only [List.take_succ_cons, eachP, List.getElem_cons_succ, List.append_assoc] at ih ⊢
    rw [ih]
    have e : d + 1 + i = d + (i + 1) := by omega
    rw [e]
theorem eachP_split (ps : List Pl) (i : Nat) (h : i < ps.length) : ∃ T, eachP ps 0 = eachP (ps.take (i + 1)) 0 ++ T := by
  have key : ∀ (ps : List Pl) (i d : Nat), ∃ T, eachP ps d = eachP (ps.take i) d ++ T := by
    intro ps
    induction ps with
    | nil => intro i d; exact ⟨[], by simp [eachP]⟩
    | cons p ps ih =>
      intro i d
      cases i with
      | zero => exact ⟨eachP (p :: ps) d, by simp [eachP]⟩
      | succ i =>
        obtain ⟨T, hT⟩ := ih i (d + 1)
        exact ⟨T, by simp only [List.take_succ_cons, eachP, List.append_assoc, hT]⟩
  exact key ps (i + 1) 0
/-- What Each comes to at a place in which something is. -/
theorem eachP_at (ps : List Pl) (i : Nat) (h : i < ps.length) (his : ps[i].is = true) : ∃ hc : count (ps.take i) < (eachP ps 0).length, (eachP ps 0)[count (ps.take i)] = ⟨i + 1, ps[i].gen, ps[i].x, true⟩ := by
  obtain ⟨T, hT⟩ := eachP_split ps i h
  rw [eachP_take ps i 0 h, his] at hT
  have hl := eachP_len (ps.take i) 0
  have hlen : count (ps.take i) < (eachP ps 0).length := by rw [hT]; simp; omega
  refine ⟨hlen, ?_⟩
  have : (eachP ps 0)[count (ps.take i)]? = some ⟨i + 1, ps[i].gen, ps[i].x, true⟩ := by
    rw [hT, List.append_assoc, List.getElem?_append_right (by omega), hl]
    simp
  rw [List.getElem?_eq_getElem hlen] at this
  exact Option.some.inj this
/-- What is there, by the records, of the first k places. -/
def eachR (L : List Rec) : Nat → List Rec
  | 0 => []
  | k + 1 => eachR L k ++ L.filter (inn ((k : Int) + 1))
theorem Inv.each {n : Nat} {L : List Rec} {ps : List Pl} (h : Inv n L ps) : ∀ k, k ≤ n → eachR L k = eachP (ps.take k) 0
  | 0, _ => by simp [eachR, eachP]
  | k + 1, hk => by
    have hl := h.len
    have hk' : k < ps.length := by omega
    rw [eachR, h.each k (by omega), eachP_take ps k 0 hk', h.has k hk']
    simp
theorem Inv.each_all {n : Nat} {L : List Rec} {ps : List Pl} (h : Inv n L ps) : eachR L n = eachP ps 0 := by
  rw [h.each n (Nat.le_refl _), List.take_of_length_le (by rw [h.len]; omega)]
end Go.Proofs.Ytmdacpkkglhefaa.inoI
