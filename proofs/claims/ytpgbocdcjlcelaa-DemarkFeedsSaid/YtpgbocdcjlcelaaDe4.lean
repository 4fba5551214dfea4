/- The deframer, in plain Lean: what one byte does; all bytes at once; fragments of records. -/
import Derived.Test.YtpgbocdcjlcelaaDeR
namespace Go.Proofs.Ytpgbocdcjlcelaa
open Go.ChangeShapes Go.WideShapes Go.ChangeAt Go.RowKit

structure St where
  mode : Nat
  num : List Int
  rc : List Int
  count : Nat
  need : Nat
  ends : Bool
  err : Int
def St.new : St := ⟨0, [], [], 0, 0, false, 0⟩
def low31 (x : Int) : Nat := (x % 2147483648).toNat
def top31 (x : Int) : Bool := decide (2147483648 ≤ x)
def St.fail (s : St) (e : Int) : St := ⟨2, [], [], 0, s.need, s.ends, e⟩
/-- What a byte does: the state, and whether a record is there. -/
def stepHead (m f : Nat) (s : St) (c : Int) : St × Bool :=
  if s.num.length < 3 then (⟨0, s.num ++ [c], s.rc, s.count, s.need, s.ends, s.err⟩, false)
  else if s.count = f then (s.fail 5, false)
  else if m < s.rc.length + low31 (val (s.num ++ [c])) then (s.fail 4, false)
  else if low31 (val (s.num ++ [c])) = 0 then (⟨0, [], s.rc, s.count + 1, 0, top31 (val (s.num ++ [c])), s.err⟩, top31 (val (s.num ++ [c])))
  else (⟨1, [], s.rc, s.count + 1, low31 (val (s.num ++ [c])), top31 (val (s.num ++ [c])), s.err⟩, false)
def stepBody (s : St) (c : Int) : St × Bool :=
  if 1 < s.need then (⟨1, s.num, s.rc ++ [c], s.count, s.need - 1, s.ends, s.err⟩, false)
  else (⟨0, s.num, s.rc ++ [c], s.count, 0, s.ends, s.err⟩, s.ends)
def step (m f : Nat) (s : St) (c : Int) : St × Bool := if s.mode = 0 then stepHead m f s c else if s.mode = 1 then stepBody s c else (s, false)
/-- The record is told. -/
def tell (p : St × Bool) (L : List (List Int)) : St × List (List Int) :=
  if p.2 then (⟨p.1.mode, p.1.num, [], 0, p.1.need, p.1.ends, p.1.err⟩, L ++ [p.1.rc]) else (p.1, L)
def stepF (m f : Nat) (p : St × List (List Int)) (c : Int) : St × List (List Int) := tell (step m f p.1 c) p.2
def feed (m f : Nat) (b : List Int) (p : St × List (List Int)) : St × List (List Int) := b.foldl (stepF m f) p
theorem feed_nil (m f : Nat) (p : St × List (List Int)) : feed m f [] p = p := rfl
theorem feed_cons (m f : Nat) (c : Int) (b : List Int) (p : St × List (List Int)) : feed m f (c :: b) p = feed m f b (stepF m f p c) := rfl
theorem feed_app (m f : Nat) (a b : List Int) (p : St × List (List Int)) : feed m f (a ++ b) p = feed m f b (feed m f a p) := by simp [feed]
theorem feed_snoc (m f : Nat) (b : List Int) (c : Int) (p : St × List (List Int)) : feed m f (b ++ [c]) p = stepF m f (feed m f b p) c := by simp [feed]
/-- What is told ahead stays ahead. -/
theorem feed_pre (m f : Nat) (b : List Int) : ∀ (s : St) (L : List (List Int)), feed m f b (s, L) = ((feed m f b (s, [])).1, L ++ (feed m f b (s, [])).2) := by
  induction b with
  | nil => intro s L; simp [feed]
  | cons c b ih =>
    intro s L
    rw [feed_cons, feed_cons]
    unfold stepF tell
    simp only
    split
    · rw [ih, ih _ ([] ++ _)]; simp [List.append_assoc]
    · rw [ih]
/-- What holds of a state. -/
def Inv (m f : Nat) (s : St) : Prop :=
  s.mode ≤ 2 ∧ s.num.length ≤ 3 ∧ s.rc.length ≤ m ∧ s.count ≤ f ∧ (s.mode = 1 → 1 ≤ s.need ∧ s.rc.length + s.need ≤ m ∧ s.num = []) ∧ (s.mode = 2 → s.num = [] ∧ s.rc = [] ∧ s.count = 0)
theorem Inv.new (m f : Nat) : Inv m f St.new := by simp [Inv, St.new]
theorem Inv.step {m f : Nat} {s : St} (h : Inv m f s) (c : Int) : Inv m f (step m f s c).1 := by
  obtain ⟨h1, h2, h3, h4, h5, h6⟩ := h
  unfold Proofs.Ytpgbocdcjlcelaa.step
  split
  · unfold stepHead
    split
    · simp [Inv]; omega
    · split
      · simp [Inv, St.fail]
      · split
        · simp [Inv, St.fail]
        · split
          · simp [Inv]; omega
          · simp [Inv]; omega
  · split
    · next hm =>
      have := h5 hm
      unfold stepBody
      split
      · simp [Inv]; refine ⟨h2, by omega, h4, by omega, by omega, this.2.2⟩
      · simp [Inv]; refine ⟨h2, by omega, h4⟩
    · exact ⟨h1, h2, h3, h4, h5, h6⟩
theorem Inv.tell {m f : Nat} {p : St × Bool} (h : Inv m f p.1) (hb : p.2 = true → p.1.mode = 0) (L : List (List Int)) : Inv m f (tell p L).1 := by
  obtain ⟨h1, h2, h3, h4, h5, h6⟩ := h
  unfold Proofs.Ytpgbocdcjlcelaa.tell
  split
  · next hp => have := hb hp; simp [Inv]; omega
  · exact ⟨h1, h2, h3, h4, h5, h6⟩
theorem step_told {m f : Nat} {s : St} {c : Int} (h : (step m f s c).2 = true) : (step m f s c).1.mode = 0 := by
  unfold step at h ⊢
  split
  · next h0 =>
    rw [if_pos h0] at h
    unfold stepHead at h ⊢
    repeat' split
    all_goals first | rfl | (exfalso; revert h; repeat' split) <;> simp_all
  · next h0 =>
    rw [if_neg h0] at h
    split
    · next h1 =>
      rw [if_pos h1] at h
      unfold stepBody at h ⊢
      split
      · next h2 => rw [if_pos h2] at h; simp at h
      · rfl
    · next h1 => rw [if_neg h1] at h; simp at h
theorem Inv.stepF {m f : Nat} {p : St × List (List Int)} (h : Inv m f p.1) (c : Int) : Inv m f (stepF m f p c).1 := Inv.tell (h.step c) step_told _
theorem Inv.feed {m f : Nat} : ∀ (b : List Int) {p : St × List (List Int)}, Inv m f p.1 → Inv m f (feed m f b p).1
  | [], _, h => h
  | c :: b, p, h => by rw [feed_cons]; exact Inv.feed b (h.stepF c)
end Go.Proofs.Ytpgbocdcjlcelaa
