/- The document's answer of all bytes at once, in plain Lean; the deframer gives it; fragments of records are these records. -/
import Derived.Test.YtpgbocdcjlcelaaDe4
namespace Go.Proofs.Ytpgbocdcjlcelaa
open Go.ChangeShapes Go.WideShapes Go.ChangeAt Go.RowKit

structure RD where
  l : List (List Int)
  e : Int
  held : Nat
  clean : Bool
def sz (b : List Int) : Nat := low31 (val (b.take 4))
def lst (b : List Int) : Bool := top31 (val (b.take 4))
/-- The document's answer. -/
def ref (m f : Nat) (b rc : List Int) (n : Nat) (L : List (List Int)) : RD :=
  if b.length ≤ 3 then ⟨L, 0, rc.length + b.length, n == 0 && b.length == 0⟩
  else if f < n + 1 then ⟨L, 5, 0, false⟩
  else if m < rc.length + sz b then ⟨L, 4, 0, false⟩
  else if b.length < 4 + sz b then ⟨L, 0, rc.length + b.length - 4, false⟩
  else if lst b then ref m f (b.drop (4 + sz b)) [] 0 (L ++ [rc ++ (b.drop 4).take (sz b)])
  else ref m f (b.drop (4 + sz b)) (rc ++ (b.drop 4).take (sz b)) (n + 1) L
termination_by b.length
decreasing_by all_goals simp only [List.length_drop]; omega

/-- What a state tells. -/
def rd (p : St × List (List Int)) : RD := ⟨p.2, p.1.err, p.1.rc.length + p.1.num.length, p.1.err == 0 && p.1.count == 0 && p.1.num.length == 0⟩

theorem feed_body (m f : Nat) : ∀ (t : List Int) (rc : List Int) (count need : Nat) (ends : Bool) (err : Int) (L : List (List Int)), 1 ≤ need → t.length < need →
    feed m f t (⟨1, [], rc, count, need, ends, err⟩, L) = (⟨1, [], rc ++ t, count, need - t.length, ends, err⟩, L)
  | [], rc, count, need, ends, err, L, _, _ => by simp [feed]
  | c :: t, rc, count, need, ends, err, L, h1, h2 => by
    simp only [List.length_cons] at h2
    rw [feed_cons]
    have : stepF m f (⟨1, [], rc, count, need, ends, err⟩, L) c = (⟨1, [], rc ++ [c], count, need - 1, ends, err⟩, L) := by
      simp [stepF, step, stepBody, tell, show 1 < need by omega]
    rw [this, feed_body m f t _ _ _ _ _ _ (by omega) (by omega)]
    simp only [List.append_assoc, List.cons_append, List.nil_append, List.length_cons, Prod.mk.injEq, St.mk.injEq, true_and, and_true]
    omega
theorem feed_whole (m f : Nat) : ∀ (t : List Int) (rc : List Int) (count need : Nat) (ends : Bool) (err : Int) (L : List (List Int)), 1 ≤ need → need ≤ t.length →
    feed m f t (⟨1, [], rc, count, need, ends, err⟩, L) = feed m f (t.drop need) (if ends then (⟨0, [], [], 0, 0, ends, err⟩, L ++ [rc ++ t.take need]) else (⟨0, [], rc ++ t.take need, count, 0, ends, err⟩, L))
  | [], rc, count, need, ends, err, L, h1, h2 => by simp at h2; omega
  | c :: t, rc, count, need, ends, err, L, h1, h2 => by
    simp only [List.length_cons] at h2
    rw [feed_cons]
    by_cases hn : 1 < need
    · have : stepF m f (⟨1, [], rc, count, need, ends, err⟩, L) c = (⟨1, [], rc ++ [c], count, need - 1, ends, err⟩, L) := by
        simp [stepF, step, stepBody, tell, hn]
      rw [this, feed_whole m f t _ _ _ _ _ _ (by omega) (by omega)]
      obtain ⟨k, rfl⟩ : ∃ k, need = k + 1 := ⟨need - 1, by omega⟩
      simp
    · obtain rfl : need = 1 := by omega
      have : stepF m f (⟨1, [], rc, count, 1, ends, err⟩, L) c = (if ends then (⟨0, [], [], 0, 0, ends, err⟩, L ++ [rc ++ [c]]) else (⟨0, [], rc ++ [c], count, 0, ends, err⟩, L)) := by
        cases ends <;> simp [stepF, step, stepBody, tell]
      rw [this]
      simp
theorem feed_forget (m f : Nat) : ∀ (t : List Int) (s : St) (L : List (List Int)), s.mode = 2 → feed m f t (s, L) = (s, L)
  | [], s, L, _ => rfl
  | c :: t, s, L, h => by
    rw [feed_cons]
    have : stepF m f (s, L) c = (s, L) := by simp [stepF, step, tell, h]
    rw [this]
    exact feed_forget m f t s L h
theorem feed4 (m f : Nat) (x y z u : Int) (t rc : List Int) (n need : Nat) (ends : Bool) (L : List (List Int)) :
    feed m f (x :: y :: z :: u :: t) (⟨0, [], rc, n, need, ends, 0⟩, L) = feed m f t (tell (stepHead m f ⟨0, [x, y, z], rc, n, need, ends, 0⟩ u) L) := by
  rw [feed_cons, feed_cons, feed_cons, feed_cons]
  simp [stepF, step, stepHead, tell]
/-- The deframer gives the document's answer. -/
theorem feed_ref (m f : Nat) : ∀ (k : Nat) (b rc : List Int) (n need : Nat) (ends : Bool) (L : List (List Int)), b.length ≤ k → rc.length ≤ m → n ≤ f →
    rd (feed m f b (⟨0, [], rc, n, need, ends, 0⟩, L)) = ref m f b rc n L := by
  intro k
  induction k with
  | zero =>
    intro b rc n need ends L hk hr hn
    have hb : b = [] := List.eq_nil_of_length_eq_zero (by omega)
    subst hb
    rw [ref]
    simp [feed, rd]
  | succ k ih =>
    intro b rc n need ends L hk hr hn
    match b, hk with
    | [], _ => rw [ref]; simp [feed, rd]
    | [x], _ => rw [ref]; simp [feed, rd, stepF, step, stepHead, tell]
    | [x, y], _ => rw [ref]; simp [feed, rd, stepF, step, stepHead, tell]
    | [x, y, z], _ => rw [ref]; simp [feed, rd, stepF, step, stepHead, tell]
    | x :: y :: z :: u :: t, hk =>
      rw [feed4, ref]
      rw [if_neg (by simp)]
      have hsz : sz (x :: y :: z :: u :: t) = low31 (val [x, y, z, u]) := rfl
      have hls : lst (x :: y :: z :: u :: t) = top31 (val [x, y, z, u]) := rfl
      rw [hsz, hls]
      simp only [List.length_cons] at hk
      unfold stepHead
      rw [if_neg (by simp)]
      simp only [List.cons_append, List.nil_append]
      by_cases hf : n = f
      · rw [if_pos hf, if_pos (show f < n + 1 by omega)]
        simp only [tell, Bool.false_eq_true, if_false]
        rw [feed_forget m f t _ _ rfl]
        simp [rd, St.fail]
      · rw [if_neg hf, if_neg (show ¬ f < n + 1 by omega)]
        by_cases hm : m < rc.length + low31 (val [x, y, z, u])
        · rw [if_pos hm, if_pos hm]
          simp only [tell, Bool.false_eq_true, if_false]
          rw [feed_forget m f t _ _ rfl]
          simp [rd, St.fail]
        · rw [if_neg hm, if_neg hm]
          generalize hv : val [x, y, z, u] = V at *
          by_cases h0 : low31 V = 0
          · rw [if_pos h0, h0]
            rw [if_neg (by simp)]
            by_cases ht : top31 V = true
            · simp only [tell, ht, if_true]
              rw [ih t [] 0 0 true _ (by omega) (by simp) (by omega)]
              simp
            · have ht' : top31 V = false := by simpa using ht
              simp only [tell, ht', Bool.false_eq_true, if_false]
              rw [ih t rc (n + 1) 0 false _ (by omega) hr (by omega)]
              simp
          · rw [if_neg h0]
            simp only [tell, Bool.false_eq_true, if_false]
            by_cases hl : t.length < low31 V
            · rw [if_pos (by simp only [List.length_cons]; omega), feed_body m f t _ _ _ _ _ _ (by omega) hl]
              simp [rd]
              omega
            · rw [if_neg (by simp only [List.length_cons]; omega), feed_whole m f t _ _ _ _ _ _ (by omega) (by omega)]
              have e1 : List.drop (4 + low31 V) (x :: y :: z :: u :: t) = t.drop (low31 V) := by rw [Nat.add_comm]; rfl
              have e2 : List.drop 4 (x :: y :: z :: u :: t) = t := rfl
              rw [e1, e2]
              by_cases ht : top31 V = true
              · rw [if_pos ht, if_pos ht]
                exact ih _ _ _ _ _ _ (by simp; omega) (by simp) (by omega)
              · rw [if_neg ht, if_neg ht]
                exact ih _ _ _ _ _ _ (by simp; omega) (by simp; omega) (by omega)
theorem feed_new (m f : Nat) (b : List Int) : rd (feed m f b (St.new, [])) = ref m f b [] 0 [] := feed_ref m f b.length b [] 0 0 false [] (Nat.le_refl _) (by simp) (by omega)

/-! ### fragments of records -/
theorem val_be4 (n : Int) (_h0 : 0 ≤ n) (_h1 : n < 4294967296) : val (be4 n) = n := by
  simp [val, be4]
  omega
theorem low31_lt (n : Nat) (h : n < 2147483648) : low31 n = n := by unfold low31; omega
theorem low31_top (n : Nat) (h : n < 2147483648) : low31 ((n : Int) + 2147483648) = n := by unfold low31; omega
theorem szAt_le (n s i : Nat) : szAt n s i ≤ n := by unfold szAt; omega
theorem hdr_low (n s i : Nat) (hn : n ≤ 4096) : low31 (hdr n s i) = szAt n s i := by
  have := szAt_le n s i
  unfold hdr
  split
  · exact low31_top _ (by omega)
  · rw [Int.add_zero]; exact low31_lt _ (by omega)
theorem hdr_top (n s i : Nat) (hn : n ≤ 4096) : top31 (hdr n s i) = decide (i + 1 = cnt n s) := by
  have := szAt_le n s i
  unfold hdr top31
  split
  · next h => simp [h]; omega
  · next h => simp [h]; omega
/-- One fragment: its bytes are put behind; the last one's record is told. -/
theorem feed_part (m f : Nat) (zs : List Int) (s i : Nat) (hn : zs.length ≤ 4096) (_hm : zs.length ≤ m) (rc : List Int) (hr : rc.length + szAt zs.length s i ≤ m) (n need : Nat) (hf : n < f) (ends : Bool) (L : List (List Int)) (t : List Int) :
    ∃ need' ends', feed m f (part zs s i ++ t) (⟨0, [], rc, n, need, ends, 0⟩, L) =
      feed m f t (if i + 1 = cnt zs.length s then (⟨0, [], [], 0, need', ends', 0⟩, L ++ [rc ++ (zs.drop (i * s)).take (szAt zs.length s i)]) else (⟨0, [], rc ++ (zs.drop (i * s)).take (szAt zs.length s i), n + 1, need', ends', 0⟩, L)) := by
  have hb := hdr_bd zs.length s i hn
  have e : part zs s i ++ t = hdr zs.length s i / 16777216 :: hdr zs.length s i / 65536 % 256 :: hdr zs.length s i / 256 % 256 :: hdr zs.length s i % 256 :: ((zs.drop (i * s)).take (szAt zs.length s i) ++ t) := by
    simp [part, be4]
  have hv : val [hdr zs.length s i / 16777216, hdr zs.length s i / 65536 % 256, hdr zs.length s i / 256 % 256, hdr zs.length s i % 256] = hdr zs.length s i := val_be4 _ hb.1 hb.2
  rw [e, feed4]
  unfold stepHead
  rw [if_neg (by simp)]
  simp only [List.cons_append, List.nil_append]
  rw [hv, hdr_low _ _ _ hn, hdr_top _ _ _ hn, if_neg (by omega), if_neg (by omega)]
  have hlen : ((zs.drop (i * s)).take (szAt zs.length s i)).length = szAt zs.length s i := by
    simp only [List.length_take, List.length_drop]
    unfold szAt
    omega
  generalize (zs.drop (i * s)).take (szAt zs.length s i) = d at *
  by_cases h0 : szAt zs.length s i = 0
  · have hd : d = [] := List.eq_nil_of_length_eq_zero (by omega)
    subst hd
    rw [if_pos h0]
    refine ⟨0, decide (i + 1 = cnt zs.length s), ?_⟩
    by_cases hl : i + 1 = cnt zs.length s
    · simp [tell, hl]
    · simp [tell, hl]
  · rw [if_neg h0]
    simp only [tell, Bool.false_eq_true, if_false]
    refine ⟨0, decide (i + 1 = cnt zs.length s), ?_⟩
    rw [feed_whole m f _ _ _ _ _ _ _ (by omega) (by simp; omega)]
    rw [← hlen, List.drop_left, List.take_left]
    by_cases hl : i + 1 = cnt zs.length s
    · simp [hl]
    · simp [hl]
theorem take_drop_min (zs : List Int) (s i : Nat) : zs.take (i * s) ++ (zs.drop (i * s)).take (szAt zs.length s i) = zs.take ((i + 1) * s) := by
  have : (zs.drop (i * s)).take (szAt zs.length s i) = (zs.drop (i * s)).take s := by
    unfold szAt
    rcases Nat.le_total s (zs.length - i * s) with h | h
    · rw [Nat.min_eq_left h]
    · rw [Nat.min_eq_right h, List.take_of_length_le (by simp), List.take_of_length_le (by simp; omega)]
  rw [this, Nat.add_mul, Nat.one_mul, List.take_add]
theorem fr_part (zs : List Int) (s k : Nat) : fr zs s (k + 1) = fr zs s k ++ part zs s k := by simp [fr, List.range_succ]
/-- The first i fragments of a record, not all. -/
theorem feed_fr (m f : Nat) (zs : List Int) (s : Nat) (hn : zs.length ≤ 4096) (hm : zs.length ≤ m) (L : List (List Int)) (hf : cnt zs.length s ≤ f) (need : Nat) (ends : Bool) : ∀ (i : Nat), i < cnt zs.length s → ∀ t,
    ∃ need' ends', feed m f (fr zs s i ++ t) (⟨0, [], [], 0, need, ends, 0⟩, L) = feed m f t (⟨0, [], zs.take (i * s), i, need', ends', 0⟩, L) := by
  intro i
  induction i with
  | zero => intro _ t; exact ⟨need, ends, by simp [fr]⟩
  | succ i ih =>
    intro hi t
    obtain ⟨n1, e1, h1⟩ := ih (by omega) (part zs s i ++ t)
    have hr : (zs.take (i * s)).length + szAt zs.length s i ≤ m := by
      simp only [List.length_take]
      unfold szAt
      omega
    obtain ⟨n2, e2, h2⟩ := feed_part m f zs s i hn hm (zs.take (i * s)) hr i n1 (by omega) e1 L t
    refine ⟨n2, e2, ?_⟩
    rw [fr_part, List.append_assoc, h1, h2, if_neg (by omega), take_drop_min]
theorem sum_allD (n s : Nat) (hs : 1 ≤ s) : n ≤ cnt n s * s := by
  have h := cnt_iff n s (cnt n s) hs
  have h0 := cnt_pos n s hs
  have : ¬ cnt n s * s < n := fun h1 => by have := h.2 (.inr h1); omega
  omega
/-- All fragments of a record. -/
theorem feed_rec (m f : Nat) (zs : List Int) (s : Nat) (hs : 1 ≤ s) (hn : zs.length ≤ 4096) (hm : zs.length ≤ m) (L : List (List Int)) (hf : cnt zs.length s ≤ f) (need : Nat) (ends : Bool) (t : List Int) :
    ∃ need' ends', feed m f (fr zs s (cnt zs.length s) ++ t) (⟨0, [], [], 0, need, ends, 0⟩, L) = feed m f t (⟨0, [], [], 0, need', ends', 0⟩, L ++ [zs]) := by
  have hp := cnt_pos zs.length s hs
  obtain ⟨c, hc⟩ : ∃ c, cnt zs.length s = c + 1 := ⟨cnt zs.length s - 1, by omega⟩
  obtain ⟨n1, e1, h1⟩ := feed_fr m f zs s hn hm L hf need ends c (by omega) (part zs s c ++ t)
  have hr : (zs.take (c * s)).length + szAt zs.length s c ≤ m := by
    simp only [List.length_take]
    unfold szAt
    omega
  obtain ⟨n2, e2, h2⟩ := feed_part m f zs s c hn hm (zs.take (c * s)) hr c n1 (by omega) e1 L t
  refine ⟨n2, e2, ?_⟩
  rw [hc, fr_part, List.append_assoc, h1, h2, if_pos hc.symm, take_drop_min]
  have h3 := sum_allD zs.length s hs
  rw [hc] at h3
  rw [List.take_of_length_le (by omega)]
end Go.Proofs.Ytpgbocdcjlcelaa
