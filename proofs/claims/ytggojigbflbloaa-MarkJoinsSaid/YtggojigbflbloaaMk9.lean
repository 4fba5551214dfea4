/- Rows of rows; the fragments of all records: the plain answer; mark.All and the document's All give it. -/
import Derived.Test.YtggojigbflbloaaMk8
namespace Go.Proofs.Ytggojigbflbloaa
open Go.ChangeShapes Go.WideShapes Go.ChangeAt Go.RowKit

/-- The slice value (a, len, cap) holds slices that hold yss; Q is told of each one's address. -/
def IsRows (Q : Option Addr → Nat → Prop) (w : World) (a : Option Addr) (len cap : Nat) (yss : List (List Int)) : Prop :=
  yss.length = len ∧ len ≤ cap ∧ cap ≤ maxLen ∧ (len = 0 ∨ ∃ g o, a = some ⟨g, o, none⟩ ∧ ∀ i, i < len → ∃ ai ci, w.cell? ⟨g, o + i, none⟩ = some (.slice ai (yss.getD i []).length ci) ∧ IsRow .u8 w ai (yss.getD i []).length ci (yss.getD i []) ∧ Q ai ci)
theorem IsRows.ext {Q : Option Addr → Nat → Prop} {w w' : World} {a : Option Addr} {len cap : Nat} {yss : List (List Int)} (h : IsRows Q w a len cap yss) (hx : Ext w w') : IsRows Q w' a len cap yss := by
  obtain ⟨h1, h2, h3, h5⟩ := h
  refine ⟨h1, h2, h3, ?_⟩
  rcases h5 with h5 | ⟨g, o, h6, h7⟩
  · exact .inl h5
  · refine .inr ⟨g, o, h6, fun i hi => ?_⟩
    obtain ⟨ai, ci, q1, q2, q3⟩ := h7 i hi
    exact ⟨ai, ci, hx.cell q1, q2.ext hx, q3⟩
theorem IsRows.at_ {Q : Option Addr → Nat → Prop} {w : World} {a : Option Addr} {len cap : Nat} {yss : List (List Int)} (h : IsRows Q w a len cap yss) {i : Nat} (hi : i < len) :
    ∃ g o ai ci, a = some ⟨g, o, none⟩ ∧ w.cell? ⟨g, o + i, none⟩ = some (.slice ai (yss.getD i []).length ci) ∧ IsRow .u8 w ai (yss.getD i []).length ci (yss.getD i []) ∧ Q ai ci := by
  rcases h.2.2.2 with h5 | ⟨g, o, h6, h7⟩
  · omega
  · obtain ⟨ai, ci, q1, q2, q3⟩ := h7 i hi
    exact ⟨g, o, ai, ci, h6, q1, q2, q3⟩

/-- The size by which the i'th is cut. -/
def sizeAt (ss : List Int) (i : Nat) : Int := if ss.length = 0 then 4096 else ss.getD (i % ss.length) 0
theorem sizeAt_le {ss : List Int} (h : ∀ z ∈ ss, (Lit.int .i64 z).wf = true) (i : Nat) : sizeAt ss i ≤ 9223372036854775807 := by
  unfold sizeAt
  split
  · omega
  · next h0 =>
    have hl := Nat.mod_lt i (show 0 < ss.length by omega)
    simp only [List.getD_eq_getElem?_getD, List.getElem?_eq_getElem hl, Option.getD_some]
    exact (wf_i64 (h _ (List.getElem_mem hl))).2
/-- All records' fragments, from the i'th on, behind acc. -/
def goAll (ss : List Int) : List (List Int) → Nat → List Int → List Int × Int
  | [], _, acc => (acc, 0)
  | y :: ys, i, acc => if (ans y (sizeAt ss i)).2 = 0 then goAll ss ys (i + 1) (acc ++ (ans y (sizeAt ss i)).1) else ([], (ans y (sizeAt ss i)).2)
theorem goAll_more {ss : List Int} {yss : List (List Int)} {i : Nat} (hi : i < yss.length) (acc : List Int) (h : (ans (yss.getD i []) (sizeAt ss i)).2 = 0) :
    goAll ss (yss.drop i) i acc = goAll ss (yss.drop (i + 1)) (i + 1) (acc ++ (ans (yss.getD i []) (sizeAt ss i)).1) := by
  rw [List.drop_eq_getElem_cons hi]
  simp only [List.getD_eq_getElem?_getD, List.getElem?_eq_getElem hi, Option.getD_some] at h ⊢
  rw [goAll, if_pos h]
theorem goAll_bad {ss : List Int} {yss : List (List Int)} {i : Nat} (hi : i < yss.length) (acc : List Int) (h : (ans (yss.getD i []) (sizeAt ss i)).2 ≠ 0) :
    goAll ss (yss.drop i) i acc = ([], (ans (yss.getD i []) (sizeAt ss i)).2) := by
  rw [List.drop_eq_getElem_cons hi]
  simp only [List.getD_eq_getElem?_getD, List.getElem?_eq_getElem hi, Option.getD_some] at h ⊢
  rw [goAll, if_neg h]
theorem goAll_end {ss : List Int} {yss : List (List Int)} {i : Nat} (hi : yss.length ≤ i) (acc : List Int) : goAll ss (yss.drop i) i acc = (acc, 0) := by
  rw [List.drop_eq_nil_of_le hi, goAll]
theorem ans_wf {zs : List Int} (hz : ∀ z ∈ zs, (Lit.int .u8 z).wf = true) (size : Int) : ∀ z ∈ (ans zs size).1, (Lit.int .u8 z).wf = true := by
  unfold ans
  split
  · simp
  · split
    · simp
    · split
      · simp
      · exact fr_wf hz (by omega) _ _
theorem ans_len (zs : List Int) (size : Int) : (ans zs size).1.length ≤ 262400 := by
  unfold ans
  split
  · simp
  · split
    · simp
    · split
      · simp
      · have := fr_len zs (by omega) size.toNat (cnt zs.length size.toNat)
        simp only
        omega

theorem size_any (a : Option Addr) (n cap : Nat) (ss : List Int) (i : Nat) (hi : i ≤ 1000000) (w : World) (h : IsRow .i64 w a n cap ss) :
    Calls Try.prog 20 #[.slice a n cap, .int .i64 i] w fun r w' => r = .returned (.int .i64 (sizeAt ss i)) ∧ w = w' := by
  have hl := h.1
  have hcm := h.2.2.1
  have hlc := h.2.1
  unfold maxLen at hcm
  rcases Nat.eq_zero_or_pos n with h0 | h0
  · have HE := Lib.hid (show sizeAt ss i = 4096 by unfold sizeAt; rw [if_pos (by omega)])
    have hd : ((n : Int) == 0) = true := by simp; omega
    clear h h0 hl
    go_enter Try.func20, Try.ntmps20
    go_wp2
    go_ret
    exact ⟨ret_int HE.out.symm, rfl⟩
  · have hm := Nat.mod_lt i h0
    have HE := Lib.hid (show sizeAt ss i = ss.getD (i % n) 0 by unfold sizeAt; rw [if_neg (by omega), hl])
    have hd : ((n : Int) == 0) = false := by simp; omega
    obtain ⟨g, o, rfl, hc⟩ := h.at_ hm
    rw [← HE.out] at hc
    have hi0 : (0 : Int) ≤ (i : Int) % (n : Int) := by omega
    have hi1 : (i : Int) % (n : Int) < (n : Int) := by omega
    have hi2 : ((i : Int) % (n : Int)).toNat = i % n := by omega
    clear h hl
    go_enter Try.func20, Try.ntmps20
    go_wp2
    go_ret
    exact ⟨rfl, rfl⟩
end Go.Proofs.Ytggojigbflbloaa
