/- All fragments of good records: how many bytes, and what the deframer makes of them; what the document's All tells of them. -/
import Derived.Test.YtpgbocdcjlcelaaDeD
namespace Go.Proofs.Ytpgbocdcjlcelaa
open Go.ChangeShapes Go.WideShapes Go.ChangeAt Go.RowKit

theorem cnt_le40 (n s : Nat) (hs : 1 ≤ s) (hn : n ≤ 40) : cnt n s ≤ 40 := by
  unfold cnt
  split
  · omega
  · obtain ⟨a, rfl⟩ : ∃ a, n = a + 1 := ⟨n - 1, by omega⟩
    obtain ⟨b, rfl⟩ : ∃ b, s = b + 1 := ⟨s - 1, by omega⟩
    refine Nat.le_trans (m := a + 1) (Nat.div_le_of_le_mul ?_) hn
    have : (b + 1) * (a + 1) = b * a + b + a + 1 := by rw [Nat.add_mul, Nat.mul_add]; omega
    have := Nat.zero_le (b * a)
    omega
theorem cnt_one (n : Nat) (hn : n ≤ 4096) : cnt n 4096 = 1 := by
  unfold cnt
  split
  · rfl
  · omega
theorem fr_len2 (zs : List Int) (s k : Nat) : (fr zs s k).length = 4 * k + min zs.length (k * s) := by
  induction k with
  | zero => simp [fr]
  | succ k ih =>
    rw [fr_succ]
    simp only [List.length_append, ih, List.length_take, List.length_drop, be4, List.length_cons, List.length_nil]
    have h1 := sum_step zs.length s k
    have h2 := szAt_le zs.length s k
    have h3 : szAt zs.length s k ≤ zs.length - k * s := by unfold szAt; omega
    omega
theorem ans_fr {y : List Int} (hy : y.length ≤ 40) {s : Int} (h1 : 1 ≤ s) : ans y s = (fr y s.toNat (cnt y.length s.toNat), 0) := by
  have hc := cnt_le40 y.length s.toNat (by omega) hy
  unfold ans
  rw [if_neg (by omega), if_neg (by omega), if_neg (by omega)]
theorem ans_len200 {y : List Int} (hy : y.length ≤ 40) {s : Int} (h1 : 1 ≤ s) : (ans y s).1.length ≤ 200 := by
  rw [ans_fr hy h1]
  have hc := cnt_le40 y.length s.toNat (by omega) hy
  simp only [fr_len2]
  omega
theorem getD_le {yss : List (List Int)} (hy : ∀ y ∈ yss, y.length ≤ 40) (i : Nat) : (yss.getD i []).length ≤ 40 := by
  by_cases hi : i < yss.length
  · simp only [List.getD_eq_getElem?_getD, List.getElem?_eq_getElem hi, Option.getD_some]
    exact hy _ (List.getElem_mem hi)
  · rw [List.getD_eq_getElem?_getD, List.getElem?_eq_none (by omega)]; simp
theorem getD_wf {yss : List (List Int)} (hy : ∀ y ∈ yss, ∀ z ∈ y, (Lit.int .u8 z).wf = true) (i : Nat) : ∀ z ∈ yss.getD i [], (Lit.int .u8 z).wf = true := by
  by_cases hi : i < yss.length
  · simp only [List.getD_eq_getElem?_getD, List.getElem?_eq_getElem hi, Option.getD_some]
    exact hy _ (List.getElem_mem hi)
  · rw [List.getD_eq_getElem?_getD, List.getElem?_eq_none (by omega)]; simp
theorem cat_len {gs : List Int} {yss : List (List Int)} (hs : ∀ z ∈ gs, 1 ≤ z ∧ z ≤ 20) (hy : ∀ y ∈ yss, y.length ≤ 40) : ∀ k, (catAll gs yss k).length ≤ k * 200
  | 0 => by simp [catAll]
  | k + 1 => by
    rw [catAll_succ, List.length_append]
    have := cat_len hs hy k
    have := ans_len200 (getD_le hy k) (sizeAt_good hs k)
    omega
theorem cat_wf {gs : List Int} {yss : List (List Int)} (hy : ∀ y ∈ yss, ∀ z ∈ y, (Lit.int .u8 z).wf = true) (k : Nat) : ∀ z ∈ catAll gs yss k, (Lit.int .u8 z).wf = true := by
  intro z hz
  simp only [catAll, List.mem_flatMap] at hz
  obtain ⟨i, _, hz⟩ := hz
  exact ans_wf (getD_wf hy i) _ z hz
/-- The deframer makes these records of their fragments. -/
theorem feed_cat (m f : Nat) {gs : List Int} {yss : List (List Int)} (hs : ∀ z ∈ gs, 1 ≤ z ∧ z ≤ 20) (hy : ∀ y ∈ yss, y.length ≤ 40) (hm : 40 ≤ m) (hf : ∀ i, cnt (yss.getD i []).length (sizeAt gs i).toNat ≤ f) (need : Nat) (ends : Bool) (L : List (List Int)) :
    ∀ k, k ≤ yss.length → ∀ t, ∃ need' ends', feed m f (catAll gs yss k ++ t) (⟨0, [], [], 0, need, ends, 0⟩, L) = feed m f t (⟨0, [], [], 0, need', ends', 0⟩, L ++ yss.take k)
  | 0, _, t => ⟨need, ends, by simp [catAll]⟩
  | k + 1, hk, t => by
    obtain ⟨n1, e1, h1⟩ := feed_cat m f hs hy hm hf need ends L k (by omega) ((ans (yss.getD k []) (sizeAt gs k)).1 ++ t)
    rw [catAll_succ, List.append_assoc, h1, ans_fr (getD_le hy k) (sizeAt_good hs k)]
    have h40 := getD_le hy k
    obtain ⟨n2, e2, h2⟩ := feed_rec m f (yss.getD k []) (sizeAt gs k).toNat (by have := sizeAt_good hs k; omega) (by omega) (by omega) (L ++ yss.take k) (hf k) n1 e1 t
    refine ⟨n2, e2, ?_⟩
    rw [h2, take_snoc yss k [] (by omega), List.append_assoc]
theorem Each.wf {w : World} {base : Nat} : ∀ {xs : List Value} {yss : List (List Int)}, Each (OwnRow w base) xs yss → ∀ y ∈ yss, ∀ z ∈ y, (Lit.int .u8 z).wf = true
  | _, _, .nil => by simp
  | _, _, .cons h hs => by
    intro y hy
    rcases List.mem_cons.1 hy with rfl | hy
    · exact h.2
    · exact hs.wf y hy
theorem OwnsRows.wf {w : World} {base : Nat} {v : Value} {yss : List (List Int)} (h : OwnsRows w base v yss) : ∀ y ∈ yss, ∀ z ∈ y, (Lit.int .u8 z).wf = true := by
  obtain ⟨xs, _, h2⟩ := h
  exact h2.wf
theorem own_len {yss : List (List Int)} (hl : yss.length ≤ 5) (hy : ∀ y ∈ yss, y.length ≤ 40) {gs : List Int} (hg : ∀ z ∈ gs, 1 ≤ z ∧ z ≤ 20) : (catAll gs yss yss.length).length ≤ 1000 := by
  have := cat_len hg hy yss.length
  omega
/-- The document's All of good records. -/
theorem all_good {w : World} {b : Nat} {v1 : Value} {yss : List (List Int)} (h : OwnsRows w b v1 yss) (hl : yss.length ≤ 5) (hy : ∀ y ∈ yss, y.length ≤ 40) {sa : Option Addr} {sn sc : Nat} {gs : List Int} (hs : IsRow .i64 w sa sn sc gs) (hg : ∀ z ∈ gs, 1 ≤ z ∧ z ≤ 20) :
    Calls Try.prog 9 #[.slice sa sn sc, v1] w fun r w' => ∃ v, r = .returned (.tuple #[v, .int .i64 0]) ∧ Owns w' w.heap.size 5 v (bv (catAll gs yss yss.length)) ∧ Ext w w' := by
  obtain ⟨a, c, rfl, q, _⟩ := h.rows
  have e : goAll gs yss 0 [] = (catAll gs yss yss.length, 0) := by
    have := goAll_good hg hy yss.length 0 (by omega)
    rw [List.drop_zero] at this
    rw [← this]
    simp [catAll]
  have h2 := refAll_any sa sn sc gs a _ c yss hl w hs q
  rw [e] at h2
  exact h2
end Go.Proofs.Ytpgbocdcjlcelaa
