/- The walks of the document's Find, Free and Get. -/
import Derived.Test.YtekdoannpkifaaaFkD
namespace Go.Proofs.Ytekdoannpkifaaa
open Go.ChangeShapes Go.WideShapes Go.ChangeAt Go.RowKit

/-- Which pair has a number. -/
def isN (n : Int) (p : Int × FV) : Bool := p.1 == n
theorem firstK {α : Type} (p : α → Bool) : ∀ L : List α, (∃ k, ∃ hk : k < L.length, p L[k] = true ∧ ∀ j (hj : j < L.length), j < k → p L[j] = false) ∨ ∀ j (hj : j < L.length), p L[j] = false
  | [] => .inr fun j hj => by simp at hj
  | x :: L => by
    cases hp : p x
    · rcases firstK p L with ⟨k, hk, h1, h2⟩ | h
      · refine .inl ⟨k + 1, by simpa using hk, by simpa using h1, fun j hj hlt => ?_⟩
        cases j with
        | zero => exact hp
        | succ j => exact h2 j (by simpa using hj) (by omega)
      · refine .inr fun j hj => ?_
        cases j with
        | zero => exact hp
        | succ j => exact h j (by simpa using hj)
    · exact .inl ⟨0, by simp, hp, fun j hj h => by omega⟩

theorem alloc2b (w : World) (A B : Obj) {w1 : World} (hx : Ext ((w.alloc A).alloc B) w1) : w1.heap[w.heap.size]? = some A ∧ w1.heap[w.heap.size + 1]? = some B := ⟨hx.heap (heap_alloc2_old w A B), hx.heap (heap_alloc2_new w A B)⟩
section
variable (w : World) (base : Nat) (most : Int) (v : Value) (l : List (Int × FV)) (n : Int)
set_option maxRecDepth 100000 in
set_option maxHeartbeats 2000000 in
theorem find_some (h : PRow w base v l) (hl : l.length ≤ 100) (k : Nat) (hk : k < l.length) (hh : isN n l[k] = true) (hb : ∀ j (hj : j < l.length), j < k → isN n l[j] = false) :
    Calls Try.prog 27 #[.agg #[.int .i64 most, v], .int .i64 n] w fun r w' => r = .returned (.int .i64 k) ∧ Ext w w' := by
  have H := Lib.hid h
  have HH := Lib.hid hh
  have HB := Lib.hid hb
  obtain ⟨a, cap, rfl, -⟩ := h.form
  clear h hh hb
  go_enter Try.func27, Try.ntmps27
  go_wp2_with fail
  go_loop [5] (fun v5 => ∃ j : Nat, j ≤ k ∧ v5 = .int .i64 j) (fun v5 => k - (RowKit.intOf v5).toNat)
  case atStart => exact ⟨0, by omega, rfl⟩
  case round =>
    obtain ⟨j, hj, rfl⟩ := hrel
    have hjl : j < l.length := by omega
    obtain ⟨a', cap', hv', hcl, hcm, hcell⟩ := H.out.form
    injection hv' with e1 _ e2
    subst e1 e2
    unfold maxLen at hcm
    obtain ⟨g, rfl, -, hg, q0, -⟩ := hcell j hjl
    have hd : decide (j < l.length) = true := by simpa using hjl
    have hj0 : (0 : Int) ≤ (j : Int) := by omega
    have hj1 : (j : Int) < (l.length : Int) := by omega
    clear hcell
    by_cases hjk : j < k
    · have hp : (l[j].1 == n) = false := HB.out j hjl hjk
      generalize l[j].1 = ri at *
      go_wp2_with fail
      go_round
      case rel => exact ⟨j + 1, by omega, by go_num⟩
      case measure => simp [RowKit.intOf]; omega
    · obtain rfl : j = k := by omega
      have hh : l[j].1 = n := by simpa [isN] using HH.out
      rw [hh] at q0
      clear hh
      go_wp2_with fail
      go_ret
      exact ⟨rfl, (Ext.refl w).alloc _⟩
set_option maxRecDepth 100000 in
set_option maxHeartbeats 2000000 in
theorem find_none (h : PRow w base v l) (hl : l.length ≤ 100) (hb : ∀ j (hj : j < l.length), isN n l[j] = false) :
    Calls Try.prog 27 #[.agg #[.int .i64 most, v], .int .i64 n] w fun r w' => r = .returned (.int .i64 (-1)) ∧ Ext w w' := by
  have H := Lib.hid h
  have HB := Lib.hid hb
  obtain ⟨a, cap, rfl, -⟩ := h.form
  clear h hb
  go_enter Try.func27, Try.ntmps27
  go_wp2_with fail
  go_loop [5] (fun v5 => ∃ j : Nat, j ≤ l.length ∧ v5 = .int .i64 j) (fun v5 => l.length - (RowKit.intOf v5).toNat)
  case atStart => exact ⟨0, by omega, rfl⟩
  case round =>
    obtain ⟨j, hj, rfl⟩ := hrel
    by_cases hjl : j < l.length
    · obtain ⟨a', cap', hv', hcl, hcm, hcell⟩ := H.out.form
      injection hv' with e1 _ e2
      subst e1 e2
      unfold maxLen at hcm
      obtain ⟨g, rfl, -, hg, q0, -⟩ := hcell j hjl
      have hd : decide (j < l.length) = true := by simpa using hjl
      have hj0 : (0 : Int) ≤ (j : Int) := by omega
      have hj1 : (j : Int) < (l.length : Int) := by omega
      have hp : (l[j].1 == n) = false := HB.out j hjl
      clear hcell
      generalize l[j].1 = ri at *
      go_wp2_with fail
      go_round
      case rel => exact ⟨j + 1, by omega, by go_num⟩
      case measure => simp [RowKit.intOf]; omega
    · have hd : decide (j < l.length) = false := by simpa using hjl
      go_wp2_with fail
      go_ret
      exact ⟨rfl, (Ext.refl w).alloc _⟩

set_option maxHeartbeats 1000000 in
theorem refFree_busy (h : PRow w base v l) (hl : l.length ≤ 100) (k : Nat) (hk : k < l.length) (hh : isN n l[k] = true) (hb : ∀ j (hj : j < l.length), j < k → isN n l[j] = false) :
    Calls Try.prog 24 #[.agg #[.int .i64 most, v], .int .i64 n] w fun r w' => r = .returned (.int .i64 18) ∧ Ext w w' := by
  have HF := Lib.hid (fun W (hW : Ext w W) => find_some W base most v l n (h.ext hW) hl k hk hh hb)
  obtain ⟨a, cap, rfl, -⟩ := h.form
  clear h hb hh
  generalize l.length = m at *
  go_enter Try.func24, Try.ntmps24
  go_wp2_with fail
  refine (HF.out _ ((Ext.refl w).alloc _)).mono ?_
  rintro r w1 ⟨rfl, hx⟩
  go_wp2_with fail
  go_ret
  exact ⟨rfl, ((Ext.refl w).alloc _).trans hx⟩
set_option maxHeartbeats 1000000 in
theorem refFree_none (h : PRow w base v l) (hl : l.length ≤ 100) (hb : ∀ j (hj : j < l.length), isN n l[j] = false) (b : Bool) (hm : decide (most ≤ (l.length : Int)) = b) :
    Calls Try.prog 24 #[.agg #[.int .i64 most, v], .int .i64 n] w fun r w' => r = .returned (.int .i64 (if b then 5 else 0)) ∧ Ext w w' := by
  have HF := Lib.hid (fun W (hW : Ext w W) => find_none W base most v l n (h.ext hW) hl hb)
  obtain ⟨a, cap, rfl, -⟩ := h.form
  clear h hb
  generalize l.length = m at *
  go_enter Try.func24, Try.ntmps24
  go_wp2_with fail
  refine (HF.out _ ((Ext.refl w).alloc _)).mono ?_
  rintro r w1 ⟨rfl, hx⟩
  have hb0 := hx.heap (heap_alloc_new w (.cells #[.int .i64 most, .slice a m cap] 43))
  obtain ⟨s0, s1, -, -⟩ := blk2 hb0
  have hz := lt_of_heap hb0
  have HX := Lib.hid (((Ext.refl w).alloc (.cells #[.int .i64 most, .slice a m cap] 43)).trans hx)
  clear hb0 hx HF
  cases b
  all_goals
    go_wp2_with fail
    go_ret
    exact ⟨rfl, HX.out⟩

set_option maxRecDepth 100000 in
set_option maxHeartbeats 2000000 in
theorem refGet_none (h : PRow w base v l) (hl : l.length ≤ 100) (hb : ∀ j (hj : j < l.length), isN n l[j] = false) :
    Calls Try.prog 20 #[.agg #[.int .i64 most, v], .int .i64 n] w fun r w' => r = .returned (.tuple #[FV.zero.val, .int .i64 17]) ∧ Ext w w' := by
  have HF := Lib.hid (fun W (hW : Ext w W) => find_none W base most v l n (h.ext hW) hl hb)
  obtain ⟨a, cap, rfl, -⟩ := h.form
  clear h hb
  generalize l.length = m at *
  go_enter Try.func20, Try.ntmps20
  go_wp2_with fail
  refine (HF.out _ (((Ext.refl w).alloc _).alloc _)).mono ?_
  rintro r w1 ⟨rfl, hx⟩
  have hb1 := hx.heap (heap_alloc2_new w (.cells #[.int .i64 most, .slice a m cap] 43) (.cells FV.zero.cells 39))
  obtain ⟨w2, r1, r2, r3⟩ := put10 FV.zero hb1
  have HX := Lib.hid (show Ext w w2 from r3.ext ((((Ext.refl w).alloc _).alloc _).trans hx) (by simp))
  obtain ⟨q0, q1, q2, q3, q4, q5, q6, q7, q8, q9⟩ := blk10 r2
  have hz := lt_of_heap r2
  have R1 := Lib.hid (show (Instr.storeAt 39 (.pointer (some ⟨w.heap.size + 1, 0, none⟩)) (.agg #[.int .i64 0, .int .i64 0, .int .i64 0, .int .i64 0, .string ⟨#[]⟩, .bool false, .bool false, .int .i64 0, .int .i64 0, .int .i64 0])).run Try.prog w1 = .ok () w2 from r1)
  clear hb1 hx HF r1 r2 r3
  dsimp only [FV.zero] at q0 q1 q2 q3 q4 q5 q6 q7 q8 q9
  go_wp2_with (refine wpList_store_run rfl 39 (.tmp 4) (.tmp 12) rfl _ _ rfl rfl R1.out ?_)
  exact bodyPost_ret (v := .tuple #[.agg #[.int .i64 0, .int .i64 0, .int .i64 0, .int .i64 0, .string ⟨#[]⟩, .bool false, .bool false, .int .i64 0, .int .i64 0, .int .i64 0], .int .i64 17]) (by simp [results, Try.results20, go_sem, *]) rfl ⟨rfl, HX.out⟩
set_option maxRecDepth 100000 in
set_option maxHeartbeats 2000000 in
theorem refGet_some (h : PRow w base v l) (hl : l.length ≤ 100) (k : Nat) (hk : k < l.length) (hh : isN n l[k] = true) (hb : ∀ j (hj : j < l.length), j < k → isN n l[j] = false) (x : FV) (hxx : l[k].2 = x) :
    Calls Try.prog 20 #[.agg #[.int .i64 most, v], .int .i64 n] w fun r w' => r = .returned (.tuple #[x.val, .int .i64 0]) ∧ Ext w w' := by
  have HF := Lib.hid (fun W (hW : Ext w W) => find_some W base most v l n (h.ext hW) hl k hk hh hb)
  have H := Lib.hid h
  obtain ⟨a, cap, rfl, -⟩ := h.form
  have HXX := Lib.hid hxx
  clear h hb hh hxx
  obtain ⟨m, hm⟩ : ∃ m, m = l.length := ⟨_, rfl⟩
  rw [← hm] at HF H hl ⊢
  have HM := Lib.hid hm
  clear hm
  go_enter Try.func20, Try.ntmps20
  go_wp2_with fail
  refine (HF.out _ (((Ext.refl w).alloc _).alloc _)).mono ?_
  rintro r w1 ⟨rfl, hx⟩
  obtain ⟨hb0, hb1⟩ := alloc2b w _ _ hx
  obtain ⟨w2, r1, r2, r3⟩ := put10 (u := FV.zero) x hb1
  have HX := Lib.hid (show Ext w w2 from r3.ext ((((Ext.refl w).alloc _).alloc _).trans hx) (by simp))
  obtain ⟨a', cap', hv', hcl, hcm, hcell⟩ := (H.out.ext ((((Ext.refl w).alloc _).alloc _).trans hx)).form
  injection hv' with e1 e3 e2
  subst e1 e2
  clear e3
  obtain ⟨g, rfl, -, hg, -, p0, p1, p2, p3, p4, p5, p6, p7, p8, p9⟩ := hcell k hk
  rw [HXX.out] at p0 p1 p2 p3 p4 p5 p6 p7 p8 p9
  unfold maxLen at hcm
  have hk0 : (0 : Int) ≤ (k : Int) := by omega
  have hk1 : (k : Int) < (m : Int) := by rw [HM.out]; omega
  rw [← HM.out] at hcl
  obtain ⟨s0, s1, -, -⟩ := blk2 hb0
  have hz1 := lt_of_heap hb1
  obtain ⟨q0, q1, q2, q3, q4, q5, q6, q7, q8, q9⟩ := blk10 r2
  have hz := lt_of_heap r2
  have R1 := Lib.hid r1
  clear hb0 hb1 hx HF H r1 r2 r3 hcell
  unfold FV.val at R1
  go_wp2_with (refine wpList_store_run rfl 39 (.tmp 4) (.tmp 18) rfl _ _ rfl rfl R1.out ?_)
  exact bodyPost_ret (v := .tuple #[x.val, .int .i64 0]) (by simp [results, Try.results20, go_sem, FV.val, *]) rfl ⟨rfl, HX.out⟩
end
end Go.Proofs.Ytekdoannpkifaaa
