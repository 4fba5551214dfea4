/- Rows of records of the call's own, and the walks of the document's table. -/
import Derived.Test.YtmdacpkkglhefaaInoP
import Derived.Test.YtmdacpkkglhefaaIno5
import Derived.Test.YtmdacpkkglhefaaSrow
import Derived.RegionTactic
namespace Go.Proofs.Ytmdacpkkglhefaa
open Go.ChangeShapes Go.WideShapes Go.ChangeAt Go.RowKit

namespace inoI
/-- The slice value v, of the call's own, holds the records L. -/
def RecRow (w : World) (base : Nat) (v : Value) (L : List Rec) : Prop := w.ownsRow base 56 4 v L.length (recCells L)
theorem RecRow.nil (w : World) (base : Nat) : RecRow w base (.slice none 0 0) [] := World.ownsRow_nil _ _ _ _
theorem RecRow.ext {w w' : World} {base : Nat} {v : Value} {L : List Rec} (h : RecRow w base v L) (hx : Ext w w') : RecRow w' base v L := ownsRow_ext h hx
theorem RecRow.form {w : World} {base : Nat} {v : Value} {L : List Rec} (h : RecRow w base v L) : ∃ a cap, v = .slice a L.length cap ∧ L.length ≤ cap ∧ cap ≤ maxLen ∧
    ∀ i (hi : i < L.length), ∃ g, a = some ⟨g, 0, none⟩ ∧ g < w.heap.size ∧ w.cell? ⟨g, i * 4, none⟩ = some (.int .i64 L[i].ino) ∧ w.cell? ⟨g, i * 4 + 1, none⟩ = some (.int .i64 L[i].gen) ∧ w.cell? ⟨g, i * 4 + 2, none⟩ = some (.int .i64 L[i].n) ∧ w.cell? ⟨g, i * 4 + 3, none⟩ = some (.bool L[i].is) := by
  rcases h.2 with ⟨rfl, h0⟩ | ⟨g, cap, cur, hv, hb, hg, hn, hm, hs, ht⟩
  · exact ⟨none, 0, by rw [h0], by omega, by unfold maxLen; omega, fun i hi => by omega⟩
  · refine ⟨_, cap, hv, hn, hm, fun i hi => ⟨g, rfl, lt_of_heap hg, ?_⟩⟩
    have key : ∀ j, j < L.length * 4 → w.cell? ⟨g, j, none⟩ = (recCells L)[j]? := fun j hj => by
      rw [cell_of hg j, ← ht, List.getElem?_take, if_pos hj]; simp
    obtain ⟨q0, q1, q2, q3⟩ := recCells_at L i hi
    exact ⟨(key _ (by omega)).trans q0, (key _ (by omega)).trans q1, (key _ (by omega)).trans q2, (key _ (by omega)).trans q3⟩
theorem hit_parts {ino gen : Int} {r : Rec} (h : hit ino gen r = false) : r.is = false ∨ (r.is = true ∧ (r.ino == ino) = false) ∨ (r.is = true ∧ (r.ino == ino) = true ∧ (r.gen == gen) = false) := by
  unfold hit at h
  cases h1 : r.is
  · exact .inl rfl
  · rw [h1] at h
    cases h2 : (r.ino == ino)
    · exact .inr (.inl ⟨rfl, rfl⟩)
    · rw [h2] at h
      exact .inr (.inr ⟨rfl, rfl, by simpa using h⟩)

set_option maxRecDepth 100000 in
set_option maxHeartbeats 2000000 in
theorem refFind_some (w : World) (base : Nat) (most : Int) (v : Value) (L : List Rec) (h : RecRow w base v L) (hl : L.length ≤ 100) (ino gen : Int) (k : Nat) (hk : k < L.length) (hh : hit ino gen L[k] = true) (hb : ∀ j (hj : j < L.length), j < k → hit ino gen L[j] = false) :
    Calls Try.prog 18 #[.agg #[.int .i64 most, v], .agg #[.int .i64 ino, .int .i64 gen]] w fun r w' => r = .returned (.int .i64 k) ∧ Ext w w' := by
  have H := Lib.hid h
  have HH := Lib.hid hh
  have HB := Lib.hid hb
  obtain ⟨a, cap, rfl, _, _, _⟩ := h.form
  clear h hh hb
  go_enter Try.func18, Try.ntmps18
  go_wp2_with fail
  go_loopw [5] (fun v5 wr => ∃ j : Nat, j ≤ k ∧ v5 = .int .i64 j ∧ Ext ((w.alloc (.cells #[.int .i64 most, .slice a L.length cap] 51)).alloc (.cells #[.int .i64 ino, .int .i64 gen] 29)) wr) (fun v5 _ => k - (intOf v5).toNat)
  case atStart => exact ⟨0, by omega, rfl, Ext.refl _⟩
  case round =>
    obtain ⟨j, hj, rfl, hx⟩ := hrel
    have hb0 := hx.heap (heap_alloc2_old w _ _)
    have hb1 := hx.heap (heap_alloc2_new w _ _)
    obtain ⟨s0, s1, _, _⟩ := blk2 hb0
    obtain ⟨t0, t1, _, _⟩ := blk2 hb1
    have hz1 := lt_of_heap hb1
    have hX : Ext w wr := (((Ext.refl w).alloc _).alloc _).trans hx
    have HX := Lib.hid hX
    have HXX := Lib.hid hx
    have hjl : j < L.length := by omega
    obtain ⟨a', cap', hv', hcl, hcm, hcell⟩ := (H.out.ext hX).form
    injection hv' with e1 _ e2
    subst e1 e2
    obtain ⟨g, rfl, hg, q0, q1, q2, q3⟩ := hcell j hjl
    have hd : decide ((j : Int) < (L.length : Int)) = true := by simp; omega
    have hj0 : (0 : Int) ≤ (j : Int) := by omega
    have hj1 : (j : Int) < (L.length : Int) := by omega
    unfold maxLen at hcm
    clear hx hX hb0 hb1 hcell
    by_cases hjk : j < k
    · have hp := hit_parts (HB.out j hjl hjk)
      generalize L[j].ino = ri at *
      generalize L[j].gen = rg at *
      generalize L[j].n = rn at *
      generalize L[j].is = rb at *
      rcases hp with rfl | ⟨rfl, e1⟩ | ⟨rfl, e1, e2⟩
      all_goals
        go_wp2_with fail
        go_quiet (fail)
        go_wp2_with fail
        go_roundw
        case rel => exact ⟨j + 1, by omega, by go_num, HXX.out.drewN _⟩
        case measure => simp [intOf]; omega
    · obtain rfl : j = k := by omega
      have hh := HH.out
      simp only [hit, Bool.and_eq_true, beq_iff_eq] at hh
      obtain ⟨e0, e1, e2⟩ := hh
      rw [e0] at q3
      rw [e1] at q0
      rw [e2] at q1
      clear e0 e1 e2
      go_wp2_with fail
      go_quiet (fail)
      go_wp2_with fail
      go_ret
      exact ⟨rfl, HX.out.drewN _⟩
set_option maxRecDepth 100000 in
set_option maxHeartbeats 2000000 in
theorem refFind_none (w : World) (base : Nat) (most : Int) (v : Value) (L : List Rec) (h : RecRow w base v L) (hl : L.length ≤ 100) (ino gen : Int) (hb : ∀ j (hj : j < L.length), hit ino gen L[j] = false) :
    Calls Try.prog 18 #[.agg #[.int .i64 most, v], .agg #[.int .i64 ino, .int .i64 gen]] w fun r w' => r = .returned (.int .i64 (-1)) ∧ Ext w w' := by
  have H := Lib.hid h
  have HB := Lib.hid hb
  obtain ⟨a, cap, rfl, _, _, _⟩ := h.form
  clear h hb
  go_enter Try.func18, Try.ntmps18
  go_wp2_with fail
  go_loopw [5] (fun v5 wr => ∃ j : Nat, j ≤ L.length ∧ v5 = .int .i64 j ∧ Ext ((w.alloc (.cells #[.int .i64 most, .slice a L.length cap] 51)).alloc (.cells #[.int .i64 ino, .int .i64 gen] 29)) wr) (fun v5 _ => L.length - (intOf v5).toNat)
  case atStart => exact ⟨0, by omega, rfl, Ext.refl _⟩
  case round =>
    obtain ⟨j, hj, rfl, hx⟩ := hrel
    have hb0 := hx.heap (heap_alloc2_old w _ _)
    have hb1 := hx.heap (heap_alloc2_new w _ _)
    obtain ⟨s0, s1, _, _⟩ := blk2 hb0
    obtain ⟨t0, t1, _, _⟩ := blk2 hb1
    have hz1 := lt_of_heap hb1
    have hX : Ext w wr := (((Ext.refl w).alloc _).alloc _).trans hx
    have HX := Lib.hid hX
    have HXX := Lib.hid hx
    obtain ⟨a', cap', hv', hcl, hcm, hcell⟩ := (H.out.ext hX).form
    injection hv' with e1 _ e2
    subst e1 e2
    unfold maxLen at hcm
    by_cases hjl : j < L.length
    · obtain ⟨g, rfl, hg, q0, q1, q2, q3⟩ := hcell j hjl
      have hd : decide ((j : Int) < (L.length : Int)) = true := by simp; omega
      have hj0 : (0 : Int) ≤ (j : Int) := by omega
      have hj1 : (j : Int) < (L.length : Int) := by omega
      clear hx hX hb0 hb1 hcell
      have hp := hit_parts (HB.out j hjl)
      generalize L[j].ino = ri at *
      generalize L[j].gen = rg at *
      generalize L[j].n = rn at *
      generalize L[j].is = rb at *
      rcases hp with rfl | ⟨rfl, e1⟩ | ⟨rfl, e1, e2⟩
      all_goals
        go_wp2_with fail
        go_quiet (fail)
        go_wp2_with fail
        go_roundw
        case rel => exact ⟨j + 1, by omega, by go_num, HXX.out.drewN _⟩
        case measure => simp [intOf]; omega
    · have hd : decide ((j : Int) < (L.length : Int)) = false := by simp; omega
      clear hx hX hb0 hb1 hcell
      go_wp2_with fail
      go_ret
      exact ⟨rfl, HX.out⟩
theorem inn_parts {ino : Int} {r : Rec} (h : inn ino r = false) : r.is = false ∨ (r.is = true ∧ (r.ino == ino) = false) := by
  unfold inn at h
  cases h1 : r.is
  · exact .inl rfl
  · rw [h1] at h
    exact .inr ⟨rfl, by simpa using h⟩
set_option maxRecDepth 100000 in
set_option maxHeartbeats 2000000 in
theorem taken_yes (w : World) (base : Nat) (most : Int) (v : Value) (L : List Rec) (h : RecRow w base v L) (hl : L.length ≤ 100) (ino : Int) (k : Nat) (hk : k < L.length) (hh : inn ino L[k] = true) (hb : ∀ j (hj : j < L.length), j < k → inn ino L[j] = false) :
    Calls Try.prog 29 #[.agg #[.int .i64 most, v], .int .i64 ino] w fun r w' => r = .returned (.bool true) ∧ Ext w w' := by
  have H := Lib.hid h
  have HH := Lib.hid hh
  have HB := Lib.hid hb
  obtain ⟨a, cap, rfl, _, _, _⟩ := h.form
  clear h hh hb
  go_enter Try.func29, Try.ntmps29
  go_wp2_with fail
  go_loopw [5] (fun v5 wr => ∃ j : Nat, j ≤ k ∧ v5 = .int .i64 j ∧ Ext (w.alloc (.cells #[.int .i64 most, .slice a L.length cap] 51)) wr) (fun v5 _ => k - (intOf v5).toNat)
  case atStart => exact ⟨0, by omega, rfl, Ext.refl _⟩
  case round =>
    obtain ⟨j, hj, rfl, hx⟩ := hrel
    have hb0 := hx.heap (heap_alloc_new w _)
    obtain ⟨s0, s1, _, _⟩ := blk2 hb0
    have hz1 := lt_of_heap hb0
    have hX : Ext w wr := ((Ext.refl w).alloc _).trans hx
    have HX := Lib.hid hX
    have HXX := Lib.hid hx
    obtain ⟨a', cap', hv', hcl, hcm, hcell⟩ := (H.out.ext hX).form
    injection hv' with e1 _ e2
    subst e1 e2
    unfold maxLen at hcm
    have hjl : j < L.length := by omega
    obtain ⟨g, rfl, hg, q0, q1, q2, q3⟩ := hcell j hjl
    have hd : decide ((j : Int) < (L.length : Int)) = true := by simp; omega
    have hj0 : (0 : Int) ≤ (j : Int) := by omega
    have hj1 : (j : Int) < (L.length : Int) := by omega
    clear hx hX hb0 hcell
    by_cases hjk : j < k
    · have hp := inn_parts (HB.out j hjl hjk)
      generalize L[j].ino = ri at *
      generalize L[j].gen = rg at *
      generalize L[j].n = rn at *
      generalize L[j].is = rb at *
      rcases hp with rfl | ⟨rfl, e1⟩
      all_goals
        go_wp2_with fail
        go_roundw
        case rel => exact ⟨j + 1, by omega, by go_num, HXX.out⟩
        case measure => simp [intOf]; omega
    · obtain rfl : j = k := by omega
      have hh := HH.out
      simp only [inn, Bool.and_eq_true, beq_iff_eq] at hh
      obtain ⟨e0, e1⟩ := hh
      rw [e0] at q3
      rw [e1] at q0
      clear e0 e1
      go_wp2_with fail
      go_ret
      exact ⟨rfl, HX.out⟩
set_option maxRecDepth 100000 in
set_option maxHeartbeats 2000000 in
theorem taken_no (w : World) (base : Nat) (most : Int) (v : Value) (L : List Rec) (h : RecRow w base v L) (hl : L.length ≤ 100) (ino : Int) (hb : ∀ j (hj : j < L.length), inn ino L[j] = false) :
    Calls Try.prog 29 #[.agg #[.int .i64 most, v], .int .i64 ino] w fun r w' => r = .returned (.bool false) ∧ Ext w w' := by
  have H := Lib.hid h
  have HB := Lib.hid hb
  obtain ⟨a, cap, rfl, _, _, _⟩ := h.form
  clear h hb
  go_enter Try.func29, Try.ntmps29
  go_wp2_with fail
  go_loopw [5] (fun v5 wr => ∃ j : Nat, j ≤ L.length ∧ v5 = .int .i64 j ∧ Ext (w.alloc (.cells #[.int .i64 most, .slice a L.length cap] 51)) wr) (fun v5 _ => L.length - (intOf v5).toNat)
  case atStart => exact ⟨0, by omega, rfl, Ext.refl _⟩
  case round =>
    obtain ⟨j, hj, rfl, hx⟩ := hrel
    have hb0 := hx.heap (heap_alloc_new w _)
    obtain ⟨s0, s1, _, _⟩ := blk2 hb0
    have hz1 := lt_of_heap hb0
    have hX : Ext w wr := ((Ext.refl w).alloc _).trans hx
    have HX := Lib.hid hX
    have HXX := Lib.hid hx
    obtain ⟨a', cap', hv', hcl, hcm, hcell⟩ := (H.out.ext hX).form
    injection hv' with e1 _ e2
    subst e1 e2
    unfold maxLen at hcm
    by_cases hjl : j < L.length
    · obtain ⟨g, rfl, hg, q0, q1, q2, q3⟩ := hcell j hjl
      have hd : decide ((j : Int) < (L.length : Int)) = true := by simp; omega
      have hj0 : (0 : Int) ≤ (j : Int) := by omega
      have hj1 : (j : Int) < (L.length : Int) := by omega
      clear hx hX hb0 hcell
      have hp := inn_parts (HB.out j hjl)
      generalize L[j].ino = ri at *
      generalize L[j].gen = rg at *
      generalize L[j].n = rn at *
      generalize L[j].is = rb at *
      rcases hp with rfl | ⟨rfl, e1⟩
      all_goals
        go_wp2_with fail
        go_roundw
        case rel => exact ⟨j + 1, by omega, by go_num, HXX.out⟩
        case measure => simp [intOf]; omega
    · have hd : decide ((j : Int) < (L.length : Int)) = false := by simp; omega
      clear hx hX hb0 hcell
      go_wp2_with fail
      go_ret
      exact ⟨rfl, HX.out⟩
end inoI
end Go.Proofs.Ytmdacpkkglhefaa
