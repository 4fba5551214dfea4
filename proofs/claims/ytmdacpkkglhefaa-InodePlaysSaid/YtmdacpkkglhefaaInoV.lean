/- The walks of the closure of 'like', of the table's Each and of 'like'. -/
import Derived.Test.YtmdacpkkglhefaaInoU
import Derived.BigRegion
import Derived.StillTailTactics
namespace Go.Proofs.Ytmdacpkkglhefaa.inoI
open Go.ChangeShapes Go.WideShapes Go.ChangeAt Go.RowKit
open Go.Proofs.Ytmdacpkkglhefaa

/-- What the closure of 'like' holds: 'same' (block bs), 'at' (block ba), the list (block bl). -/
structure CapW (w : World) (bs ba bl base : Nat) (c : Nat) (vE : Value) (E : List Rec) : Prop where
  same : w.heap[bs]? = some (.cells #[.bool true] 4 (0, 0))
  at_ : w.heap[ba]? = some (.cells #[.int .i64 c] 3 (0, 0))
  lst : w.heap[bl]? = some (.cells #[vE] 49 (0, 0))
  row : RecRow w base vE E
theorem CapW.ne {w : World} {bs ba bl base c : Nat} {vE : Value} {E : List Rec} (h : CapW w bs ba bl base c vE E) : bs ≠ ba ∧ bs ≠ bl ∧ ba ≠ bl := by
  refine ⟨?_, ?_, ?_⟩
  · rintro rfl; have := h.same.symm.trans h.at_; simp at this
  · rintro rfl; have := h.same.symm.trans h.lst; simp at this
  · rintro rfl; have := h.at_.symm.trans h.lst; simp at this
theorem CapW.ext {w w' : World} {bs ba bl base c : Nat} {vE : Value} {E : List Rec} (h : CapW w bs ba bl base c vE E) (hx : Ext w w') : CapW w' bs ba bl base c vE E := ⟨hx.heap h.same, hx.heap h.at_, hx.heap h.lst, h.row.ext hx⟩
theorem one_of {w : World} {g : Nat} {v : Value} {t : TypeId} (h : w.heap[g]? = some (.cells #[v] t (0, 0))) : w.cell? ⟨g, 0, none⟩ = some v ∧ w.frozen? ⟨g, 0, none⟩ = false := ⟨cell_of h 0, free_of h 0⟩
theorem CapW.step {w : World} {bs ba bl base c : Nat} {vE : Value} {E : List Rec} (h : CapW w bs ba bl base c vE E) : CapW ((w.setCell ⟨bs, 0, none⟩ (.bool true)).setCell ⟨ba, 0, none⟩ (.int .i64 (c + 1))) bs ba bl base (c + 1) vE E ∧ Upd [bs, ba] w ((w.setCell ⟨bs, 0, none⟩ (.bool true)).setCell ⟨ba, 0, none⟩ (.int .i64 (c + 1))) := by
  obtain ⟨n1, n2, n3⟩ := h.ne
  have u1 : Upd [bs] w (w.setCell ⟨bs, 0, none⟩ (.bool true)) := (Upd.refl _ w).setCell _ _ (by simp)
  have u2 : Upd [ba] (w.setCell ⟨bs, 0, none⟩ (.bool true)) ((w.setCell ⟨bs, 0, none⟩ (.bool true)).setCell ⟨ba, 0, none⟩ (.int .i64 (c + 1))) := (Upd.refl _ _).setCell _ _ (by simp)
  have u : Upd [bs, ba] w ((w.setCell ⟨bs, 0, none⟩ (.bool true)).setCell ⟨ba, 0, none⟩ (.int .i64 (c + 1))) := (u1.mono (by simp)).trans (u2.mono (by simp))
  refine ⟨⟨?_, ?_, u.heap h.lst (by simp; exact ⟨n2.symm, n3.symm⟩), ownsRow_upd h.row u (fun g hg hm => ?_)⟩, u⟩
  · refine u2.heap ?_ (by simpa using n1)
    rw [heap_setCell_same _ _ _ _ _ _ h.same]; rfl
  · rw [heap_setCell_same _ _ _ _ _ _ (u1.heap h.at_ (by simpa using n1.symm))]; rfl
  · simp at hm
    rcases hm with rfl | rfl
    · exact ownsRow_ne h.row h.same (by decide) hg
    · exact ownsRow_ne h.row h.at_ (by decide) hg
theorem run_eqX (a b c : Int) (W : World) : (binOp .eql 56 (.agg #[.int .i64 a, .int .i64 b, .int .i64 c, .bool true]) (.agg #[.int .i64 a, .int .i64 b, .int .i64 c, .bool true])).run Try.prog W = .ok (.bool true) W := by
  go_simp

set_option maxRecDepth 100000 in
set_option maxHeartbeats 2000000 in
theorem like1_any (w : World) (bs ba bl base c : Nat) (vE : Value) (E : List Rec) (h : CapW w bs ba bl base c vE E) (he : E.length ≤ 20000) (hc : c < E.length) (ino gen x : Int) (hr : E[c] = ⟨ino, gen, x, true⟩) :
    Calls Try.prog 32 #[.agg #[.int .i64 ino, .int .i64 gen], .int .i64 x, .pointer (some ⟨bs, 0, none⟩), .pointer (some ⟨ba, 0, none⟩), .pointer (some ⟨bl, 0, none⟩)] w fun r w' => r = .returned (.tuple #[]) ∧ CapW w' bs ba bl base (c + 1) vE E ∧ Upd [bs, ba] w w' := by
  have H := Lib.hid h
  obtain ⟨x0, x1⟩ := one_of h.same
  obtain ⟨y0, y1⟩ := one_of h.at_
  obtain ⟨z0, -⟩ := one_of h.lst
  obtain ⟨n1, n2, n3⟩ := h.ne
  have n1' := n1.symm
  have n2' := n2.symm
  have n3' := n3.symm
  have l1 := lt_of_heap h.same
  have l2 := lt_of_heap h.at_
  have l3 := lt_of_heap h.lst
  obtain ⟨a, cap, rfl, hcl, hcm, hcell⟩ := h.row.form
  obtain ⟨g, rfl, hg, q0, q1, q2, q3⟩ := hcell c hc
  rw [hr] at q0 q1 q2 q3
  simp only at q0 q1 q2 q3
  have heq := run_eqX ino gen x
  unfold maxLen at hcm
  obtain ⟨e, he'⟩ : ∃ e, e = E.length := ⟨_, rfl⟩
  rw [← he'] at H hc he hcl z0
  have hd : decide ((c : Int) < (e : Int)) = true := by simp; omega
  have hc0 : (0 : Int) ≤ (c : Int) := by omega
  have hc1 : (c : Int) < (e : Int) := by omega
  have HE := Lib.hid he'
  clear h hcell hr he'
  go_enter Try.func32, Try.ntmps32
  go_wp2_with fail
  go_region
  go_wp2_with fail
  go_end0
  have hN := CapW.step H.out
  rw [← HE.out]
  exact ⟨rfl, hN.1.ext (((Ext.refl _).alloc _).drew), (hN.2.alloc _).drew⟩
end Go.Proofs.Ytmdacpkkglhefaa.inoI
