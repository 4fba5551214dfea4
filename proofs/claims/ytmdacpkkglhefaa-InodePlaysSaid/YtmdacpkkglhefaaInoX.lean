/- Rows of handles; things done that came in; the walk of the law InodePlays. -/
import Derived.Test.YtmdacpkkglhefaaInoW
import Derived.Deep.Slices
namespace Go.Proofs.Ytmdacpkkglhefaa
open Go.ChangeShapes Go.WideShapes Go.ChangeAt Go.RowKit

/-- Handles, two cells each. -/
def hsCells (hs : List (Int × Int)) : List Value := hs.flatMap fun p => [.int .i64 p.1, .int .i64 p.2]
theorem hsCells_len : ∀ hs : List (Int × Int), (hsCells hs).length = 2 * hs.length
  | [] => rfl
  | p :: hs => by
    have := hsCells_len hs
    show ([Value.int .i64 p.1, .int .i64 p.2] ++ hsCells hs).length = _
    rw [List.length_append, this]
    simp
    omega
theorem hsCells_at : ∀ (hs : List (Int × Int)) (i : Nat) (h : i < hs.length), (hsCells hs)[i * 2]? = some (.int .i64 hs[i].1) ∧ (hsCells hs)[i * 2 + 1]? = some (.int .i64 hs[i].2)
  | [], i, h => by simp at h
  | p :: hs, 0, h => by simp [hsCells]
  | p :: hs, i + 1, h => by
    have ih := hsCells_at hs i (by simpa using h)
    simp only [hsCells, List.flatMap_cons, List.cons_append, List.nil_append, List.getElem_cons_succ] at *
    rw [show (i + 1) * 2 = i * 2 + 2 by omega]
    simpa using ih
def HRow (w : World) (base : Nat) (v : Value) (hs : List (Int × Int)) : Prop := w.ownsRow base 29 2 v hs.length (hsCells hs)
theorem HRow.form {w : World} {base : Nat} {v : Value} {hs : List (Int × Int)} (h : HRow w base v hs) : ∃ a cap, v = .slice a hs.length cap ∧ hs.length ≤ cap ∧ cap ≤ maxLen ∧
    ∀ i (hi : i < hs.length), ∃ g, a = some ⟨g, 0, none⟩ ∧ g < w.heap.size ∧ w.cell? ⟨g, i * 2, none⟩ = some (.int .i64 hs[i].1) ∧ w.cell? ⟨g, i * 2 + 1, none⟩ = some (.int .i64 hs[i].2) := by
  rcases h.2 with ⟨rfl, h0⟩ | ⟨g, cap, cur, hv, hb, hg, hn, hm, hs', ht⟩
  · exact ⟨none, 0, by rw [h0], by omega, by unfold maxLen; omega, fun i hi => by omega⟩
  · refine ⟨_, cap, hv, hn, hm, fun i hi => ⟨g, rfl, lt_of_heap hg, ?_⟩⟩
    have key : ∀ j, j < hs.length * 2 → w.cell? ⟨g, j, none⟩ = (hsCells hs)[j]? := fun j hj => by
      rw [cell_of hg j, ← ht, List.getElem?_take, if_pos hj]; simp
    obtain ⟨q0, q1⟩ := hsCells_at hs i hi
    exact ⟨(key _ (by omega)).trans q0, (key _ (by omega)).trans q1⟩
theorem HRow.push {w : World} {base : Nat} {v : Value} {hs : List (Int × Int)} (h : HRow w base v hs) (hl : hs.length ≤ 100000) (hb : base ≤ w.heap.size) (p q : Int) (ty : TypeId) :
    ∃ v' w', (Builtin.append_ #[38, 38] ty #[v, .slice (some ⟨w.heap.size, 0, none⟩) 1 1]).run Try.prog (w.alloc (.cells #[.int .i64 p, .int .i64 q] 29)) = .ok v' w' ∧ HRow w' base v' (hs ++ [(p, q)]) ∧ Upd v.ownBlock.toList w w' := by
  have hx := (Ext.refl w).alloc (.cells #[.int .i64 p, .int .i64 q] 29)
  obtain ⟨v', w', h1, h2, h3, _⟩ := own_append (P := Try.prog) (t := 38) (ty := ty) Try.underlying38 infoH rfl (by decide) (ownsRow_ext h hx) (src_new w 2 #[.int .i64 p, .int .i64 q] 29 rfl (by simp [Value.oneCell'])) (by unfold maxLen; omega) (by omega) (by simp; omega)
  refine ⟨v', w', h1, ?_, (hx.upd _).trans h3⟩
  unfold HRow
  rw [List.length_append, show hsCells (hs ++ [(p, q)]) = hsCells hs ++ [.int .i64 p, .int .i64 q] by simp [hsCells]]
  exact h2

/-- What is done: which, of which handle told, or of which raw handle. -/
structure OV where
  d : Int
  n : Int
  ino : Int
  gen : Int
def OV.ok (o : OV) : Prop := (Lit.int .i64 o.d).wf = true ∧ (Lit.int .i64 o.n).wf = true
/-- The slice value (a, len, cap) holds things done. -/
def IsOs (w : World) (a : Option Addr) (len cap : Nat) (B : Nat → OV) : Prop :=
  len ≤ cap ∧ cap ≤ maxLen ∧ ∀ i, i < len → (B i).ok ∧ ∃ g o, a = some ⟨g, o, none⟩ ∧ w.cell? ⟨g, o + i * 4, none⟩ = some (.int .i64 (B i).d) ∧ w.cell? ⟨g, o + i * 4 + 1, none⟩ = some (.int .i64 (B i).n) ∧ w.cell? ⟨g, o + i * 4 + 2, none⟩ = some (.int .i64 (B i).ino) ∧ w.cell? ⟨g, o + i * 4 + 3, none⟩ = some (.int .i64 (B i).gen)
theorem IsOs.ext {w w' : World} {a : Option Addr} {len cap : Nat} {B : Nat → OV} (h : IsOs w a len cap B) (hx : Ext w w') : IsOs w' a len cap B := by
  refine ⟨h.1, h.2.1, fun i hi => ?_⟩
  obtain ⟨h1, g, o, h2, q0, q1, q2, q3⟩ := h.2.2 i hi
  exact ⟨h1, g, o, h2, hx.cell q0, hx.cell q1, hx.cell q2, hx.cell q3⟩

/-- The play in memory: the table, all that came, the handles told. -/
structure PlayR (w : World) (n b8 : Nat) (v9 : Value) (W : World) (ps : List inoI.Pl) (L : List inoI.Rec) (hs : List (Int × Int)) (v8 : Value) : Prop where
  tab : inoI.TabW W (w.heap.size + 1) (w.heap.size + 2) w.heap.size ps
  box : W.heap[b8]? = some (.cells #[.int .i64 n, v8] 51 (0, 0))
  row : inoI.RecRow W (w.heap.size + 3) v8 L
  all : HRow W (w.heap.size + 3) v9 hs
  ext : Ext w W
  far : w.heap.size + 2 < b8
/-- .. behind i things done. -/
def PlayW (w : World) (n b8 i : Nat) (v9 : Value) (W : World) : Prop := ∃ ps L hs v8, PlayR w n b8 v9 W ps L hs v8 ∧ inoI.Inv n L ps ∧ L.length ≤ i ∧ hs.length ≤ i
section
variable {w W W' : World} {n b8 : Nat} {v9 v8 v8' v9' : Value} {ps ps' : List inoI.Pl} {L L' : List inoI.Rec} {hs hs' : List (Int × Int)}
theorem PlayR.grow (h : PlayR w n b8 v9 W ps L hs v8) (hx : Ext W W') : PlayR w n b8 v9 W' ps L hs v8 :=
  ⟨h.tab.ext hx, hx.heap h.box, h.row.ext hx, ownsRow_ext h.all hx, h.ext.trans hx, h.far⟩
theorem PlayR.rebox (h : PlayR w n b8 v9 W ps L hs v8) (hr : inoI.RecRow W (w.heap.size + 3) v8' L') (hu : Upd [b8] W W') (hb : W'.heap[b8]? = some (.cells #[.int .i64 n, v8'] 51 (0, 0))) : PlayR w n b8 v9 W' ps L' hs v8' := by
  have hf := h.far
  refine ⟨h.tab.upd hu (by simp; omega) (by simp; omega) (by simp; omega), hb, ownsRow_upd hr hu (fun g hg hm => ?_), ownsRow_upd h.all hu (fun g hg hm => ?_), hu.ext h.ext (by simp; omega), hf⟩
  · simp at hm; subst hm; exact ownsRow_ne hr h.box (by decide) hg
  · simp at hm; subst hm; exact ownsRow_ne h.all h.box (by decide) hg
theorem PlayR.put (h : PlayR w n b8 v9 W ps L hs v8) (hr : inoI.RecRow W (w.heap.size + 3) v8' L') : PlayR w n b8 v9 ((W.setCell ⟨b8, 0, none⟩ (.int .i64 n)).setCell ⟨b8, 1, none⟩ v8') ps L' hs v8' := by
  refine h.rebox hr (((Upd.refl [b8] W).setCell _ _ (by simp)).setCell _ _ (by simp)) ?_
  rw [heap_setCell_same _ _ _ _ _ _ (heap_setCell_same _ _ _ _ _ _ h.box)]
  rfl
theorem PlayR.retab (h : PlayR w n b8 v9 W ps L hs v8) (ht : inoI.TabW W' (w.heap.size + 1) (w.heap.size + 2) w.heap.size ps') (hu : Upd [w.heap.size] W W') : PlayR w n b8 v9 W' ps' L hs v8 := by
  have hf := h.far
  refine ⟨ht, hu.heap h.box (by simp; omega), ownsRow_upd h.row hu (fun g hg hm => ?_), ownsRow_upd h.all hu (fun g hg hm => ?_), hu.ext h.ext (by simp), hf⟩
  · have := (World.ownsRow.lt h.row g hg).1; simp at hm; omega
  · have := (World.ownsRow.lt h.all g hg).1; simp at hm; omega
theorem PlayR.reall (h : PlayR w n b8 v9 W ps L hs v8) (hr : HRow W' (w.heap.size + 3) v9' hs') (hu : Upd v9.ownBlock.toList W W') : PlayR w n b8 v9' W' ps L hs' v8 := by
  have hf := h.far
  have hg : ∀ g ∈ v9.ownBlock.toList, w.heap.size + 3 ≤ g := fun g hg => (World.ownsRow.lt h.all g (by simpa using hg)).1
  refine ⟨h.tab.upd hu (fun hm => by have := hg _ hm; omega) (fun hm => by have := hg _ hm; omega) (fun hm => by have := hg _ hm; omega), hu.heap h.box (fun hm => ?_), ownsRow_upd h.row hu (fun g hg' hm => ?_), hr, hu.ext h.ext (fun g hm => by have := hg _ hm; omega), hf⟩
  · exact ownsRow_ne h.all h.box (by decide) (by simpa using hm)
  · exact ownsRow_apart h.row h.all (by decide) g hg' (by simpa using hm)
end
end Go.Proofs.Ytmdacpkkglhefaa
