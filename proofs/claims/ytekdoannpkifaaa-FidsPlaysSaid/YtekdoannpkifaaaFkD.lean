/- The walk of Clear; rows of numbers with what they stand for; stores of ten cells. -/
import Derived.Test.YtekdoannpkifaaaFkC
import Derived.Deep.MidRow
namespace Go.Proofs.Ytekdoannpkifaaa
open Go.ChangeShapes Go.WideShapes Go.ChangeAt Go.RowKit

theorem MapIs.clear {P : Program} {w : World} {b : Nat} {q : IntKind} {l : List (Int × Value)} {T K E : TypeId} (h : MapIs w b q l) (hT : P.underlying T = some (.map K E)) (ty : TypeId) :
    ∃ w', (Builtin.clear_ #[T] ty #[.map (some b)]).run P w = .ok (.tuple #[]) w' ∧ MapIs w' b q [] ∧ Upd [b] w w' := by
  have hlt := h.lt
  obtain ⟨es, clock, hb, he, hn, hc⟩ := h
  unfold Builtin.clear_
  refine ⟨{ w with heap := w.heap.setIfInBounds b (.map #[] clock) }, ?_, ⟨#[], clock, setObj_at _ hlt, rfl, by simp, by simp⟩, setObj_upd w b _⟩
  simp [Sem.run_bind, run_underlying hT, getObj, setObj, Sem.run, hb]
section
variable {P : Program} {w w' : World} {ops : Array Oper} {rest : List Oper} {o : Oper} {a : Act} {Q : Exit → Act → World → Prop}
theorem wpList_clear_run (hgd : o.guard = none) (s : Operand) (ats : Array TypeId)
    (ho : o.op = .call { callee := .builtin .clear, args := #[s], argTypes := ats }) (v v' : Value) (hs : a.eval s = v)
    (hrun : (Builtin.clear_ ats o.type #[v]).run P w = .ok v' w') (h : wpList P ops Q rest (a.put o.dst v') w') : wpList P ops Q (o :: rest) a w := by
  refine wpList_plain hgd fun K hK => ?_
  unfold Oper.wp execOp
  simp only [ho, resolve, invoke, builtin, Sem.run_bind, Sem.run_pure, Result.andThen_ok, List.map_toArray, List.map_cons, List.map_nil, hs, hrun]
  exact hK _ _ h
end
set_option maxRecDepth 100000 in
set_option maxHeartbeats 1000000 in
theorem clear_any (pb mb : Nat) (most : Int) (l : List (Int × FV)) (w : World) (h : FidW w pb mb most l) :
    Calls Try.prog 18 #[.pointer (some ⟨pb, 0, none⟩)] w fun r w' => r = .returned (.tuple #[]) ∧ FidW w' pb mb most [] ∧ Upd [pb, mb] w w' := by
  obtain ⟨c0, c1, f0, f1⟩ := blk2 h.ptr
  have hpb := lt_of_heap h.ptr
  have hne := h.ne
  obtain ⟨w', hrun, hmap, hupd⟩ := h.map.clear (P := Try.prog) Try.underlying58 0
  have HF := Lib.hid (show FidW w' pb mb most [] ∧ Upd [pb, mb] w w' from ⟨⟨hupd.heap h.ptr (by simpa using hne), hmap⟩, hupd.mono (by simp)⟩)
  have HR := Lib.hid hrun
  clear h hne hrun hmap hupd
  go_enter Try.func18, Try.ntmps18
  go_wp2_with ((with_reducible refine wpList_clear_run (o := ⟨none, .call { callee := .builtin .clear, args := #[.tmp 5], argTypes := #[58] }, 0, _, _, none⟩) rfl _ _ rfl _ _ ?_ HR.out ?_); (· rfl))
  go_end0
  exact ⟨rfl, HF.out.1, HF.out.2⟩

/-! ### stores of many cells -/
def setA : Array Value → Nat → List Value → Array Value
  | cs, _, [] => cs
  | cs, o, v :: r => setA (cs.setIfInBounds o v) (o + 1) r
def setL : List Value → Nat → List Value → List Value
  | xs, _, [] => xs
  | xs, o, v :: r => setL (xs.set o v) (o + 1) r
theorem setCells_heap (g : Nat) (t : TypeId) : ∀ (vs : List Value) (o : Nat) (w : World) (cs : Array Value), w.heap[g]? = some (.cells cs t (0, 0)) → (w.setCells g o vs).heap[g]? = some (.cells (setA cs o vs) t (0, 0))
  | [], _, _, _, h => h
  | v :: r, o, w, _, h => setCells_heap g t r (o + 1) _ _ (heap_setCell_same w g o _ _ v h)
theorem setCells_upd (g : Nat) : ∀ (vs : List Value) (o : Nat) (w : World), Upd [g] w (w.setCells g o vs)
  | [], _, w => Upd.refl _ w
  | v :: r, o, w => ((Upd.refl [g] w).setCell ⟨g, o, none⟩ v (by simp)).trans (setCells_upd g r (o + 1) _)
theorem own_stores {base : Nat} {e : TypeId} {size g cap n : Nat} : ∀ (vs : List Value) (o : Nat) (w : World) (xs : List Value), w.ownsRow base e size (.slice (some ⟨g, 0, none⟩) n cap) n xs → (w.setCells g o vs).ownsRow base e size (.slice (some ⟨g, 0, none⟩) n cap) n (setL xs o vs)
  | [], _, _, _, h => h
  | v :: r, o, _, _, h => own_stores r (o + 1) _ _ (own_store h o v)
theorem setL_right : ∀ (vs A B : List Value) (o : Nat), setL (A ++ B) (A.length + o) vs = A ++ setL B o vs
  | [], _, _, _ => rfl
  | v :: r, A, B, o => by
    unfold setL
    rw [List.set_append_right _ _ (by omega), show A.length + o - A.length = o by omega, Nat.add_assoc]
    exact setL_right r A _ (o + 1)
theorem FV.one (v : FV) : v.cells.all (·.oneCell') = true := by simp [FV.cells, Value.oneCell']
theorem sizeX : (Try.prog.info? 39).map (·.size) = some 10 := by kernel_rfl
theorem set10 (u v : FV) : setA u.cells 0 v.cells.toList = v.cells := by simp [setA, FV.cells]
theorem val_cells (v : FV) : v.val = .agg v.cells := rfl
/-- A whole X is stored into a box of its own. -/
theorem put10 {w : World} {g : Nat} {u : FV} (v : FV) (h : w.heap[g]? = some (.cells u.cells 39 (0, 0))) :
    ∃ w', (Instr.storeAt 39 (.pointer (some ⟨g, 0, none⟩)) v.val).run Try.prog w = .ok () w' ∧ w'.heap[g]? = some (.cells v.cells 39 (0, 0)) ∧ Upd [g] w w' := by
  have ht : w.there g 0 v.cells.size := fun j hj => by
    refine ⟨?_, free_of h _⟩
    rw [cell_of h]
    have : 0 + j < u.cells.size := by rw [Nat.zero_add]; exact hj
    rw [Array.getElem?_eq_getElem this]
    rfl
  have hs : (Try.prog.info? 39).map (·.size) = some v.cells.size := sizeX
  have hr := run_storeAt_mid (P := Try.prog) w g 0 39 v.cells ht hs v.one
  have hh := setCells_heap g _ v.cells.toList 0 w _ h
  rw [set10] at hh
  rw [val_cells]
  exact ⟨_, hr, hh, setCells_upd g _ 0 w⟩

/-! ### rows of P -/
def pvCells (p : Int × FV) : List Value := .int .i64 p.1 :: p.2.cells.toList
def pCells (l : List (Int × FV)) : List Value := l.flatMap pvCells
theorem pv_len (p : Int × FV) : (pvCells p).length = 11 := rfl
theorem pCells_cons (c : Int × FV) (l : List (Int × FV)) : pCells (c :: l) = pvCells c ++ pCells l := rfl
theorem pCells_len : ∀ l : List (Int × FV), (pCells l).length = l.length * 11
  | [] => rfl
  | c :: l => by
    rw [pCells_cons, List.length_append, pCells_len l, pv_len]
    simp
    omega
theorem pCells_at : ∀ (l : List (Int × FV)) (i : Nat) (h : i < l.length) (j : Nat), j < 11 → (pCells l)[i * 11 + j]? = (pvCells l[i])[j]?
  | [], i, h, _, _ => by simp at h
  | c :: l, 0, h, j, hj => by
    rw [pCells_cons, List.getElem?_append_left (by rw [pv_len]; omega)]
    simp
  | c :: l, i + 1, h, j, hj => by
    have ih := pCells_at l i (by simpa using h) j hj
    rw [pCells_cons, List.getElem?_append_right (by rw [pv_len]; omega), pv_len, show (i + 1) * 11 + j - 11 = i * 11 + j by omega, ih]
    rfl
theorem pCells_app (a b : List (Int × FV)) : pCells (a ++ b) = pCells a ++ pCells b := by simp [pCells]
theorem pCells_take : ∀ (l : List (Int × FV)) (k : Nat), pCells (l.take k) = (pCells l).take (k * 11)
  | [], k => by simp [pCells]
  | c :: l, 0 => by simp [pCells]
  | c :: l, k + 1 => by
    rw [List.take_succ_cons, pCells_cons, pCells_take l k, pCells_cons, show (k + 1) * 11 = (pvCells c).length + k * 11 by rw [pv_len]; omega, List.take_length_add_append]
theorem pCells_drop : ∀ (l : List (Int × FV)) (k : Nat), pCells (l.drop k) = (pCells l).drop (k * 11)
  | [], k => by simp [pCells]
  | c :: l, 0 => by simp
  | c :: l, k + 1 => by
    rw [List.drop_succ_cons, pCells_drop l k, pCells_cons, show (k + 1) * 11 = (pvCells c).length + k * 11 by rw [pv_len]; omega, List.drop_length_add_append]
theorem pCells_one (l : List (Int × FV)) : ∀ u ∈ pCells l, u.oneCell' = true := by
  intro u hu
  simp only [pCells, List.mem_flatMap, pvCells, FV.cells] at hu
  obtain ⟨r, _, h⟩ := hu
  simp at h
  rcases h with rfl | rfl | rfl | rfl | rfl | rfl | rfl | rfl | rfl | rfl | rfl <;> rfl
theorem pCells_set : ∀ (l : List (Int × FV)) (k : Nat) (h : k < l.length) (x : FV), setL (pCells l) (k * 11 + 1) x.cells.toList = pCells (l.set k (l[k].1, x))
  | [], k, h, _ => by simp at h
  | c :: l, 0, h, x => by
    show setL (pvCells c ++ pCells l) 1 x.cells.toList = pvCells (c.1, x) ++ pCells l
    rfl
  | c :: l, k + 1, h, x => by
    have ih := pCells_set l k (by simpa using h) x
    rw [pCells_cons, show (k + 1) * 11 + 1 = (pvCells c).length + (k * 11 + 1) by rw [pv_len]; omega, setL_right, ih]
    rfl
/-- The slice value v, of the call's own, holds the numbers l, and what they stand for. -/
def PRow (w : World) (base : Nat) (v : Value) (l : List (Int × FV)) : Prop := w.ownsRow base 63 11 v l.length (pCells l)
theorem PRow.nil (w : World) (base : Nat) : PRow w base (.slice none 0 0) [] := World.ownsRow_nil _ _ _ _
theorem PRow.ext {w w' : World} {base : Nat} {v : Value} {l : List (Int × FV)} (h : PRow w base v l) (hx : Ext w w') : PRow w' base v l := ownsRow_ext h hx
theorem PRow.form {w : World} {base : Nat} {v : Value} {l : List (Int × FV)} (h : PRow w base v l) : ∃ a cap, v = .slice a l.length cap ∧ l.length ≤ cap ∧ cap ≤ maxLen ∧
    ∀ i (hi : i < l.length), ∃ g, a = some ⟨g, 0, none⟩ ∧ base ≤ g ∧ g < w.heap.size ∧ w.cell? ⟨g, i * 11, none⟩ = some (.int .i64 l[i].1) ∧
      w.cell? ⟨g, i * 11 + 1, none⟩ = some (.int .i64 l[i].2.h1) ∧ w.cell? ⟨g, i * 11 + 2, none⟩ = some (.int .i64 l[i].2.h2) ∧ w.cell? ⟨g, i * 11 + 3, none⟩ = some (.int .i64 l[i].2.u1) ∧ w.cell? ⟨g, i * 11 + 4, none⟩ = some (.int .i64 l[i].2.u2) ∧
      w.cell? ⟨g, i * 11 + 5, none⟩ = some (.string l[i].2.name) ∧ w.cell? ⟨g, i * 11 + 6, none⟩ = some (.bool l[i].2.dir) ∧ w.cell? ⟨g, i * 11 + 7, none⟩ = some (.bool l[i].2.opn) ∧ w.cell? ⟨g, i * 11 + 8, none⟩ = some (.int .i64 l[i].2.mode) ∧
      w.cell? ⟨g, i * 11 + 9, none⟩ = some (.int .i64 l[i].2.off) ∧ w.cell? ⟨g, i * 11 + 10, none⟩ = some (.int .i64 l[i].2.at_) := by
  rcases h.2 with ⟨rfl, h0⟩ | ⟨g, cap, cur, hv, hb, hg, hn, hm, hs', ht⟩
  · exact ⟨none, 0, by rw [h0], by omega, by unfold maxLen; omega, fun i hi => by omega⟩
  · refine ⟨_, cap, hv, hn, hm, fun i hi => ⟨g, rfl, hb, lt_of_heap hg, ?_⟩⟩
    have key : ∀ j, j < l.length * 11 → w.cell? ⟨g, j, none⟩ = (pCells l)[j]? := fun j hj => by
      rw [cell_of hg j, ← ht, List.getElem?_take, if_pos hj]; simp
    have k2 : ∀ j, j < 11 → w.cell? ⟨g, i * 11 + j, none⟩ = (pvCells l[i])[j]? := fun j hj => (key _ (by omega)).trans (pCells_at l i hi j hj)
    exact ⟨k2 0 (by omega), k2 1 (by omega), k2 2 (by omega), k2 3 (by omega), k2 4 (by omega), k2 5 (by omega), k2 6 (by omega), k2 7 (by omega), k2 8 (by omega), k2 9 (by omega), k2 10 (by omega)⟩
theorem infoP : (Try.prog.info? 63).map (fun i => (i.zero, i.size, i.bytes)) = some (some (.agg #[.int .i64 0, .int .i64 0, .int .i64 0, .int .i64 0, .int .i64 0, .string ⟨#[]⟩, .bool false, .bool false, .int .i64 0, .int .i64 0, .int .i64 0]), 11, 88) := by kernel_rfl
theorem sizeP : (Try.prog.info? 63).map (·.size) = some 11 := by kernel_rfl
end Go.Proofs.Ytekdoannpkifaaa
