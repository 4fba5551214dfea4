/- What the row's list of variables gives: the table's cells. And the frame of the cards over one or two integers. -/
import Derived.Test.YtfbdahhlhmdicaaDoorA4
import Derived.Test.YtfbdahhlhmdicaaDoorCards
import Derived.Test.YtfbdahhlhmdicaaDoorTie
import Derived.Lib.SmallJoins
import Derived.Deep.DeepHandedRow
namespace Go.Proofs.YtfbdahhlhmdicaaDoor
open Go.ChangeShapes Go.WideShapes Go.ChangeAt Go.RowKit

def rowData (r : Row) : DataW Unit := .agg [.lit (.int .i64 r.e), .lit (.int .u32 r.s), .lit (.int .i64 r.c), .lit (.string r.t)]
theorem laid_is : (Rows.laid_truchman_codes_table : DataW Unit) = .agg (rows.map rowData) := by kernel_rfl
theorem own : ownKnob Tryd.prog.godebug = none := by kernel_rfl
/-- The table's name, as the given row has it. -/
def tabName : String := (Rows.codesOfRow.named.head?).getD default
theorem gTab : Tryd.prog.globalNamed tabName = some 0 := by kernel_rfl
theorem gTabType : (Tryd.prog.globals[0]?).map (·.type) = some 44 := by kernel_rfl
theorem cells44 : Tryd.prog.cellsOf 44 = 76 := by kernel_rfl
theorem cells38 : Tryd.prog.cellsOf 38 = 4 := by kernel_rfl
theorem cells22 : Tryd.prog.cellsOf 22 = 1 := by kernel_rfl
theorem cells25 : Tryd.prog.cellsOf 25 = 1 := by kernel_rfl
theorem cells3 : Tryd.prog.cellsOf 3 = 1 := by kernel_rfl
theorem cells9 : Tryd.prog.cellsOf 9 = 1 := by kernel_rfl

theorem chunks (l m : List Value) (n : Nat) (hl : l.length = n * 4) (hm : m.length = n * 4) (h : ∀ i, i < n → (l.drop (i * 4)).take 4 = (m.drop (i * 4)).take 4) : l = m := by
  apply List.ext_getElem?
  intro j
  by_cases hj : j < n * 4
  · have h1 := congrArg (·[j % 4]?) (h (j / 4) (by omega))
    simp only [List.getElem?_take, List.getElem?_drop] at h1
    rw [if_pos (by omega), if_pos (by omega), show j / 4 * 4 + j % 4 = j by omega] at h1
    exact h1
  · rw [List.getElem?_eq_none (by omega), List.getElem?_eq_none (by omega)]

theorem four {l : List Value} (hl : l.length = 4) {a b c d : Value} (h0 : (l.drop 0).take 1 = [a]) (h1 : (l.drop 1).take 1 = [b]) (h2 : (l.drop 2).take 1 = [c]) (h3 : (l.drop 3).take 1 = [d]) : l = [a, b, c, d] := by
  match l, hl with
  | [x, y, z, u], _ => simp at h0 h1 h2 h3; simp [h0, h1, h2, h3]

theorem row_cells {enc : TypeId × Value → Unit} {w : World} {base : Nat} {sp : Nat → Bool} {held : Bool} {fuel : Nat} {cs : List Value} {r : Row} {p : List MemPlace}
    (h : DataW.trod enc Tryd.prog w base sp held fuel 38 cs = some (rowData r, p)) : cs = r.cells := by
  obtain ⟨y0, y1, y2, y3, n, hx, hl, h0, h1, h2, h3⟩ := Joins.trod_struct4 Tryd.underlying38 h
  obtain ⟨a, ha, rfl, _⟩ := DataW.trod_int Tryd.underlying22 h0
  obtain ⟨b, hb, rfl, _⟩ := DataW.trod_int Tryd.underlying25 h1
  obtain ⟨c, hc, rfl, _⟩ := DataW.trod_int Tryd.underlying3 h2
  obtain ⟨s, hs, rfl, _⟩ := DataW.trod_string Tryd.underlying9 h3
  rw [cells38] at hl
  have hf := four hl (by simpa [cells22] using ha) (by simpa [cells25] using hb) (by simpa [cells3] using hc) (by simpa [cells9] using hs)
  simp only [rowData, Prod.mk.injEq, DataW.agg.injEq, List.cons.injEq, DataW.lit.injEq, Lit.int.injEq, Lit.string.injEq, true_and, and_true] at hx
  obtain ⟨⟨e0, e1, e2, e3⟩, _⟩ := hx
  rw [hf, Row.cells, e0, e1, e2, e3]

theorem table {W : World} (h : laidMet Tryd.prog [(tabName, Rows.laid_truchman_codes_table)] W) : TabW W := by
  obtain ⟨ps, ⟨g', t', cs, fuel, p, q, hg', ht', hvar, hd, _, _⟩, _⟩ := h
  obtain rfl := Option.some.inj (gTab.symm.trans hg')
  obtain rfl := Option.some.inj (gTabType.symm.trans ht')
  rw [laid_is] at hd
  obtain ⟨xs, m, _, hx, hl, hn, hi⟩ := DataW.trod_array Tryd.underlying44 hd
  rw [cells44] at hl
  have hrow : ∀ i, i < 19 → (cs.toList.drop (i * 4)).take 4 = (rowAt i).cells := by
    intro i hlt
    have h1 := hi i hlt
    rw [cells38] at h1
    have h2 : (xs.map (·.1))[i]? = some (rowData (rowAt i)) := by
      have : xs.map (·.1) = rows.map rowData := by
        have := congrArg Prod.fst hx
        simpa using this.symm
      rw [this]
      have : i < rows.length := hlt
      simp [rowAt, this]
    simp only [List.getElem?_map, Option.map_eq_some_iff] at h2
    obtain ⟨y, hy, he⟩ := h2
    rw [hy] at h1
    obtain ⟨d, p'⟩ := y
    simp only at he
    subst he
    exact row_cells h1
  have hcs : cs = tabCells := by
    have : cs.toList = tabCells.toList := chunks _ _ 19 (by simpa using hl) (by rfl) (fun i hlt => by
      rw [hrow i hlt]
      exact (show ∀ i, i < 19 → (rowAt i).cells = (tabCells.toList.drop (i * 4)).take 4 by
        intro i h
        have : i = 0 ∨ i = 1 ∨ i = 2 ∨ i = 3 ∨ i = 4 ∨ i = 5 ∨ i = 6 ∨ i = 7 ∨ i = 8 ∨ i = 9 ∨ i = 10 ∨ i = 11 ∨ i = 12 ∨ i = 13 ∨ i = 14 ∨ i = 15 ∨ i = 16 ∨ i = 17 ∨ i = 18 := by omega
        rcases this with rfl | rfl | rfl | rfl | rfl | rfl | rfl | rfl | rfl | rfl | rfl | rfl | rfl | rfl | rfl | rfl | rfl | rfl | rfl <;> rfl) i hlt)
    exact Array.toList_inj.1 this
  subst hcs
  simp only [World.var?, gTab, Option.bind_some] at hvar
  split at hvar
  · rename_i c t fr hh
    cases hvar
    exact ⟨t, fr, hh⟩
  · cases hvar

/-- A world for the witness: the settled one, the table (block 0) holding what its initialiser lays. -/
noncomputable def laidWorld (os : Os) : World :=
  { World.holding Tryd.prog os ⟨#[], #[], []⟩ with heap := (World.holding Tryd.prog os ⟨#[], #[], []⟩).heap.modify 0 fun
      | .cells _ t frozen => .cells tabCells t frozen
      | o => o }
end Go.Proofs.YtfbdahhlhmdicaaDoor
