/- Rows of rows of the call's own. -/
import Derived.Test.YtggojigbflbloaaMkB
import Derived.Deep.Matrix
namespace Go.Proofs.Ytggojigbflbloaa
open Go.ChangeShapes Go.WideShapes Go.ChangeAt Go.RowKit

inductive Each (R : Value → List Int → Prop) : List Value → List (List Int) → Prop
  | nil : Each R [] []
  | cons {x : Value} {y : List Int} {xs : List Value} {ys : List (List Int)} : R x y → Each R xs ys → Each R (x :: xs) (y :: ys)
theorem Each.len {R : Value → List Int → Prop} {xs : List Value} {ys : List (List Int)} (h : Each R xs ys) : xs.length = ys.length := by
  induction h with
  | nil => rfl
  | cons _ _ ih => simp [ih]
theorem Each.mono {R S : Value → List Int → Prop} {xs : List Value} {ys : List (List Int)} (h : Each R xs ys) (hs : ∀ x y, R x y → S x y) : Each S xs ys := by
  induction h with
  | nil => exact .nil
  | cons h1 _ ih => exact .cons (hs _ _ h1) ih
theorem Each.snoc {R : Value → List Int → Prop} {xs : List Value} {ys : List (List Int)} (h : Each R xs ys) {x : Value} {y : List Int} (hx : R x y) : Each R (xs ++ [x]) (ys ++ [y]) := by
  induction h with
  | nil => exact .cons hx .nil
  | cons h1 _ ih => exact .cons h1 ih
theorem Each.get {R : Value → List Int → Prop} {xs : List Value} {ys : List (List Int)} (h : Each R xs ys) {i : Nat} (hi : i < xs.length) : R xs[i] (ys.getD i []) := by
  induction h generalizing i with
  | nil => simp at hi
  | cons h1 _ ih =>
    cases i with
    | zero => simpa using h1
    | succ i => simpa using ih (by simpa using hi)

def OwnRow (w : World) (base : Nat) (x : Value) (y : List Int) : Prop := Owns w base 5 x (bv y) ∧ ∀ z ∈ y, (Lit.int .u8 z).wf = true
/-- The slice value v, of the call's own, holds slices of the call's own that hold yss. -/
def OwnsRows (w : World) (base : Nat) (v : Value) (yss : List (List Int)) : Prop := ∃ xs, Owns w base 28 v xs ∧ Each (OwnRow w base) xs yss
theorem OwnsRows.nil (w : World) (base : Nat) : OwnsRows w base (.slice none 0 0) [] := ⟨[], Owns.nil _ _ _, .nil⟩
theorem OwnsRows.ext {w w' : World} {base : Nat} {v : Value} {yss : List (List Int)} (h : OwnsRows w base v yss) (hx : Ext w w') : OwnsRows w' base v yss := by
  obtain ⟨xs, h1, h2⟩ := h
  exact ⟨xs, h1.ext hx, h2.mono fun x y h => ⟨h.1.ext hx, h.2⟩⟩
theorem infoRow : (Try.prog.info? 28).map (fun i => (i.zero, i.size, i.bytes)) = some (some (.slice none 0 0), 1, 24) := by kernel_rfl
theorem Owns.one {w : World} {base : Nat} {e : TypeId} {v : Value} {xs : List Value} (h : Owns w base e v xs) : v.oneCell' = true := by
  rcases h.form with ⟨rfl, _⟩ | ⟨g, cap, cur, rfl, _⟩ <;> rfl
/-- Blocks of two types are two. -/
theorem Owns.apart {w : World} {b1 b2 : Nat} {e1 e2 : TypeId} {v1 v2 : Value} {x1 x2 : List Value} (h1 : Owns w b1 e1 v1 x1) (h2 : Owns w b2 e2 v2 x2) (he : e1 ≠ e2) {g : Nat} (hg : v1.ownBlock = some g) : v2.ownBlock ≠ some g := by
  intro hg2
  rcases h1.form with ⟨rfl, _⟩ | ⟨g1, c1, k1, rfl, _, _, _, hh1, _⟩
  · simp [Value.ownBlock] at hg
  · rcases h2.form with ⟨rfl, _⟩ | ⟨g2, c2, k2, rfl, _, _, _, hh2, _⟩
    · simp [Value.ownBlock] at hg2
    · simp only [Value.ownBlock, Option.some.injEq] at hg hg2
      subst hg
      subst hg2
      rw [hh1] at hh2
      injection hh2 with hh2
      injection hh2 with _ h _
      exact he h
theorem OwnsRows.push {w : World} {base : Nat} {v x : Value} {yss : List (List Int)} {y : List Int} (h : OwnsRows w base v yss) (hx : OwnRow w base x y) (hb : base ≤ w.heap.size) (hl : yss.length ≤ 1000) :
    ∃ v' w', (Builtin.append_ #[34, 34] 34 #[v, .slice (some ⟨w.heap.size, 0, none⟩) 1 1]).run Try.prog (w.alloc (.cells #[x] 28)) = .ok v' w' ∧ OwnsRows w' base v' (yss ++ [y]) ∧ ∀ o, o.heap.size ≤ base → Ext o w → Ext o w' := by
  obtain ⟨xs, h1, h2⟩ := h
  have hlen := h2.len
  obtain ⟨v', w', p1, p2, p3, _⟩ := h1.append1 (P := Try.prog) (t := 34) (ty := 34) (.slice none 0 0) 24 Try.underlying34 infoRow rfl x hx.1.one (by unfold maxLen; omega) (by omega) hb
  have far : ∀ x y, OwnRow w base x y → OwnRow w' base x y := fun x1 y1 hxy => by
    refine ⟨?_, hxy.2⟩
    refine ⟨hxy.1.1, ?_⟩
    rcases hxy.1.2 with hn | ⟨g, cap, cur, hv, hb, hg, rest⟩
    · exact .inl hn
    · refine .inr ⟨g, cap, cur, hv, hb, ?_, rest⟩
      have hga := ((Ext.refl w).alloc (.cells #[x] 28)).heap hg
      refine grown_heap p3 hga (fun e => ?_)
      exact hxy.1.apart h1 (by decide) (g := g) (by rw [hv]; rfl) e.symm
  exact ⟨v', w', p1, ⟨xs ++ [x], p2, (h2.mono far).snoc (far _ _ hx)⟩, fun o ho hxo => grown_ext p3 (hxo.alloc _) (fun g hg => by have := (h1.lt hg).1; omega)⟩
theorem OwnsRows.rows {w : World} {base : Nat} {v : Value} {yss : List (List Int)} (h : OwnsRows w base v yss) : ∃ a cap, v = .slice a yss.length cap ∧ IsRows Plain w a yss.length cap yss ∧ Plain a cap := by
  obtain ⟨xs, h1, h2⟩ := h
  have hlen := h2.len
  rcases h1.form with ⟨rfl, h0⟩ | ⟨g, cap, cur, hv, hb, hn, hm, hg, hs, ht⟩
  · subst h0
    have hy : yss = [] := List.eq_nil_of_length_eq_zero (by simpa using hlen.symm)
    subst hy
    exact ⟨none, 0, rfl, ⟨rfl, by simp, by unfold maxLen; omega, .inl rfl⟩, .inl ⟨rfl, rfl⟩⟩
  · rw [hlen] at hv hn ht
    refine ⟨_, cap, hv, ⟨rfl, hn, hm, .inr ⟨g, 0, rfl, fun i hi => ?_⟩⟩, .inr ⟨g, 0, rfl⟩⟩
    have hi' : i < xs.length := by omega
    have hr := h2.get hi'
    obtain ⟨ai, ci, e1, e2, e3⟩ := hr.1.row2 hr.2
    refine ⟨ai, ci, ?_, e2, e3⟩
    have h3 : (cur.toList.take yss.length)[i]? = cur[i]? := by rw [List.getElem?_take, if_pos hi]; simp
    rw [Nat.zero_add, cell_of hg i, ← h3, ht, List.getElem?_eq_getElem hi', e1]

/-- Rows that came in. -/
theorem IsRows.of_trod {H : Type} {enc : TypeId × Value → H} {P : Program} {W : World} {t e q : TypeId} {a : Option Addr} {len cap : Nat} {d : DataW H} {p : List MemPlace}
    (ht : P.underlying t = some (.slice e)) (he : P.underlying e = some (.slice q)) (hq : P.underlying q = some (.int .u8)) (ce : P.cellsOf e = 1) (cq : P.cellsOf q = 1)
    (h : DataW.Trod enc P W 0 (fun _ => true) true t (.slice a len cap) d p) : ∃ yss, IsRows (fun a c => a = none → c = 0) W a len cap yss ∧ (a = none → cap = 0) := by
  obtain ⟨fuel, hf⟩ := h
  rcases Go.Deep.open_int_rows ht he hq ce cq hf with ⟨hcs, _⟩ | ⟨x, l, c, A, L, C, Z, hcs, _, hl, hm, _, hcell⟩
  · simp [Value.cells] at hcs
    obtain ⟨rfl, rfl, rfl⟩ := hcs
    exact ⟨[], ⟨rfl, by omega, by unfold maxLen; omega, .inl rfl⟩, fun _ => rfl⟩
  · simp [Value.cells] at hcs
    obtain ⟨rfl, rfl, rfl⟩ := hcs
    refine ⟨(List.range len).map fun r => (Z r).take (L r), ⟨by simp, hl, hm, ?_⟩, fun e => by cases e⟩
    rcases Nat.eq_zero_or_pos len with h0 | h0
    · exact .inl h0
    · right
      obtain ⟨g, o, spot⟩ := x
      have hspot : spot = none := by simpa [Addr.add] using World.cell?_spot (hcell 0 (by omega)).1
      subst hspot
      refine ⟨g, o, rfl, fun i hi => ?_⟩
      obtain ⟨q1, q2, q3, q4, q5, q6, q7⟩ := hcell i (by omega)
      have e1 : ((List.range len).map fun r => (Z r).take (L r)).getD i [] = (Z i).take (L i) := by simp [List.getD, hi]
      have e2 : ((Z i).take (L i)).length = L i := by rw [List.length_take]; omega
      rw [Go.WideShapes.add_plain] at q1
      rw [e1, e2]
      refine ⟨A i, C i, q1, ⟨e2, q2, q3, fun z hz => q5 z (List.mem_of_mem_take hz), ?_⟩, q6⟩
      rcases Nat.eq_zero_or_pos (L i) with h1 | h1
      · exact .inl h1
      · cases hA : A i with
        | none => have := q6 hA; omega
        | some a' =>
          have q8 := (q7 a' hA).2
          obtain ⟨g', o', spot'⟩ := a'
          have hspot' : spot' = none := by simpa [Addr.add] using World.cell?_spot (q8 0 (by omega))
          subst hspot'
          refine .inr ⟨g', o', rfl, fun c hc => ?_⟩
          rw [← Go.WideShapes.add_plain, q8 c (by omega)]
          simp [List.getD, hc]
end Go.Proofs.Ytggojigbflbloaa
