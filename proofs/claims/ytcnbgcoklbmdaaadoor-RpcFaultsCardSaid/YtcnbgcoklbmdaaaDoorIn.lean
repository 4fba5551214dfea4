/- What a walk is told of slices that came in, and of slices of the call's own. Plain lemmas, over any program. -/
import Derived.Test.YtcnbgcoklbmdaaaDoorBase
import Derived.Maps.AppendAt
namespace Go.Proofs.YtcnbgcoklbmdaaaDoor
open Go.ChangeShapes Go.WideShapes Go.ChangeAt Go.RowKit

/-- The slice value (a, len, cap) holds the integers zs. -/
def IsRow (k : IntKind) (w : World) (a : Option Addr) (len cap : Nat) (zs : List Int) : Prop :=
  zs.length = len ∧ len ≤ cap ∧ cap ≤ maxLen ∧ (∀ z ∈ zs, (Lit.int k z).wf = true) ∧
    (len = 0 ∨ ∃ g o, a = some ⟨g, o, none⟩ ∧ ∀ i, i < len → w.cell? ⟨g, o + i, none⟩ = some (.int k (zs.getD i 0)))
theorem IsRow.of_trod {H : Type} {enc : TypeId × Value → H} {P : Program} {W : World} {t e : TypeId} {k : IntKind} {a : Option Addr} {len cap : Nat} {d : DataW H} {p : List MemPlace}
    (ht : P.underlying t = some (.slice e)) (he : P.underlying e = some (.int k)) (hc : P.cellsOf e = 1)
    (h : DataW.Trod enc P W 0 (fun _ => true) true t (.slice a len cap) d p) : ∃ zs, IsRow k W a len cap zs := by
  obtain ⟨fuel, hf⟩ := h
  rcases open_ints ht he hc hf with ⟨hcs, _⟩ | ⟨x, l, c, zs, hcs, _, hl, hm, hz, _, hcell, hwz⟩
  · simp [Value.cells] at hcs
    obtain ⟨rfl, rfl, rfl⟩ := hcs
    exact ⟨[], rfl, by omega, by unfold maxLen; omega, by simp, .inl rfl⟩
  · simp [Value.cells] at hcs
    obtain ⟨rfl, rfl, rfl⟩ := hcs
    simp only [if_true] at hz
    refine ⟨zs.take len, by simp; omega, hl, hm, fun z hzm => hwz z (List.mem_of_mem_take hzm), ?_⟩
    rcases Nat.eq_zero_or_pos len with h0 | h0
    · exact .inl h0
    · obtain ⟨b, off, rfl, hc2⟩ := ints_at hcell (by omega)
      refine .inr ⟨b, off, rfl, fun i hi => ?_⟩
      have h1 := hc2 i (by omega)
      rw [h1]
      congr 2
      simp [hi]
theorem IsRow.ext {k : IntKind} {w w' : World} {a : Option Addr} {len cap : Nat} {zs : List Int} (h : IsRow k w a len cap zs) (hx : Ext w w') : IsRow k w' a len cap zs := by
  obtain ⟨h1, h2, h3, h4, h5⟩ := h
  refine ⟨h1, h2, h3, h4, ?_⟩
  rcases h5 with h5 | ⟨g, o, h6, h7⟩
  · exact .inl h5
  · exact .inr ⟨g, o, h6, fun i hi => hx.cell (h7 i hi)⟩
theorem IsRow.at_ {k : IntKind} {w : World} {a : Option Addr} {len cap : Nat} {zs : List Int} (h : IsRow k w a len cap zs) {i : Nat} (hi : i < len) :
    ∃ g o, a = some ⟨g, o, none⟩ ∧ w.cell? ⟨g, o + i, none⟩ = some (.int k (zs.getD i 0)) := by
  rcases h.2.2.2.2 with h5 | ⟨g, o, h6, h7⟩
  · omega
  · exact ⟨g, o, h6, h7 i hi⟩
theorem wf_i64 {n : Int} (h : (Lit.int .i64 n).wf = true) : -9223372036854775808 ≤ n ∧ n ≤ 9223372036854775807 := by
  simpa [Lit.wf, IntKind.min, IntKind.max, IntKind.signed, IntKind.bits] using h
theorem wf_u32 {n : Int} (h : (Lit.int .u32 n).wf = true) : 0 ≤ n ∧ n ≤ 4294967295 := by
  simpa [Lit.wf, IntKind.min, IntKind.max, IntKind.signed, IntKind.bits] using h
theorem wf_u8 {n : Int} (h : (Lit.int .u8 n).wf = true) : 0 ≤ n ∧ n ≤ 255 := by
  simpa [Lit.wf, IntKind.min, IntKind.max, IntKind.signed, IntKind.bits] using h

/-! ### slices of the call's own, one cell an element -/
/-- The slice value v, of type e's elements, owns the values xs, in a block from base on. -/
def Owns (w : World) (base : Nat) (e : TypeId) (v : Value) (xs : List Value) : Prop := w.ownsRow base e 1 v xs.length xs
theorem Owns.nil (w : World) (base : Nat) (e : TypeId) : Owns w base e (.slice none 0 0) [] := World.ownsRow_nil _ _ _ _
theorem Owns.form {w : World} {base : Nat} {e : TypeId} {v : Value} {xs : List Value} (h : Owns w base e v xs) : (v = .slice none 0 0 ∧ xs = []) ∨
    ∃ g cap cur, v = .slice (some ⟨g, 0, none⟩) xs.length cap ∧ base ≤ g ∧ xs.length ≤ cap ∧ cap ≤ maxLen ∧ w.heap[g]? = some (.cells cur e (0, 0)) ∧ cur.size = cap ∧ cur.toList.take xs.length = xs := by
  rcases h.2 with ⟨hv, h0⟩ | ⟨g, cap, cur, hv, hb, hg, hn, hm, hs, ht⟩
  · exact .inl ⟨hv, List.eq_nil_of_length_eq_zero h0⟩
  · exact .inr ⟨g, cap, cur, hv, hb, hn, hm, hg, by simpa using hs, by simpa using ht⟩
theorem Owns.cell {w : World} {base : Nat} {e : TypeId} {v : Value} {xs : List Value} (h : Owns w base e v xs) {i : Nat} (hi : i < xs.length) :
    ∃ g cap, v = .slice (some ⟨g, 0, none⟩) xs.length cap ∧ base ≤ g ∧ g < w.heap.size ∧ xs.length ≤ cap ∧ cap ≤ maxLen ∧ w.cell? ⟨g, i, none⟩ = some xs[i] ∧ w.frozen? ⟨g, i, none⟩ = false := by
  rcases h.form with ⟨_, h0⟩ | ⟨g, cap, cur, hv, hb, hn, hm, hg, hs, ht⟩
  · rw [h0] at hi; simp at hi
  · refine ⟨g, cap, hv, hb, lt_of_heap hg, hn, hm, ?_, free_of hg i⟩
    rw [cell_of hg i]
    have h1 : (cur.toList.take xs.length)[i]? = cur[i]? := by rw [List.getElem?_take, if_pos hi]; simp
    rw [← h1, ht, List.getElem?_eq_getElem hi]
theorem Owns.ext {w w' : World} {base : Nat} {e : TypeId} {v : Value} {xs : List Value} (h : Owns w base e v xs) (hx : Ext w w') : Owns w' base e v xs := by
  refine ⟨h.1, ?_⟩
  rcases h.2 with hn | ⟨g, cap, cur, hv, hb, hg, rest⟩
  · exact .inl hn
  · exact .inr ⟨g, cap, cur, hv, hb, hx.heap hg, rest⟩
theorem Owns.upd {S : List Nat} {w w' : World} {base : Nat} {e : TypeId} {v : Value} {xs : List Value} (h : Owns w base e v xs) (hx : Upd S w w') (hs : ∀ g, v.ownBlock = some g → g ∉ S) : Owns w' base e v xs := by
  refine ⟨h.1, ?_⟩
  rcases h.2 with hn | ⟨g, cap, cur, hv, hb, hg, rest⟩
  · exact .inl hn
  · exact .inr ⟨g, cap, cur, hv, hb, hx.heap hg (hs g (by rw [hv]; rfl)), rest⟩
theorem Owns.lt {w : World} {base : Nat} {e : TypeId} {v : Value} {xs : List Value} (h : Owns w base e v xs) {g : Nat} (hg : v.ownBlock = some g) : base ≤ g ∧ g < w.heap.size := World.ownsRow.lt h g hg
/-- 'append(v, x)': x lies in a new block of its own, one cell. -/
theorem Owns.append1 {P : Program} {w : World} {base : Nat} {e t ty : TypeId} {v : Value} {xs : List Value} (h : Owns w base e v xs) (z : Value) (bytes : Nat) (ht : P.underlying t = some (.slice e))
    (hinfo : (P.info? e).map (fun i => (i.zero, i.size, i.bytes)) = some (some z, 1, bytes)) (hz : z.cells.size = 1) (x : Value) (hx1 : x.oneCell' = true)
    (h63 : xs.length + 1 ≤ maxLen) (hby : (xs.length + 1) * bytes ≤ 140737488355328) (hb : base ≤ w.heap.size) :
    ∃ v' w', (Builtin.append_ #[t, t] ty #[v, .slice (some ⟨w.heap.size, 0, none⟩) 1 1]).run P (w.alloc (.cells #[x] e)) = .ok v' w' ∧ Owns w' base e v' (xs ++ [x]) ∧
      (w.alloc (.cells #[x] e)).grownBy w' v.ownBlock ∧ (v'.ownBlock = v.ownBlock ∨ v'.ownBlock = some (w.heap.size + 1)) := by
  obtain ⟨i0, hi, hz0, hz1, hz2⟩ := info_parts hinfo
  obtain ⟨v', w', hrun, hown, hg, _, h5⟩ := run_append_own_at (P := P) (w.alloc (.cells #[x] e)) base t ty e i0 z 1 bytes ht hi hz0 hz1 hz2 hz (by decide) v xs.length xs (World.ownsRow.alloc h _) ⟨w.heap.size, 0, none⟩ 1 1 [x] rfl
    (fun j u hj => by
      cases j with
      | zero => simp at hj; subst hj; simp [Addr.add]
      | succ j => simp at hj) (by simpa using hx1) h63 hby (by simp; omega)
  refine ⟨v', w', hrun, ?_, hg, by simpa using h5⟩
  unfold Owns
  simpa using hown
theorem grown_upd {S : List Nat} {w w' : World} {row : Option Nat} (h : w.grownBy w' row) (hr : ∀ g, row = some g → g ∈ S ∨ w.heap.size ≤ g) : Upd S w w' :=
  ⟨h.os, h.tape, h.output, h.size, fun k hk hs => h.block k hk (fun e => by rcases hr k e.symm with h1 | h1; exact hs h1; omega)⟩
theorem grown_ext {o w w' : World} {row : Option Nat} (h : w.grownBy w' row) (k : Ext o w) (hr : ∀ g, row = some g → o.heap.size ≤ g) : Ext o w' :=
  Below.grown k h k.size hr
theorem grown_heap {w w' : World} {row : Option Nat} (h : w.grownBy w' row) {g : Nat} {o : Obj} (hg : w.heap[g]? = some o) (hne : some g ≠ row) : w'.heap[g]? = some o := (h.block g (lt_of_heap hg) hne).trans hg
end Go.Proofs.YtcnbgcoklbmdaaaDoor
