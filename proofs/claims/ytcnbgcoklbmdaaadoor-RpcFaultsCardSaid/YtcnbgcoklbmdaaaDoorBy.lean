/- Bytes: rows of the call's own, strings, numbers' bytes, the first so many. Contracts of the small functions that many walks call. -/
import Derived.Test.YtcnbgcoklbmdaaaDoorMk2
import Derived.Deep.RegionLaw
import Derived.Deep.AppendLies
import Derived.Deep.Upon
import Derived.Laws.BytesArg
import Derived.Lib.SlBytesConst
namespace Go.Proofs.YtcnbgcoklbmdaaaDoor
open Go.ChangeShapes Go.WideShapes Go.ChangeAt Go.RowKit

theorem drew_ext (w : World) : Ext w w.drew := (Ext.refl w).drew
/-- The address is none or a plain one. -/
def Plain (a : Option Addr) (cap : Nat) : Prop := (a = none ∧ cap = 0) ∨ ∃ g o, a = some ⟨g, o, none⟩
theorem Plain.nil0 {a : Option Addr} {cap : Nat} (h : Plain a cap) : a = none → cap = 0 := fun e => by rcases h with ⟨_, h⟩ | ⟨g, o, h⟩; exact h; rw [h] at e; cases e
theorem Owns.low {w : World} {base b' : Nat} {e : TypeId} {v : Value} {xs : List Value} (h : Owns w base e v xs) (hb : b' ≤ base) : Owns w b' e v xs := by
  refine ⟨h.1, ?_⟩
  rcases h.2 with hn | ⟨g, cap, cur, hv, hb2, rest⟩
  · exact .inl hn
  · exact .inr ⟨g, cap, cur, hv, by omega, rest⟩
/-- What came in is appended to a row of the call's own. -/
theorem app_row {w : World} {base : Nat} {v : Value} {xs : List Value} (h : Owns w base 5 v xs) {a : Option Addr} {len cap c : Nat} {ys : List Int} (hy : IsRow .u8 w a len cap ys) (ha : a = none → c = 0) (hl : xs.length + len ≤ 10000000) (hb : base ≤ w.heap.size) (ty : TypeId) :
    ∃ v' w', (Builtin.append_ #[22, 22] ty #[v, .slice a len c]).run Tryd.prog w = .ok v' w' ∧ Owns w' base 5 v' (xs ++ bv ys) ∧ w.grownBy w' v.ownBlock := by
  obtain ⟨i0, hi, hz0, hz1, hz2⟩ := info_parts infoU8
  rcases Nat.eq_zero_or_pos len with h0 | h0
  · have hz : ys = [] := List.eq_nil_of_length_eq_zero (by have := hy.1; omega)
    subst hz
    subst h0
    have hS : Src Tryd.prog i0.size 22 (.slice a 0 c) 0 [] w := by
      cases a with
      | none => exact Src.ofNil w Tryd.underlying22 c
      | some ad => exact Src.ofSlice w Tryd.underlying22 ad 0 c [] (by simp) (fun j u hj => by simp at hj) (by simp)
    have hv : ∃ A n cp, v = .slice A n cp ∧ n ≤ cp := by
      rcases h.form with ⟨hv, _⟩ | ⟨g, cp, cur, hv, _, hn, _⟩
      · exact ⟨_, _, _, hv, by omega⟩
      · exact ⟨_, _, _, hv, hn⟩
    obtain ⟨A, n, cp, rfl, hle⟩ := hv
    refine ⟨_, _, run_append_nothing w 22 22 ty 5 i0 Tryd.underlying22 hi A n cp hle _ hS, by simpa [bv] using h, ⟨rfl, rfl, rfl, Nat.le_refl _, fun _ _ _ => rfl⟩⟩
  · rcases hy.2.2.2.2 with hx | ⟨g, o, rfl, hc⟩
    · omega
    · obtain ⟨v', w', h1, h2, h3, _⟩ := run_append_own_at (P := Tryd.prog) w base 22 ty 5 i0 _ 1 1 Tryd.underlying22 hi hz0 hz1 hz2 rfl (by decide) v xs.length xs h ⟨g, o, none⟩ len c (bv ys) (by rw [bv_len, hy.1]; omega)
        (fun j u hj => by
          have hj' : j < ys.length := by have := (List.getElem?_eq_some_iff.1 hj).1; rwa [bv_len] at this
          rw [Go.WideShapes.add_plain, hc j (by have := hy.1; omega), ← hj]
          simp [bv, List.getD, List.getElem?_eq_getElem hj']) (by
          intro u hu
          obtain ⟨z, _, rfl⟩ := List.mem_map.1 hu
          rfl) (by unfold maxLen; omega) (by omega) hb
      refine ⟨v', w', h1, ?_, h3⟩
      unfold Owns
      rw [List.length_append, bv_len, hy.1]
      exact h2
theorem step_append_run {P : Program} {ops : Array Oper} {o : Oper} {a : Act} {w w' : World} {K : Act → World → Prop} {Q : Exit → Act → World → Prop} {E : Prop}
    (hg : o.guard = none) (s x : Operand) (ats : Array TypeId) (hop : o.op = Op.call { callee := Callee.builtin Builtin.append, args := #[s, x], argTypes := ats })
    (v y v' : Value) (hs : a.eval s = v) (hx : a.eval x = y) (hrun : (Builtin.append_ ats o.type #[v, y]).run P w = .ok v' w') (hK : K (a.put o.dst v') w') :
    if Region.wanted o (yielded ops a.tmps) = true then Oper.wp P o a w K Q else E := by
  have hw : Region.wanted o (yielded ops a.tmps) = true := by simp [Region.wanted, hg]
  rw [if_pos hw]
  unfold Oper.wp
  simp [execOp, hop, resolve, invoke, builtin, hs, hx, hrun, Result.andThen]
  exact hK
/-- What is left of a record, when its first k bytes are cut off. -/
theorem IsRow.cut {k : IntKind} {w : World} {g o len cap : Nat} {zs : List Int} (h : IsRow k w (some ⟨g, o, none⟩) len cap zs) {j : Nat} (hj : j ≤ len) (A : Option Addr) (hA : j < len → A = some ⟨g, o + j, none⟩) : IsRow k w A (len - j) (cap - j) (zs.drop j) := by
  obtain ⟨h1, h2, h3, h4, h5⟩ := h
  refine ⟨by rw [List.length_drop]; omega, by omega, by omega, fun z hz => h4 z (List.mem_of_mem_drop hz), ?_⟩
  rcases Nat.lt_or_ge j len with hlt | hge
  · right
    refine ⟨g, o + j, hA hlt, fun i hi => ?_⟩
    rcases h5 with h5 | ⟨g', o', e, hc⟩
    · omega
    · injection e with e
      injection e with e1 e2 _
      subst e1 e2
      rw [show o + j + i = o + (j + i) by omega, hc _ (by omega)]
      simp [List.getD, List.getElem?_drop]
  · left; omega
theorem IsRow.head {k : IntKind} {w : World} {a : Option Addr} {len cap : Nat} {zs : List Int} (h : IsRow k w a len cap zs) {j : Nat} (hj : j ≤ len) : IsRow k w a j cap (zs.take j) := by
  obtain ⟨h1, h2, h3, h4, h5⟩ := h
  refine ⟨by rw [List.length_take]; omega, by omega, h3, fun z hz => h4 z (List.mem_of_mem_take hz), ?_⟩
  rcases h5 with h5 | ⟨g, o, e, hc⟩
  · left; omega
  · right
    refine ⟨g, o, e, fun i hi => ?_⟩
    rw [hc i (by omega)]
    simp [List.getD, hi]

/-- A row of the call's own as a string. -/
theorem Owns.str {w : World} {base : Nat} {e : TypeId} {v : Value} {zs : List Int} (h : Owns w base e v (bv zs)) : (convert 22 9 v).run Tryd.prog w = .ok (.string (strOfNums zs)) w := by
  rcases h.form with ⟨rfl, h0⟩ | ⟨g, cap, cur, rfl, hb, hn, hm, hg, hs, ht⟩
  · have hz : zs = [] := by simpa [bv] using h0
    subst hz
    exact run_convert_bytes_nil w 22 5 Tryd.underlying22 Tryd.underlying5 0 0 9 Tryd.underlying9
  · rw [bv_len] at ht ⊢
    refine run_convert_bytes_arg w 22 5 Tryd.underlying22 Tryd.underlying5 g 0 zs.length cap zs rfl (fun i hi => ?_) 9 Tryd.underlying9
    have h1 : (cur.toList.take zs.length)[i]? = cur[i]? := by rw [List.getElem?_take, if_pos hi]; simp
    rw [Nat.zero_add, cell_of hg i, ← h1, ht]
    simp [bv, List.getD, List.getElem?_eq_getElem hi]

/-- A row of the call's own, its address plain. -/
theorem Owns.row2 {w : World} {base : Nat} {e : TypeId} {v : Value} {zs : List Int} (h : Owns w base e v (bv zs)) (hw : ∀ z ∈ zs, (Lit.int .u8 z).wf = true) : ∃ a cap, v = .slice a zs.length cap ∧ IsRow .u8 w a zs.length cap zs ∧ Plain a cap := by
  obtain ⟨a, cap, hv, hr⟩ := h.row hw
  refine ⟨a, cap, hv, hr, ?_⟩
  rcases h.form with ⟨hv2, _⟩ | ⟨g, c, cur, hv2, _⟩
  · rw [hv] at hv2; injection hv2 with h1 h2 h3; exact .inl ⟨h1, h3⟩
  · rw [hv] at hv2; injection hv2 with h1 h2 h3; exact .inr ⟨g, 0, h1⟩

theorem IsRow.of_trod2 {H : Type} {enc : TypeId × Value → H} {P : Program} {W : World} {t e : TypeId} {k : IntKind} {a : Option Addr} {len cap : Nat} {d : DataW H} {p : List MemPlace}
    (ht : P.underlying t = some (.slice e)) (he : P.underlying e = some (.int k)) (hc : P.cellsOf e = 1)
    (h : DataW.Trod enc P W 0 (fun _ => true) true t (.slice a len cap) d p) : ∃ zs, IsRow k W a len cap zs ∧ (a = none → cap = 0) := by
  obtain ⟨zs, hz⟩ := IsRow.of_trod ht he hc h
  refine ⟨zs, hz, fun e => ?_⟩
  obtain ⟨fuel, hf⟩ := h
  rcases open_ints ht he hc hf with ⟨hcs, _⟩ | ⟨x, l, c, zs, hcs, _⟩
  · simp [Value.cells] at hcs
    exact hcs.2.2
  · simp [Value.cells] at hcs
    rw [e] at hcs
    cases hcs.1
theorem str_app (a b : List Int) : strOfNums a ++ strOfNums b = strOfNums (a ++ b) := by
  unfold strOfNums
  apply ByteArray.ext
  simp
theorem str_size (a : List Int) : (strOfNums a).size = a.length := by simp [strOfNums, ByteArray.size]
end Go.Proofs.YtcnbgcoklbmdaaaDoor
