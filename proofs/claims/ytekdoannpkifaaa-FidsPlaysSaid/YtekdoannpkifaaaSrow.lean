/- Rows of the call's own whose elements are structs: plain lemmas, over any program. No conditions. -/
import Derived.Test.YtekdoannpkifaaaBase
import Derived.Maps.AppendAt
import Derived.Deep.Upon
import Derived.Deep.MidRow
namespace Go.Proofs.Ytekdoannpkifaaa
open Go.ChangeShapes Go.WideShapes Go.ChangeAt Go.RowKit

theorem ownsRow_ext {w w' : World} {base : Nat} {e : TypeId} {s : Nat} {v : Value} {n : Nat} {xs : List Value} (h : w.ownsRow base e s v n xs) (hx : Ext w w') : w'.ownsRow base e s v n xs := by
  refine ⟨h.1, ?_⟩
  rcases h.2 with hn | ⟨g, cap, cur, hv, hb, hg, rest⟩
  · exact .inl hn
  · exact .inr ⟨g, cap, cur, hv, hb, hx.heap hg, rest⟩
theorem ownsRow_upd {S : List Nat} {w w' : World} {base : Nat} {e : TypeId} {s : Nat} {v : Value} {n : Nat} {xs : List Value} (h : w.ownsRow base e s v n xs) (hx : Upd S w w') (hs : ∀ g, v.ownBlock = some g → g ∉ S) : w'.ownsRow base e s v n xs := by
  refine ⟨h.1, ?_⟩
  rcases h.2 with hn | ⟨g, cap, cur, hv, hb, hg, rest⟩
  · exact .inl hn
  · exact .inr ⟨g, cap, cur, hv, hb, hx.heap hg (hs g (by rw [hv]; rfl)), rest⟩
theorem ownsRow_ne {w : World} {base : Nat} {e t : TypeId} {s : Nat} {v : Value} {n : Nat} {xs : List Value} {g : Nat} {cs : Array Value} {q : Nat × Nat} (h : w.ownsRow base e s v n xs) (hg : w.heap[g]? = some (.cells cs t q)) (ht : t ≠ e) : v.ownBlock ≠ some g := by
  intro e1
  rcases h.2 with ⟨rfl, _⟩ | ⟨g', cap, cur, rfl, hb, hg', _⟩
  · simp [Value.ownBlock] at e1
  · simp [Value.ownBlock] at e1
    subst e1
    rw [hg] at hg'
    injection hg' with h1
    injection h1 with _ h2 _
    exact ht h2
theorem ownsRow_apart {w : World} {b1 b2 : Nat} {e1 e2 : TypeId} {s1 s2 : Nat} {v1 v2 : Value} {n1 n2 : Nat} {x1 x2 : List Value} (h1 : w.ownsRow b1 e1 s1 v1 n1 x1) (h2 : w.ownsRow b2 e2 s2 v2 n2 x2) (he : e1 ≠ e2) : ∀ g, v1.ownBlock = some g → v2.ownBlock ≠ some g := by
  intro g hg
  rcases h1.2 with ⟨rfl, _⟩ | ⟨g', cap, cur, rfl, hb, hg', _⟩
  · simp [Value.ownBlock] at hg
  · simp [Value.ownBlock] at hg
    subst hg
    exact ownsRow_ne h2 hg' he
theorem ownsRow_mono {w : World} {b1 b2 : Nat} {e : TypeId} {s : Nat} {v : Value} {n : Nat} {xs : List Value} (h : w.ownsRow b2 e s v n xs) (hb : b1 ≤ b2) : w.ownsRow b1 e s v n xs := by
  refine ⟨h.1, ?_⟩
  rcases h.2 with hn | ⟨g, cap, cur, hv, hb', rest⟩
  · exact .inl hn
  · exact .inr ⟨g, cap, cur, hv, by omega, rest⟩
theorem grown_upd {w w' : World} {row : Option Nat} (h : w.grownBy w' row) : Upd row.toList w w' :=
  ⟨h.os, h.tape, h.output, h.size, fun k hk hs => h.block k hk (fun e => hs (by rw [← e]; simp))⟩
theorem upd_nil_ext {w w' : World} (h : Upd [] w w') : Ext w w' := ⟨h.os, h.tape, h.output, h.size, fun k hk => h.block k hk (by simp)⟩

/-- The slice value x yields m elements, whose cells are ys. -/
def SrcRow (w : World) (size : Nat) (x : Value) (m : Nat) (ys : List Value) : Prop :=
  ys.length = m * size ∧ (∀ u ∈ ys, u.oneCell' = true) ∧ ((∃ c, x = .slice none 0 c ∧ m = 0) ∨ ∃ g o c, x = .slice (some ⟨g, o, none⟩) m c ∧ ∀ j u, ys[j]? = some u → w.cell? ⟨g, o + j, none⟩ = some u)
theorem add_off (g o j : Nat) : (⟨g, o, none⟩ : Addr).add j = ⟨g, o + j, none⟩ := by unfold Addr.add; split <;> simp_all
theorem own_src {w : World} {base : Nat} {e : TypeId} {s : Nat} {v : Value} {n : Nat} {xs : List Value} (h : w.ownsRow base e s v n xs) (h1 : ∀ u ∈ xs, u.oneCell' = true) : SrcRow w s v n xs := by
  refine ⟨h.1, h1, ?_⟩
  rcases h.2 with ⟨rfl, h0⟩ | ⟨g, cap, cur, hv, hb, hg, _⟩
  · exact .inl ⟨0, rfl, h0⟩
  · refine .inr ⟨g, 0, cap, hv, fun j u hj => ?_⟩
    rw [← add_off]
    exact World.ownsRow.cells h (by rw [hv]; rfl) j u hj
theorem src_new (w : World) (size : Nat) (cs : Array Value) (e : TypeId) (hs : cs.size = size) (h1 : ∀ u ∈ cs.toList, u.oneCell' = true) : SrcRow (w.alloc (.cells cs e)) size (.slice (some ⟨w.heap.size, 0, none⟩) 1 1) 1 cs.toList := by
  refine ⟨by simp [hs], h1, .inr ⟨w.heap.size, 0, 1, rfl, fun j u hj => ?_⟩⟩
  rw [Nat.zero_add, cell_of (heap_alloc_new w _) j]
  simpa using hj
theorem SrcRow.ext {w w' : World} {size : Nat} {x : Value} {m : Nat} {ys : List Value} (h : SrcRow w size x m ys) (hx : Ext w w') : SrcRow w' size x m ys := by
  refine ⟨h.1, h.2.1, ?_⟩
  rcases h.2.2 with h3 | ⟨g, o, c, hv, hc⟩
  · exact .inl h3
  · exact .inr ⟨g, o, c, hv, fun j u hj => hx.cell (hc j u hj)⟩
/-- 'append(v, x...)' of a row of the call's own. -/
theorem own_append {P : Program} {w : World} {base : Nat} {t ty e : TypeId} {z : Value} {size bytes : Nat} (ht : P.underlying t = some (.slice e)) (hinfo : (P.info? e).map (fun i => (i.zero, i.size, i.bytes)) = some (some z, size, bytes)) (hzs : z.cells.size = size) (hsz : 0 < size)
    {v : Value} {n : Nat} {xs : List Value} (hown : w.ownsRow base e size v n xs) {x : Value} {m : Nat} {ys : List Value} (hx : SrcRow w size x m ys) (h63 : n + m ≤ maxLen) (hbytes : (n + m) * bytes ≤ 140737488355328) (hbase : base ≤ w.heap.size) :
    ∃ v' w', (Builtin.append_ #[t, t] ty #[v, x]).run P w = .ok v' w' ∧ w'.ownsRow base e size v' (n + m) (xs ++ ys) ∧ Upd v.ownBlock.toList w w' ∧ (v'.ownBlock = v.ownBlock ∨ v'.ownBlock = some w.heap.size) := by
  obtain ⟨i, hi, hz0, hz1, hz2⟩ := info_parts hinfo
  obtain ⟨hl, h1, hx⟩ := hx
  rcases hx with ⟨c, rfl, rfl⟩ | ⟨g, o, c, rfl, hc⟩
  · have hy : ys = [] := List.eq_nil_of_length_eq_zero (by simpa using hl)
    subst hy
    refine ⟨v, w, ?_, by simpa using hown, Upd.refl _ _, .inl rfl⟩
    rcases hown.2 with ⟨rfl, _⟩ | ⟨g, cap, cur, rfl, _, _, hn, _⟩
    · exact run_append_nothing w t t ty e i ht hi none 0 0 (by omega) _ (Src.ofNil w ht c)
    · exact run_append_nothing w t t ty e i ht hi _ _ _ hn _ (Src.ofNil w ht c)
  · obtain ⟨v', w', hrun, ho, hg, _, hb⟩ := run_append_own_at (P := P) w base t ty e i z size bytes ht hi hz0 hz1 hz2 hzs hsz v n xs hown ⟨g, o, none⟩ m c ys hl (fun j u hj => by rw [add_off]; exact hc j u hj) h1 h63 hbytes hbase
    exact ⟨v', w', hrun, ho, grown_upd hg, hb⟩
/-- A store into a row of the call's own. -/
theorem own_store {w : World} {base : Nat} {e : TypeId} {size : Nat} {g cap n : Nat} {xs : List Value} (h : w.ownsRow base e size (.slice (some ⟨g, 0, none⟩) n cap) n xs) (j : Nat) (u : Value) : (w.setCell ⟨g, j, none⟩ u).ownsRow base e size (.slice (some ⟨g, 0, none⟩) n cap) n (xs.set j u) := by
  refine ⟨by simp [h.1], .inr ?_⟩
  rcases h.2 with ⟨h0, _⟩ | ⟨g', cap', cur, hv, hb, hg, hn, hm, hs, ht⟩
  · cases h0
  · injection hv with e1 _ e2
    injection e1 with e1
    injection e1 with e1
    subst e1 e2
    refine ⟨g, cap, cur.setIfInBounds j u, rfl, hb, heap_setCell_same w g j _ _ u hg, hn, hm, by simp [hs], ?_⟩
    rw [Array.toList_setIfInBounds, List.take_set, ht]
section
variable {P : Program} {w w' : World} {ops : Array Oper} {rest : List Oper} {o : Oper} {a : Act} {Q : Exit → Act → World → Prop}
theorem wpList_store_run (hgd : o.guard = none) (t : TypeId) (x y : Operand) (ho : o.op = .store t x y) (xv yv : Value) (hx : a.eval x = xv) (hy : a.eval y = yv)
    (hrun : (Instr.storeAt t xv yv).run P w = .ok () w') (h : wpList P ops Q rest (a.put o.dst undef) w') : wpList P ops Q (o :: rest) a w := by
  refine wpList_plain hgd fun K hK => ?_
  unfold Oper.wp execOp
  simp only [ho, Sem.run_bind, Sem.run_pure, Result.andThen_ok, hx, hy, hrun]
  exact hK _ _ h
end
/-- A store of a whole element into a row of the call's own. -/
theorem own_put {P : Program} {w : World} {base : Nat} {e : TypeId} {size g cap n : Nat} {xs : List Value} (h : w.ownsRow base e size (.slice (some ⟨g, 0, none⟩) n cap) n xs) (k : Nat) (hk : k < n) (cs : Array Value) (hc : cs.size = size) (hi : (P.info? e).map (·.size) = some size) (h1 : cs.all (·.oneCell') = true) :
    (Instr.storeAt e (.pointer (some ⟨g, k * size, none⟩)) (.agg cs)).run P w = .ok () (w.setCells g (k * size) cs.toList) := by
  refine run_storeAt_mid w g (k * size) e cs (fun j hj => ?_) (by rw [hc]; exact hi) h1
  rcases h.2 with ⟨h0, _⟩ | ⟨g', cap', cur, hv, hb, hg, hn, hm, hs, ht⟩
  · cases h0
  · injection hv with e1 _ e2
    injection e1 with e1
    injection e1 with e1
    subst e1 e2
    refine ⟨?_, free_of hg _⟩
    rw [cell_of hg]
    have : k * size + j < cur.size := by
      rw [hs]
      have h3 : (k + 1) * size ≤ cap * size := Nat.mul_le_mul_right _ (by omega)
      have h4 : (k + 1) * size = k * size + size := by rw [Nat.add_mul, Nat.one_mul]
      omega
    rw [Array.getElem?_eq_getElem this]
    rfl
section
variable {P : Program} {w w' : World} {ops : Array Oper} {rest : List Oper} {o : Oper} {a : Act} {Q : Exit → Act → World → Prop}
theorem wpList_slice_run (hgd : o.guard = none) (t : TypeId) (x : Operand) (lo hi : Option Operand) (ho : o.op = .slice t x lo hi none) (xv : Value) (lv hv : Option Value) (hx : a.eval x = xv) (hl : lo.map a.eval = lv) (hh : hi.map a.eval = hv) (v' : Value)
    (hrun : (Instr.sliceAt t xv lv hv none).run P w = .ok v' w') (h : wpList P ops Q rest (a.put o.dst v') w') : wpList P ops Q (o :: rest) a w := by
  refine wpList_plain hgd fun K hK => ?_
  unfold Oper.wp execOp
  simp only [ho, Sem.run_bind, Sem.run_pure, Result.andThen_ok, hx, hl, hh, Option.map_none, hrun]
  exact hK _ _ h
end
/-- 'v[:k]' of a row of the call's own. -/
theorem own_head {P : Program} {w : World} {base : Nat} {t e : TypeId} {size n : Nat} {v : Value} {xs : List Value} (h : w.ownsRow base e size v n xs) (h1 : ∀ u ∈ xs, u.oneCell' = true) (ht : P.underlying t = some (.slice e)) (hi : (P.info? e).map (·.size) = some size) (k : Nat) (hk : k ≤ n) :
    ∃ v', (Instr.sliceAt t v none (some (.int .i64 k)) none).run P w = .ok v' w ∧ SrcRow w size v' k (xs.take (k * size)) := by
  have hle : k * size ≤ xs.length := by rw [h.1]; exact Nat.mul_le_mul_right _ hk
  have hlen : (xs.take (k * size)).length = k * size := by rw [List.length_take]; omega
  have hsz : (sizeOf e).run P w = .ok size w := by
    cases hq : P.info? e with
    | none => simp [hq] at hi
    | some i => simp [hq] at hi; simp [sizeOf, typeInfo, hq, hi]
  rcases h.2 with ⟨rfl, h0⟩ | ⟨g, cap, cur, rfl, hb, hg, hn, hm, hs, htk⟩
  · obtain rfl : k = 0 := by omega
    refine ⟨.slice none 0 0, ?_, hlen, fun u hu => h1 u (List.mem_of_mem_take hu), .inl ⟨0, rfl, rfl⟩⟩
    simp [Instr.sliceAt, Instr.slice, Sem.run_bind, run_underlying ht, Instr.sliceBounds, Instr.sliceBound, asIntOf, hsz]
  · refine ⟨.slice (some ⟨g, 0, none⟩) k cap, ?_, hlen, fun u hu => h1 u (List.mem_of_mem_take hu), .inr ⟨g, 0, cap, rfl, fun j u hj => ?_⟩⟩
    · have hkc : k ≤ cap := by omega
      simp [Instr.sliceAt, Instr.slice, Sem.run_bind, run_underlying ht, Instr.sliceBounds, Instr.sliceBound, asIntOf, hsz, hkc, Addr.add]
    · rw [List.getElem?_take] at hj
      split at hj
      · rw [← add_off]; exact World.ownsRow.cells h rfl j u hj
      · cases hj
/-- 'v[k:]' of a row of the call's own. -/
theorem own_tail {P : Program} {w : World} {base : Nat} {t e : TypeId} {size n : Nat} {v : Value} {xs : List Value} (h : w.ownsRow base e size v n xs) (h1 : ∀ u ∈ xs, u.oneCell' = true) (ht : P.underlying t = some (.slice e)) (hi : (P.info? e).map (·.size) = some size) (k : Nat) (hk : k ≤ n) :
    ∃ v', (Instr.sliceAt t v (some (.int .i64 k)) none none).run P w = .ok v' w ∧ SrcRow w size v' (n - k) (xs.drop (k * size)) := by
  have hlen : (xs.drop (k * size)).length = (n - k) * size := by rw [List.length_drop, h.1, Nat.sub_mul]
  have hsz : (sizeOf e).run P w = .ok size w := by
    cases hq : P.info? e with
    | none => simp [hq] at hi
    | some i => simp [hq] at hi; simp [sizeOf, typeInfo, hq, hi]
  rcases h.2 with ⟨rfl, h0⟩ | ⟨g, cap, cur, rfl, hb, hg, hn, hm, hs, htk⟩
  · obtain rfl : k = 0 := by omega
    subst h0
    refine ⟨.slice none 0 0, ?_, hlen, fun u hu => h1 u (List.mem_of_mem_drop hu), .inl ⟨0, rfl, rfl⟩⟩
    simp [Instr.sliceAt, Instr.slice, Sem.run_bind, run_underlying ht, Instr.sliceBounds, Instr.sliceBound, asIntOf, hsz]
  · by_cases hc : cap = k
    · refine ⟨.slice (some ⟨g, 0, none⟩) (n - k) (cap - k), ?_, hlen, fun u hu => h1 u (List.mem_of_mem_drop hu), .inr ⟨g, 0, cap - k, rfl, fun j u hj => ?_⟩⟩
      · simp [Instr.sliceAt, Instr.slice, Sem.run_bind, run_underlying ht, Instr.sliceBounds, Instr.sliceBound, asIntOf, hsz, hk, hc]
      · have : (xs.drop (k * size)).length = 0 := by rw [hlen, show n - k = 0 by omega, Nat.zero_mul]
        rw [List.eq_nil_of_length_eq_zero this] at hj
        simp at hj
    · refine ⟨.slice (some ⟨g, 0 + k * size, none⟩) (n - k) (cap - k), ?_, hlen, fun u hu => h1 u (List.mem_of_mem_drop hu), .inr ⟨g, 0 + k * size, cap - k, rfl, fun j u hj => ?_⟩⟩
      · simp only [Instr.sliceAt, Instr.slice, Sem.run_bind, run_underlying ht, Instr.sliceBounds, Instr.sliceBound, asIntOf, Sem.run_pure, Result.andThen_ok]
        simp [hk, hc, add_off, hsz]
      · rw [List.getElem?_drop] at hj
        have := World.ownsRow.cells h rfl (k * size + j) u hj
        rw [add_off] at this
        rw [Nat.zero_add]
        simpa using this
end Go.Proofs.Ytekdoannpkifaaa
