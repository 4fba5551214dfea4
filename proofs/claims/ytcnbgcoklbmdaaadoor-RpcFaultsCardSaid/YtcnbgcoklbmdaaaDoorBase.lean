/- What the walks of this seat say of the world and of maps: plain lemmas, over any program. No conditions. -/
import Derived.Test.YtcnbgcoklbmdaaaDoorRows
import Derived.WalkKit
import Derived.ProofKit
import Derived.OpenShut
import Derived.Handy
import Derived.Outline
import Derived.WalkSpells
import Derived.WalkLawsBesides
import Derived.Laws.Rows
import Derived.Lib.Hide
import Derived.Deep.RegionHeld3
import Derived.Deep.RegionWith
import Derived.Deep.DeepCutAuto
import Derived.Deep.DeepMust
import Derived.Deep.DeepFit
import Derived.Deep.LoopGhost
import Derived.Deep.QuietTactic
import Derived.BigQuiet
import Derived.OwnWalk
import Derived.Maps.OwnSet
import Derived.Maps.OwnOps
namespace Go.Proofs.YtcnbgcoklbmdaaaDoor
open Go.ChangeShapes Go.WideShapes Go.ChangeAt Go.RowKit

/-! ### the world has grown -/
/-- What was there is as it was. -/
def Ext (w w' : World) : Prop := Below w.heap.size w w'
theorem Ext.refl (w : World) : Ext w w := Below.refl _ _
theorem Ext.trans {a b c : World} (h : Ext a b) (k : Ext b c) : Ext a c := Below.trans h (Below.mono k h.size)
theorem Ext.drew {a b : World} (h : Ext a b) : Ext a b.drew := Below.drew h
theorem Ext.drewN {a b : World} (h : Ext a b) (n : Nat) : Ext a (b.drewN n) := ⟨h.os, h.tape, h.output, h.size, h.block⟩
theorem Ext.alloc {a b : World} (h : Ext a b) (o : Obj) : Ext a (b.alloc o) := Below.alloc h h.size o
theorem Ext.cell {a b : World} (h : Ext a b) {p : Addr} {v : Value} (hp : a.cell? p = some v) : b.cell? p = some v :=
  (Below.cell h (World.block_lt_of_cell? a p hp)).trans hp
theorem lt_of_heap {w : World} {g : Nat} {o : Obj} (h : w.heap[g]? = some o) : g < w.heap.size := (Array.getElem?_eq_some_iff.1 h).1
theorem Ext.heap {a b : World} (h : Ext a b) {g : Nat} {o : Obj} (hp : a.heap[g]? = some o) : b.heap[g]? = some o :=
  (h.block g (lt_of_heap hp)).trans hp

/-- Only the blocks of S, of those that were there, may have turned. -/
structure Upd (S : List Nat) (w w' : World) : Prop where
  os : w'.os = w.os
  tape : w'.tape = w.tape
  output : w'.output = w.output
  size : w.heap.size ≤ w'.heap.size
  block : ∀ k, k < w.heap.size → k ∉ S → w'.heap[k]? = w.heap[k]?
theorem Upd.refl (S : List Nat) (w : World) : Upd S w w := ⟨rfl, rfl, rfl, Nat.le_refl _, fun _ _ _ => rfl⟩
theorem Upd.trans {S : List Nat} {a b c : World} (h : Upd S a b) (k : Upd S b c) : Upd S a c :=
  ⟨k.os.trans h.os, k.tape.trans h.tape, k.output.trans h.output, Nat.le_trans h.size k.size, fun i hi hs => (k.block i (Nat.lt_of_lt_of_le hi h.size) hs).trans (h.block i hi hs)⟩
theorem Ext.upd {a b : World} (h : Ext a b) (S : List Nat) : Upd S a b := ⟨h.os, h.tape, h.output, h.size, fun k hk _ => h.block k hk⟩
theorem Upd.mono {S T : List Nat} {a b : World} (h : Upd S a b) (hs : ∀ k ∈ S, k ∈ T) : Upd T a b := ⟨h.os, h.tape, h.output, h.size, fun k hk hn => h.block k hk (fun hm => hn (hs k hm))⟩
theorem Upd.heap {S : List Nat} {a b : World} (h : Upd S a b) {g : Nat} {o : Obj} (hp : a.heap[g]? = some o) (hg : g ∉ S) : b.heap[g]? = some o :=
  (h.block g (lt_of_heap hp) hg).trans hp
theorem Upd.cell {S : List Nat} {a b : World} (h : Upd S a b) {p : Addr} {v : Value} (hp : a.cell? p = some v) (hg : p.block ∉ S) : b.cell? p = some v :=
  (World.cell?_of_block (w := a) (h.block p.block (World.block_lt_of_cell? a p hp) hg)).trans hp
/-- Seen from a world in which none of S was: it has grown. -/
theorem Upd.ext {S : List Nat} {o a b : World} (h : Upd S a b) (k : Ext o a) (hs : ∀ g ∈ S, o.heap.size ≤ g) : Ext o b :=
  ⟨h.os.trans k.os, h.tape.trans k.tape, h.output.trans k.output, Nat.le_trans k.size h.size,
   fun i hi => (h.block i (Nat.lt_of_lt_of_le hi k.size) (fun hm => by have := hs i hm; omega)).trans (k.block i hi)⟩
theorem Upd.drew {S : List Nat} {a b : World} (h : Upd S a b) : Upd S a b.drew := ⟨h.os, h.tape, h.output, h.size, h.block⟩
theorem Upd.alloc {S : List Nat} {a b : World} (h : Upd S a b) (o : Obj) : Upd S a (b.alloc o) := h.trans (((Ext.refl b).alloc o).upd S)
theorem Upd.setCell {S : List Nat} {a b : World} (h : Upd S a b) (p : Addr) (v : Value) (hp : p.block ∈ S ∨ a.heap.size ≤ p.block) : Upd S a (b.setCell p v) :=
  ⟨h.os, h.tape, h.output, by have := h.size; simp [World.setCell]; omega, fun k hk hs => (Below.heap_setCell b p v k (fun e => by subst e; rcases hp with hp | hp; exact hs hp; omega)).trans (h.block k hk hs)⟩

/-! ### blocks that are known whole -/
theorem cell_of {w : World} {g : Nat} {cs : Array Value} {t : TypeId} (h : w.heap[g]? = some (.cells cs t (0, 0))) (i : Nat) : w.cell? ⟨g, i, none⟩ = cs[i]? := by simp [World.cell?, h]
theorem free_of {w : World} {g : Nat} {cs : Array Value} {t : TypeId} (h : w.heap[g]? = some (.cells cs t (0, 0))) (i : Nat) : w.frozen? ⟨g, i, none⟩ = false := by simp [World.frozen?, h]
theorem blk2 {w : World} {g : Nat} {a b : Value} {t : TypeId} (h : w.heap[g]? = some (.cells #[a, b] t (0, 0))) :
    w.cell? ⟨g, 0, none⟩ = some a ∧ w.cell? ⟨g, 1, none⟩ = some b ∧ w.frozen? ⟨g, 0, none⟩ = false ∧ w.frozen? ⟨g, 1, none⟩ = false :=
  ⟨cell_of h 0, cell_of h 1, free_of h 0, free_of h 1⟩
theorem blk3 {w : World} {g : Nat} {a b c : Value} {t : TypeId} (h : w.heap[g]? = some (.cells #[a, b, c] t (0, 0))) :
    w.cell? ⟨g, 0, none⟩ = some a ∧ w.cell? ⟨g, 1, none⟩ = some b ∧ w.cell? ⟨g, 2, none⟩ = some c ∧ w.frozen? ⟨g, 0, none⟩ = false ∧ w.frozen? ⟨g, 1, none⟩ = false ∧ w.frozen? ⟨g, 2, none⟩ = false :=
  ⟨cell_of h 0, cell_of h 1, cell_of h 2, free_of h 0, free_of h 1, free_of h 2⟩

/-! ### maps with integer keys, as lists of pairs -/
def look : List (Int × Value) → Int → Option Value
  | [], _ => none
  | p :: l, k => if p.1 = k then some p.2 else look l k
def del : List (Int × Value) → Int → List (Int × Value)
  | [], _ => []
  | p :: l, k => if p.1 = k then l else p :: del l k
def put : List (Int × Value) → Int → Value → List (Int × Value)
  | [], k, v => [(k, v)]
  | p :: l, k, v => if p.1 = k then (k, v) :: l else p :: put l k v

/-- Block b is a map whose entries are l, in their row. -/
def MapIs (w : World) (b : Nat) (q : IntKind) (l : List (Int × Value)) : Prop :=
  ∃ es clock, w.heap[b]? = some (.map es clock) ∧ es.toList.map (fun e => (e.key, e.val)) = l.map (fun p => (Value.int q p.1, p.2)) ∧
    (es.toList.map (·.born)).Nodup ∧ ∀ e ∈ es.toList, e.born < clock
theorem MapIs.of_heap {w w' : World} {b : Nat} {q : IntKind} {l : List (Int × Value)} (h : MapIs w b q l) (hb : w'.heap[b]? = w.heap[b]?) : MapIs w' b q l := by
  obtain ⟨es, clock, h1, h2⟩ := h
  exact ⟨es, clock, hb.trans h1, h2⟩
theorem MapIs.lt {w : World} {b : Nat} {q : IntKind} {l : List (Int × Value)} (h : MapIs w b q l) : b < w.heap.size := by
  obtain ⟨es, clock, h1, _⟩ := h
  exact lt_of_heap h1
theorem MapIs.ext {w w' : World} {b : Nat} {q : IntKind} {l : List (Int × Value)} (h : MapIs w b q l) (k : Ext w w') : MapIs w' b q l := h.of_heap (k.block b h.lt)
theorem MapIs.upd {S : List Nat} {w w' : World} {b : Nat} {q : IntKind} {l : List (Int × Value)} (h : MapIs w b q l) (k : Upd S w w') (hb : b ∉ S) : MapIs w' b q l := h.of_heap (k.block b h.lt hb)
theorem MapIs.new (w : World) (q : IntKind) : MapIs (w.alloc (.map #[] 0)) w.heap.size q [] := ⟨#[], 0, heap_alloc_new w _, rfl, by simp, by simp⟩

def seek : List (Int × Value) → Int → Nat → Option (Nat × Value)
  | [], _, _ => none
  | p :: l, k, i => if p.1 = k then some (i, p.2) else seek l k (i + 1)
theorem findNow_seek (q : IntKind) (k : Int) : ∀ (es : List MapEntry) (l : List (Int × Value)) (i : Nat), es.map (fun e => (e.key, e.val)) = l.map (fun p => (Value.int q p.1, p.2)) →
    Instr.findNow (.int q) (.int q k) es i = some (seek l k i)
  | [], [], i, _ => rfl
  | [], p :: l, i, h => by simp at h
  | e :: es, [], i, h => by simp at h
  | e :: es, p :: l, i, h => by
    simp only [List.map_cons, List.cons.injEq, Prod.mk.injEq] at h
    obtain ⟨⟨h1, h2⟩, h3⟩ := h
    have ih := findNow_seek q k es l (i + 1) h3
    unfold Instr.findNow seek
    rw [h1]
    by_cases hk : p.1 = k
    · rw [if_pos hk]; simp [Instr.sameNow, hk, h2]
    · have hk' : (k == p.1) = false := by simp; exact fun e => hk e.symm
      rw [if_neg hk]; simp [Instr.sameNow, hk', ih]
theorem seek_some {k : Int} : ∀ (l : List (Int × Value)) (i j : Nat) (v : Value), seek l k i = some (j, v) →
    ∃ m, j = i + m ∧ m < l.length ∧ look l k = some v ∧ l.eraseIdx m = del l k ∧ (∀ u, l.modify m (fun _ => (k, u)) = put l k u) ∧ (∃ u, l[m]? = some (k, u))
  | [], i, j, v, h => by simp [seek] at h
  | p :: l, i, j, v, h => by
    unfold seek at h
    by_cases hk : p.1 = k
    · rw [if_pos hk] at h
      simp at h
      obtain ⟨rfl, rfl⟩ := h
      exact ⟨0, rfl, by simp, by simp [look, hk], by simp [del, hk], fun u => by simp [put, hk], p.2, by rw [← hk]; rfl⟩
    · rw [if_neg hk] at h
      obtain ⟨m, h1, h2, h3, h4, h5, u, h6⟩ := seek_some l (i + 1) j v h
      exact ⟨m + 1, by omega, by simp; omega, by simp [look, hk, h3], by simp [del, hk, h4], fun u => by simp [put, hk, h5 u], u, by simpa using h6⟩
theorem seek_none {k : Int} : ∀ (l : List (Int × Value)) (i : Nat), seek l k i = none → look l k = none ∧ del l k = l ∧ ∀ u, put l k u = l ++ [(k, u)]
  | [], i, _ => ⟨rfl, rfl, fun _ => rfl⟩
  | p :: l, i, h => by
    unfold seek at h
    by_cases hk : p.1 = k
    · rw [if_pos hk] at h; cases h
    · rw [if_neg hk] at h
      obtain ⟨h1, h2, h3⟩ := seek_none l (i + 1) h
      exact ⟨by simp [look, hk, h1], by simp [del, hk, h2], fun u => by simp [put, hk, h3 u]⟩

section
variable {P : Program} {w : World} {b : Nat} {q : IntKind} {l : List (Int × Value)} {T K E : TypeId}
theorem run_checkKey (hK : P.underlying K = some (.int q)) (em : Bool) (k : Int) (w : World) : (Instr.checkKey em 10000 K (.int q k)).run P w = .ok () w := by
  unfold Instr.checkKey
  simp [Sem.run_bind, run_underlying hK]
theorem run_findKey_seek (hK : P.underlying K = some (.int q)) {es : List MapEntry} (h : es.map (fun e => (e.key, e.val)) = l.map (fun p => (Value.int q p.1, p.2))) (k : Int) (w : World) :
    (Instr.findKey K (.int q k) es).run P w = .ok (seek l k 0) w := by
  unfold Instr.findKey
  simp [Sem.run_bind, run_underlying hK, findNow_seek q k es l 0 h]
/-- 'v, ok := m[k]' and 'm[k]'. -/
theorem MapIs.lookup (h : MapIs w b q l) (hT : P.underlying T = some (.map K E)) (hK : P.underlying K = some (.int q)) {z : Value} (hz : (zeroValue E).run P w = .ok z w) (k : Int) :
    (Instr.lookup T (.map (some b)) (.int q k) true).run P w = .ok (.tuple #[(look l k).getD z, .bool (look l k).isSome]) w := by
  obtain ⟨es, clock, hb, he, _⟩ := h
  unfold Instr.lookup
  cases hs : seek l k 0 with
  | none =>
    have hl := (seek_none l 0 hs).1
    simp [Sem.run_bind, run_underlying hT, getObj, Sem.run, hb, run_checkKey hK, run_findKey_seek hK he, hs, hz, hl]
  | some r =>
    obtain ⟨j, v⟩ := r
    obtain ⟨_, _, _, hl, _⟩ := seek_some l 0 j v hs
    simp [Sem.run_bind, run_underlying hT, getObj, Sem.run, hb, run_checkKey hK, run_findKey_seek hK he, hs, hl]
theorem MapIs.len (h : MapIs w b q l) (hT : P.underlying T = some (.map K E)) (ty : TypeId) : (Builtin.len_ #[T] ty #[.map (some b)]).run P w = .ok (.int .i64 l.length) w := by
  obtain ⟨es, clock, hb, he, _⟩ := h
  have hl : es.size = l.length := by have := congrArg List.length he; simpa using this
  unfold Builtin.len_
  simp [Sem.run_bind, run_underlying hT, getObj, Sem.run, hb, goInt, hl]
theorem setObj_upd (w : World) (b : Nat) (o : Obj) : Upd [b] w { w with heap := w.heap.setIfInBounds b o } :=
  ⟨rfl, rfl, rfl, by simp, fun k _ hs => by
    have : b ≠ k := fun e => hs (by simp [e])
    simp [this]⟩
theorem setObj_at {w : World} {b : Nat} (o : Obj) (hb : b < w.heap.size) : ({ w with heap := w.heap.setIfInBounds b o } : World).heap[b]? = some o := by
  simp [hb]
/-- 'm[k] = v'. -/
theorem MapIs.update (h : MapIs w b q l) (hT : P.underlying T = some (.map K E)) (hK : P.underlying K = some (.int q)) (k : Int) (v : Value) :
    ∃ w', (Instr.mapUpdate T (.map (some b)) (.int q k) v).run P w = .ok () w' ∧ MapIs w' b q (put l k v) ∧ Upd [b] w w' := by
  have hlt := h.lt
  obtain ⟨es, clock, hb, he, hn, hc⟩ := h
  unfold Instr.mapUpdate
  cases hs : seek l k 0 with
  | none =>
    have hl := (seek_none l 0 hs).2.2 v
    refine ⟨{ w with heap := w.heap.setIfInBounds b (.map (es.push { key := .int q k, val := v, born := clock }) (clock + 1)) }, ?_, ⟨_, _, setObj_at _ hlt, ?_, ?_, ?_⟩, setObj_upd w b _⟩
    · simp [Sem.run_bind, run_underlying hT, getObj, setObj, Sem.run, hb, run_checkKey hK, run_findKey_seek hK he, hs]
    · rw [hl]; simp [he]
    · simp only [Array.toList_push, List.map_append, List.map_cons, List.map_nil]
      rw [List.nodup_append]
      refine ⟨hn, by simp, ?_⟩
      intro x hx y hy
      simp only [List.mem_singleton] at hy
      subst hy
      simp only [List.mem_map] at hx
      obtain ⟨e, hm, rfl⟩ := hx
      have := hc e hm
      omega
    · intro e hm
      simp only [Array.toList_push, List.mem_append, List.mem_singleton] at hm
      rcases hm with hm | rfl
      · have := hc e hm; omega
      · simp
  | some r =>
    obtain ⟨j, v0⟩ := r
    obtain ⟨m, hj, hm, _, _, hp, u, hu⟩ := seek_some l 0 j v0 hs
    obtain rfl : j = m := by omega
    have hkey : (es[j]?).map (·.key) = some (.int q k) := by
      have h1 := congrArg (·[j]?) he
      simp only [List.getElem?_map, hu, Option.map_some] at h1
      rw [Option.map_eq_some_iff] at h1
      obtain ⟨e, h2, h3⟩ := h1
      have h4 : es[j]? = some e := by simpa using h2
      rw [h4]
      simp only [Prod.mk.injEq] at h3
      simp [h3.1]
    refine ⟨{ w with heap := w.heap.setIfInBounds b (.map (es.modify j fun e => { e with key := .int q k, val := v }) clock) }, ?_, ⟨_, _, setObj_at _ hlt, ?_, ?_, ?_⟩, setObj_upd w b _⟩
    · have hsb : ∀ n, Instr.sameBits n (.int q k) (.int q k) = true := by intro n; cases n <;> simp [Instr.sameBits]
      simp only [Sem.run_bind, run_underlying hT, getObj, setObj, Sem.run, hb, run_checkKey hK, run_findKey_seek hK he, hs, Result.andThen_ok, hkey, Option.getD_some, Instr.keyThatStays, hsb, if_true, Sem.run_pure]
    · rw [← hp v]
      have hmod : (es.modify j fun e => { e with key := .int q k, val := v }).toList = es.toList.modify j fun e => { e with key := .int q k, val := v } := by simp
      rw [hmod]
      apply List.ext_getElem?
      intro i
      simp only [List.getElem?_map, List.getElem?_modify]
      have h1 := congrArg (·[i]?) he
      simp only [List.getElem?_map] at h1
      by_cases hij : j = i
      · subst hij
        rw [hu] at h1 ⊢
        simp only [Option.map_some] at h1
        rw [Option.map_eq_some_iff] at h1
        obtain ⟨e, h2, _⟩ := h1
        simp [h2]
      · simp only [if_neg hij]
        simpa using h1
    · have hmod : (es.modify j fun e => { e with key := .int q k, val := v }).toList = es.toList.modify j fun e => { e with key := .int q k, val := v } := by simp
      have : ((es.toList.modify j fun e => { e with key := .int q k, val := v }).map (·.born)) = es.toList.map (·.born) := by
        apply List.ext_getElem?
        intro i
        simp only [List.getElem?_map, List.getElem?_modify]
        by_cases hij : j = i
        · subst hij; simp [Function.comp_def]
        · simp [hij]
      rw [hmod, this]; exact hn
    · intro e hm2
      have hmod : (es.modify j fun e => { e with key := .int q k, val := v }).toList = es.toList.modify j fun e => { e with key := .int q k, val := v } := by simp
      rw [hmod] at hm2
      obtain ⟨i, hi⟩ := List.getElem?_of_mem hm2
      rw [List.getElem?_modify] at hi
      simp only [Option.map_eq_map, Option.map_eq_some_iff] at hi
      obtain ⟨e0, h0, h1⟩ := hi
      have := hc e0 (List.mem_of_getElem? h0)
      rw [← h1]
      split <;> simpa using this
theorem map_erase {α β : Type} (f : α → β) : ∀ (l : List α) (i : Nat), (l.eraseIdx i).map f = (l.map f).eraseIdx i
  | [], _ => by simp
  | _ :: _, 0 => by simp
  | x :: l, i + 1 => by simp [map_erase f l i]
/-- 'delete(m, k)'. -/
theorem MapIs.delete (h : MapIs w b q l) (hT : P.underlying T = some (.map K E)) (hK : P.underlying K = some (.int q)) (k : Int) (ty : TypeId) :
    ∃ w', (Builtin.delete_ #[T, K] ty #[.map (some b), .int q k]).run P w = .ok (.tuple #[]) w' ∧ MapIs w' b q (del l k) ∧ Upd [b] w w' := by
  have hlt := h.lt
  obtain ⟨es, clock, hb, he, hn, hc⟩ := h
  unfold Builtin.delete_
  cases hs : seek l k 0 with
  | none =>
    have hl := (seek_none l 0 hs).2.1
    refine ⟨{ w with heap := w.heap.setIfInBounds b (.map es clock) }, ?_, ⟨_, _, setObj_at _ hlt, by rw [hl]; exact he, hn, hc⟩, setObj_upd w b _⟩
    simp [Sem.run_bind, run_underlying hT, getObj, setObj, Sem.run, hb, run_checkKey hK, run_findKey_seek hK he, hs]
  | some r =>
    obtain ⟨j, v0⟩ := r
    obtain ⟨m, hj, hm, _, hd, _⟩ := seek_some l 0 j v0 hs
    obtain rfl : j = m := by omega
    have hsub : (es.eraseIdxIfInBounds j).toList = es.toList.eraseIdx j := by
      unfold Array.eraseIdxIfInBounds
      split
      · simp
      · rename_i hge
        rw [List.eraseIdx_of_length_le]
        simp at hge ⊢
        omega
    refine ⟨{ w with heap := w.heap.setIfInBounds b (.map (es.eraseIdxIfInBounds j) clock) }, ?_, ⟨_, _, setObj_at _ hlt, ?_, ?_, ?_⟩, setObj_upd w b _⟩
    · simp [Sem.run_bind, run_underlying hT, getObj, setObj, Sem.run, hb, run_checkKey hK, run_findKey_seek hK he, hs]
    · rw [hsub, ← hd, map_erase, he, map_erase]
    · rw [hsub, map_erase]
      exact hn.sublist (List.eraseIdx_sublist _ _)
    · intro e hm2
      rw [hsub] at hm2
      exact hc e (List.mem_of_mem_eraseIdx hm2)
end

/-! ### operations whose run is known -/
section
variable {P : Program} {w w' : World} {ops : Array Oper} {rest : List Oper} {o : Oper} {a : Act} {Q : Exit → Act → World → Prop}
theorem wpList_append_run (hgd : o.guard = none) (s x : Operand) (ats : Array TypeId)
    (ho : o.op = .call { callee := .builtin .append, args := #[s, x], argTypes := ats }) (v y v' : Value) (hs : a.eval s = v) (hx : a.eval x = y)
    (hrun : (Builtin.append_ ats o.type #[v, y]).run P w = .ok v' w') (h : wpList P ops Q rest (a.put o.dst v') w') : wpList P ops Q (o :: rest) a w := by
  refine wpList_plain hgd fun K hK => ?_
  unfold Oper.wp execOp
  simp only [ho, resolve, invoke, builtin, Sem.run_bind, Sem.run_pure, Result.andThen_ok, List.map_toArray, List.map_cons, List.map_nil, hs, hx, hrun]
  exact hK _ _ h
theorem wpList_len_run (hgd : o.guard = none) (s : Operand) (ats : Array TypeId)
    (ho : o.op = .call { callee := .builtin .len, args := #[s], argTypes := ats }) (v v' : Value) (hs : a.eval s = v)
    (hrun : (Builtin.len_ ats o.type #[v]).run P w = .ok v' w') (h : wpList P ops Q rest (a.put o.dst v') w') : wpList P ops Q (o :: rest) a w := by
  refine wpList_plain hgd fun K hK => ?_
  unfold Oper.wp execOp
  simp only [ho, resolve, invoke, builtin, Sem.run_bind, Sem.run_pure, Result.andThen_ok, List.map_toArray, List.map_cons, List.map_nil, hs, hrun]
  exact hK _ _ h
theorem wpList_delete_run (hgd : o.guard = none) (s x : Operand) (ats : Array TypeId)
    (ho : o.op = .call { callee := .builtin .delete, args := #[s, x], argTypes := ats }) (v y v' : Value) (hs : a.eval s = v) (hx : a.eval x = y)
    (hrun : (Builtin.delete_ ats o.type #[v, y]).run P w = .ok v' w') (h : wpList P ops Q rest (a.put o.dst v') w') : wpList P ops Q (o :: rest) a w := by
  refine wpList_plain hgd fun K hK => ?_
  unfold Oper.wp execOp
  simp only [ho, resolve, invoke, builtin, Sem.run_bind, Sem.run_pure, Result.andThen_ok, List.map_toArray, List.map_cons, List.map_nil, hs, hx, hrun]
  exact hK _ _ h
theorem wpList_update_run (hgd : o.guard = none) (t : TypeId) (m x v : Operand) (ho : o.op = .mapUpdate t m x v) (mv kv vv : Value) (hm : a.eval m = mv) (hx : a.eval x = kv) (hv : a.eval v = vv)
    (hrun : (Instr.mapUpdate t mv kv vv).run P w = .ok () w') (h : wpList P ops Q rest (a.put o.dst undef) w') : wpList P ops Q (o :: rest) a w := by
  refine wpList_plain hgd fun K hK => ?_
  unfold Oper.wp execOp
  simp only [ho, Sem.run_bind, Sem.run_pure, Result.andThen_ok, hm, hx, hv, hrun]
  exact hK _ _ h
end

/-! ### numbers -/
/-- What Around tells. -/
def arnd (n m : Int) : Int := (if n < 0 then -(n + 1) else n) % m
theorem arnd_bd (n m : Int) (hm : 0 < m) : 0 ≤ arnd n m ∧ arnd n m < m := ⟨Int.emod_nonneg _ (by omega), Int.emod_lt_of_pos _ hm⟩
theorem arnd_neg (n m : Int) (h : n < 0) : arnd n m = -((n + 1).tmod m) := by
  unfold arnd; rw [if_pos h, ← Int.neg_tmod, Int.tmod_eq_emod_of_nonneg (by omega)]
theorem arnd_pos (n m : Int) (h : ¬ n < 0) : arnd n m = n % m := by unfold arnd; rw [if_neg h]
theorem ret_int {k : IntKind} {a b : Int} (h : a = b) : Ending.returned (.int k a) = .returned (.int k b) := by rw [h]
end Go.Proofs.YtcnbgcoklbmdaaaDoor
