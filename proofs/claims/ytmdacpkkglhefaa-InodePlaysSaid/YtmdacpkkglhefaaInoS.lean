/- The table of nodes (an instance of the generic code) as a list of places, and the walks of its methods. -/
import Derived.Test.YtmdacpkkglhefaaBase
import Derived.Laws.MakeOwn
import Derived.Laws.EntriesVeiled
namespace Go.Proofs.Ytmdacpkkglhefaa.inoS
open Go.ChangeShapes Go.WideShapes Go.ChangeAt Go.RowKit
open Go.Proofs.Ytmdacpkkglhefaa

/-- A place: is something there, how often did something come, what is it. -/
structure Pl where
  is : Bool
  gen : Int
  x : ByteArray
def Pl.cells (p : Pl) : List Value := [.bool p.is, .int .i64 p.gen, .string p.x]
def Pl.zero : Pl := ⟨false, 0, ⟨#[]⟩⟩
def plCells (ps : List Pl) : Array Value := (ps.flatMap Pl.cells).toArray
theorem flat_len : ∀ ps : List Pl, (ps.flatMap Pl.cells).length = 3 * ps.length
  | [] => rfl
  | p :: ps => by simp [Pl.cells, flat_len ps]; omega
theorem flat_at : ∀ (ps : List Pl) (i : Nat) (h : i < ps.length), (ps.flatMap Pl.cells)[i * 3]? = some (.bool ps[i].is) ∧ (ps.flatMap Pl.cells)[i * 3 + 1]? = some (.int .i64 ps[i].gen) ∧ (ps.flatMap Pl.cells)[i * 3 + 2]? = some (.string ps[i].x)
  | [], i, h => by simp at h
  | p :: ps, 0, h => by simp [Pl.cells]
  | p :: ps, i + 1, h => by
    have ih := flat_at ps i (by simpa using h)
    simp only [List.flatMap_cons, Pl.cells, List.cons_append, List.nil_append, List.getElem_cons_succ]
    rw [show (i + 1) * 3 = i * 3 + 3 by omega]
    simpa using ih
theorem flat_set : ∀ (ps : List Pl) (i : Nat) (q : Pl), (((ps.flatMap Pl.cells).set (i * 3) (.bool q.is)).set (i * 3 + 1) (.int .i64 q.gen)).set (i * 3 + 2) (.string q.x) = (ps.set i q).flatMap Pl.cells
  | [], i, q => by simp
  | p :: ps, 0, q => by simp [Pl.cells]
  | p :: ps, i + 1, q => by
    have ih := flat_set ps i q
    simp only [List.flatMap_cons, Pl.cells, List.cons_append, List.nil_append, List.set_cons_succ]
    rw [show (i + 1) * 3 = i * 3 + 1 + 1 + 1 by omega]
    simpa [Pl.cells] using ih

/-- The table behind the pointer to block pb; its places lie in block pl. -/
structure TabW (w : World) (pb tb pl : Nat) (ps : List Pl) : Prop where
  ptr : w.heap[pb]? = some (.cells #[.slice (some ⟨pl, 0, none⟩) ps.length ps.length, .func (.func 33) #[] #[.pointer (some ⟨tb, 0, none⟩)]] 89 (0, 0))
  var : w.heap[tb]? = some (.cells #[.pointer (some ⟨pb, 0, none⟩)] 70 (0, 0))
  pls : w.heap[pl]? = some (.cells (plCells ps) 91 (0, 0))
  len : ps.length ≤ 64
section
variable {w w' : World} {pb tb pl : Nat} {ps : List Pl}
theorem TabW.ext (h : TabW w pb tb pl ps) (k : Ext w w') : TabW w' pb tb pl ps := ⟨k.heap h.ptr, k.heap h.var, k.heap h.pls, h.len⟩
theorem TabW.ne (h : TabW w pb tb pl ps) : pb ≠ tb ∧ pb ≠ pl ∧ tb ≠ pl := by
  refine ⟨?_, ?_, ?_⟩
  · rintro rfl; have := h.ptr.symm.trans h.var; simp at this
  · rintro rfl; have := h.ptr.symm.trans h.pls; simp at this
  · rintro rfl; have := h.var.symm.trans h.pls; simp at this
theorem TabW.upd {S : List Nat} (h : TabW w pb tb pl ps) (k : Upd S w w') (h1 : pb ∉ S) (h2 : tb ∉ S) (h3 : pl ∉ S) : TabW w' pb tb pl ps := ⟨k.heap h.ptr h1, k.heap h.var h2, k.heap h.pls h3, h.len⟩
theorem TabW.cell (h : TabW w pb tb pl ps) {i : Nat} (hi : i < ps.length) : w.cell? ⟨pl, i * 3, none⟩ = some (.bool ps[i].is) ∧ w.cell? ⟨pl, i * 3 + 1, none⟩ = some (.int .i64 ps[i].gen) ∧ w.cell? ⟨pl, i * 3 + 2, none⟩ = some (.string ps[i].x) ∧
    w.frozen? ⟨pl, i * 3, none⟩ = false ∧ w.frozen? ⟨pl, i * 3 + 1, none⟩ = false ∧ w.frozen? ⟨pl, i * 3 + 2, none⟩ = false := by
  have := flat_at ps i hi
  exact ⟨by rw [cell_of h.pls]; simpa [plCells] using this.1, by rw [cell_of h.pls]; simpa [plCells] using this.2.1, by rw [cell_of h.pls]; simpa [plCells] using this.2.2, free_of h.pls _, free_of h.pls _, free_of h.pls _⟩
/-- A place is filled anew by three stores. -/
def set3 (w : World) (pl i : Nat) (q : Pl) : World := ((w.setCell ⟨pl, i * 3, none⟩ (.bool q.is)).setCell ⟨pl, i * 3 + 1, none⟩ (.int .i64 q.gen)).setCell ⟨pl, i * 3 + 2, none⟩ (.string q.x)
theorem set3_heap (h : w.heap[pl]? = some (.cells (plCells ps) 91 (0, 0))) (i : Nat) (q : Pl) : (set3 w pl i q).heap[pl]? = some (.cells (plCells (ps.set i q)) 91 (0, 0)) := by
  have h1 := heap_setCell_same w pl (i * 3) _ _ (.bool q.is) h
  have h2 := heap_setCell_same _ pl (i * 3 + 1) _ _ (.int .i64 q.gen) h1
  have h3 := heap_setCell_same _ pl (i * 3 + 2) _ _ (.string q.x) h2
  unfold set3
  rw [h3]
  congr 2
  unfold plCells
  rw [← flat_set]
  simp
theorem set3_upd (w : World) (pl i : Nat) (q : Pl) : Upd [pl] w (set3 w pl i q) := ((((Upd.refl [pl] w).setCell _ _ (by simp)).setCell _ _ (by simp)).setCell _ _ (by simp))
theorem TabW.set (h : TabW w pb tb pl ps) (i : Nat) (q : Pl) {w' : World} (hu : Upd [pl] w w') (hh : w'.heap[pl]? = some (.cells (plCells (ps.set i q)) 91 (0, 0))) : TabW w' pb tb pl (ps.set i q) := by
  have hn := h.ne
  exact ⟨by rw [List.length_set]; exact hu.heap h.ptr (by simpa using hn.2.1), hu.heap h.var (by simpa using hn.2.2), hh, by rw [List.length_set]; exact h.len⟩
end


theorem closure_any (pb tb pl : Nat) (ps : List Pl) (i : Nat) (hi : i < ps.length) (w : World) (h : TabW w pb tb pl ps) :
    Calls Try.prog 33 #[.int .i64 i, .pointer (some ⟨tb, 0, none⟩)] w fun r w' => r = .returned (.agg #[.int .i64 (i + 1), .int .i64 ps[i].gen]) ∧ Ext w w' := by
  obtain ⟨c0, c1, c2, f0, f1, f2⟩ := h.cell hi
  obtain ⟨d0, d1, _, _⟩ := blk2 h.ptr
  have e0 : w.cell? ⟨tb, 0, none⟩ = some (.pointer (some ⟨pb, 0, none⟩)) := cell_of h.var 0
  have hpb := lt_of_heap h.ptr
  have htb := lt_of_heap h.var
  have hpl := lt_of_heap h.pls
  have hl := h.len
  have hi0 : (0 : Int) ≤ (i : Int) := by omega
  have hi1 : (i : Int) < (ps.length : Int) := by omega
  generalize ps[i].gen = g at *
  clear h
  go_enter Try.func33, Try.ntmps33
  go_wp2_with fail
  refine bodyPost_ret (v := .agg #[.int .i64 (i + 1), .int .i64 g]) (by simp [results, Try.results33, go_sem]) rfl ⟨rfl, ?_⟩
  exact (Ext.refl w).alloc _
theorem new_no (most : Int) (w : World) (h : most < 1 ∨ 64 < most) :
    Calls Try.prog 23 #[.int .i64 most] w fun r w' => r = .returned (.tuple #[.pointer none, .int .i64 1]) ∧ w = w' := by
  by_cases h1 : most < 1
  · have hd : decide (most < 1) = true := by simpa using h1
    go_enter Try.func23, Try.ntmps23
    go_wp2
    go_ret2
    exact ⟨rfl, rfl⟩
  · have hd : decide (most < 1) = false := by simpa using h1
    have hd2 : decide (64 < most) = true := by simp; omega
    go_enter Try.func23, Try.ntmps23
    go_wp2
    go_ret2
    exact ⟨rfl, rfl⟩
theorem infoPl : (Try.prog.info? 91).map (fun i => (i.zero, i.size, i.bytes)) = some (some (.agg #[.bool false, .int .i64 0, .string ⟨#[]⟩]), 3, 32) := by kernel_rfl
theorem made_is (n : Nat) : madeCells (Value.agg #[.bool false, .int .i64 0, .string ⟨#[]⟩]).cells (n * 3) = plCells (List.replicate n Pl.zero) := by
  apply Array.ext
  · rw [size_madeCells]; simp only [plCells, List.size_toArray, flat_len, List.length_replicate]; omega
  · intro i h1 h2
    have h3 : i < n * 3 := by simpa [madeCells] using h1
    have h4 : i / 3 < (List.replicate n Pl.zero).length := by simp; omega
    have h5 := flat_at (List.replicate n Pl.zero) (i / 3) h4
    simp only [List.getElem_replicate] at h5
    have hm : i % 3 = 0 ∨ i % 3 = 1 ∨ i % 3 = 2 := by omega
    have key : (plCells (List.replicate n Pl.zero))[i]? = some (madeCells (Value.agg #[.bool false, .int .i64 0, .string ⟨#[]⟩]).cells (n * 3))[i] := by
      simp only [madeCells, Value.cells, Array.getElem_map, Array.getElem_range]
      rcases hm with hm | hm | hm
      · have e : i = i / 3 * 3 := by omega
        have := h5.1; rw [← e] at this
        simpa [plCells, hm, Pl.zero] using this
      · have e : i = i / 3 * 3 + 1 := by omega
        have := h5.2.1; rw [← e] at this
        simpa [plCells, hm, Pl.zero] using this
      · have e : i = i / 3 * 3 + 2 := by omega
        have := h5.2.2; rw [← e] at this
        simpa [plCells, hm, Pl.zero] using this
    rw [Array.getElem?_eq_getElem h2] at key
    exact (Option.some.inj key).symm
theorem run_makePl (n : Nat) (hn : n ≤ 64) (w : World) :
    (Instr.makeSlice 87 (.int .i64 n) (.int .i64 n)).run Try.prog w = .ok (.slice (some ⟨w.heap.size, 0, none⟩) n n) (w.alloc (.cells (plCells (List.replicate n Pl.zero)) 91)) := by
  obtain ⟨i0, hi, hz0, hz1, hz2⟩ := info_parts infoPl
  have h := run_make (P := Try.prog) w 87 91 i0 _ Try.underlying87 hi hz0 .i64 .i64 n n (by omega) (by omega) (by rw [hz2]; omega) (by omega)
  rw [h, hz1, Int.toNat_natCast, made_is]
theorem alloc3 (w : World) (A B C : Obj) : (((w.alloc A).alloc B).alloc C).heap[w.heap.size]? = some A ∧ (((w.alloc A).alloc B).alloc C).heap[w.heap.size + 1]? = some B ∧ (((w.alloc A).alloc B).alloc C).heap[w.heap.size + 2]? = some C := by
  refine ⟨((Ext.refl _).alloc C).heap (heap_alloc2_old w A B), ((Ext.refl _).alloc C).heap (heap_alloc2_new w A B), ?_⟩
  have := heap_alloc_new ((w.alloc A).alloc B) C
  simpa using this
theorem new_yes (n : Nat) (w : World) (h1 : 1 ≤ n) (h2 : n ≤ 64) :
    Calls Try.prog 23 #[.int .i64 n] w fun r w' => r = .returned (.tuple #[.pointer (some ⟨w.heap.size + 1, 0, none⟩), .int .i64 0]) ∧ TabW w' (w.heap.size + 1) (w.heap.size + 2) w.heap.size (List.replicate n Pl.zero) ∧ Ext w w' := by
  have hd : decide ((n : Int) < 1) = false := by simp; omega
  have hd2 : decide (64 < (n : Int)) = false := by simp; omega
  have hmk := run_makePl n h2
  generalize hcs : plCells (List.replicate n Pl.zero) = cs at *
  have HCS := Lib.hid hcs
  clear hcs
  go_enter Try.func23, Try.ntmps23
  go_wp2_with fail
  go_ret2
  have h3 := alloc3 w (.cells cs 91) (.cells #[.slice (some ⟨w.heap.size, 0, none⟩) n n, .func (.func 33) #[] #[.pointer (some ⟨w.heap.size + 1 + 1, 0, none⟩)]] 89) (.cells #[.pointer (some ⟨w.heap.size + 1, 0, none⟩)] 70)
  refine ⟨rfl, ⟨?_, h3.2.2, ?_, by simp; omega⟩, (((Ext.refl w).alloc _).alloc _).alloc _⟩
  · rw [List.length_replicate]; exact h3.2.1
  · rw [HCS.out]; exact h3.1

theorem set_self {l : List Value} {k : Nat} {v : Value} (h : l[k]? = some v) : l.set k v = l := by
  apply List.ext_getElem?
  intro j
  rw [List.getElem?_set]
  by_cases e : k = j
  · subst e
    have hk : k < l.length := (List.getElem?_eq_some_iff.1 h).1
    simp [hk]
    rw [List.getElem?_eq_getElem hk] at h
    exact (Option.some.inj h).symm
  · simp [e]
/-- Stores into a place, as the places' list has them. -/
theorem cells_set_x (ps : List Pl) (i : Nat) (hi : i < ps.length) (q : Pl) (h1 : ps[i].is = q.is) (h2 : ps[i].gen = q.gen) : (plCells ps).setIfInBounds (i * 3 + 2) (.string q.x) = plCells (ps.set i q) := by
  have hf := flat_at ps i hi
  unfold plCells
  rw [← flat_set, set_self (l := ps.flatMap Pl.cells) (k := i * 3) (by rw [← h1]; exact hf.1), set_self (l := ps.flatMap Pl.cells) (k := i * 3 + 1) (by rw [← h2]; exact hf.2.1)]
  simp
theorem cells_set_ix (ps : List Pl) (i : Nat) (hi : i < ps.length) (q : Pl) (h2 : ps[i].gen = q.gen) : ((plCells ps).setIfInBounds (i * 3) (.bool q.is)).setIfInBounds (i * 3 + 2) (.string q.x) = plCells (ps.set i q) := by
  have hf := flat_at ps i hi
  unfold plCells
  rw [← flat_set, set_self (l := (ps.flatMap Pl.cells).set (i * 3) (.bool q.is)) (k := i * 3 + 1) (by rw [List.getElem?_set_ne (by omega), ← h2]; exact hf.2.1)]
  simp
theorem cells_set_all (ps : List Pl) (i : Nat) (q : Pl) : (((plCells ps).setIfInBounds (i * 3) (.bool q.is)).setIfInBounds (i * 3 + 2) (.string q.x)).setIfInBounds (i * 3 + 1) (.int .i64 q.gen) = plCells (ps.set i q) := by
  unfold plCells
  rw [← flat_set, List.set_comm _ _ (show i * 3 + 1 ≠ i * 3 + 2 by omega)]
  simp

section
variable (pb tb pl : Nat) (ps : List Pl) (w : World)
set_option maxHeartbeats 1000000 in
theorem find_ok (i : Nat) (hi : i < ps.length) (h : TabW w pb tb pl ps) (his : ps[i].is = true) (gen : Int) (hg : ps[i].gen = gen) :
    Calls Try.prog 34 #[.pointer (some ⟨pb, 0, none⟩), .agg #[.int .i64 (i + 1), .int .i64 gen]] w fun r w' => r = .returned (.pointer (some ⟨pl, i * 3, none⟩)) ∧ Ext w w' := by
  obtain ⟨c0, c1, c2, f0, f1, f2⟩ := h.cell hi
  obtain ⟨d0, d1, _, _⟩ := blk2 h.ptr
  rw [his] at c0
  rw [hg] at c1
  have hpb := lt_of_heap h.ptr
  have hpl := lt_of_heap h.pls
  have hl := h.len
  have hd1 : decide ((i : Int) + 1 < 1) = false := by simp; omega
  have hd2 : decide ((ps.length : Int) < (i : Int) + 1) = false := by simp; omega
  have hi0 : (0 : Int) ≤ (i : Int) := by omega
  have hi1 : (i : Int) < (ps.length : Int) := by omega
  have hw1 : IntKind.i64.wrap ((i : Int) + 1 - 1) = (i : Int) := by rw [IntWalk.i64_in _ (by omega)]; omega
  clear h his hg c2
  generalize ps.length = n at *
  go_enter Try.func34, Try.ntmps34
  go_wp2_with fail
  go_quiet (fail)
  go_wp2_with fail
  go_quiet (fail)
  go_wp2_with fail
  go_quiet (fail)
  go_wp2_with fail
  go_ret
  exact ⟨rfl, (((((Ext.refl w).alloc _).drewN _).drewN _).drewN _)⟩

/-- Handles that name nothing. -/
def Stale (ps : List Pl) (ino gen : Int) : Prop := ∀ i (h : i < ps.length), ino = i + 1 → ps[i].is = true → ps[i].gen ≠ gen
set_option maxHeartbeats 1000000 in
theorem find_lo (ino gen : Int) (h : TabW w pb tb pl ps) (hlo : ino < 1) :
    Calls Try.prog 34 #[.pointer (some ⟨pb, 0, none⟩), .agg #[.int .i64 ino, .int .i64 gen]] w fun r w' => r = .returned (.pointer none) ∧ Ext w w' := by
  obtain ⟨d0, d1, _, _⟩ := blk2 h.ptr
  have hpb := lt_of_heap h.ptr
  have hd1 : decide (ino < 1) = true := by simpa using hlo
  clear h
  go_enter Try.func34, Try.ntmps34
  go_wp2_with fail
  go_quiet (fail)
  go_wp2_with fail
  go_ret
  exact ⟨rfl, ((Ext.refl w).alloc _).drewN _⟩
set_option maxHeartbeats 1000000 in
theorem find_hi (ino gen : Int) (h : TabW w pb tb pl ps) (hlo : ¬ ino < 1) (hhi : ps.length < ino) :
    Calls Try.prog 34 #[.pointer (some ⟨pb, 0, none⟩), .agg #[.int .i64 ino, .int .i64 gen]] w fun r w' => r = .returned (.pointer none) ∧ Ext w w' := by
  obtain ⟨d0, d1, _, _⟩ := blk2 h.ptr
  have hpb := lt_of_heap h.ptr
  have hd1 : decide (ino < 1) = false := by simpa using hlo
  have hd2 : decide ((ps.length : Int) < ino) = true := by simpa using hhi
  clear h
  go_enter Try.func34, Try.ntmps34
  go_wp2_with fail
  go_quiet (fail)
  go_wp2_with fail
  go_ret
  exact ⟨rfl, ((Ext.refl w).alloc _).drewN _⟩
set_option maxHeartbeats 1000000 in
theorem find_empty (i : Nat) (hi : i < ps.length) (h : TabW w pb tb pl ps) (his : ps[i].is = false) (gen : Int) :
    Calls Try.prog 34 #[.pointer (some ⟨pb, 0, none⟩), .agg #[.int .i64 (i + 1), .int .i64 gen]] w fun r w' => r = .returned (.pointer none) ∧ Ext w w' := by
  obtain ⟨c0, c1, c2, f0, f1, f2⟩ := h.cell hi
  obtain ⟨d0, d1, _, _⟩ := blk2 h.ptr
  rw [his] at c0
  have hpb := lt_of_heap h.ptr
  have hpl := lt_of_heap h.pls
  have hl := h.len
  have hd1 : decide ((i : Int) + 1 < 1) = false := by simp; omega
  have hd2 : decide ((ps.length : Int) < (i : Int) + 1) = false := by simp; omega
  have hi0 : (0 : Int) ≤ (i : Int) := by omega
  have hi1 : (i : Int) < (ps.length : Int) := by omega
  have hw1 : IntKind.i64.wrap ((i : Int) + 1 - 1) = (i : Int) := by rw [IntWalk.i64_in _ (by omega)]; omega
  clear h his c2 c1
  generalize ps.length = n at *
  go_enter Try.func34, Try.ntmps34
  go_wp2_with fail
  go_quiet (fail)
  go_wp2_with fail
  go_quiet (fail)
  go_wp2_with fail
  go_quiet (fail)
  go_wp2_with fail
  go_ret
  exact ⟨rfl, (((((Ext.refl w).alloc _).drewN _).drewN _).drewN _)⟩
set_option maxHeartbeats 1000000 in
theorem find_other (i : Nat) (hi : i < ps.length) (h : TabW w pb tb pl ps) (his : ps[i].is = true) (gen : Int) (hg : ps[i].gen ≠ gen) :
    Calls Try.prog 34 #[.pointer (some ⟨pb, 0, none⟩), .agg #[.int .i64 (i + 1), .int .i64 gen]] w fun r w' => r = .returned (.pointer none) ∧ Ext w w' := by
  obtain ⟨c0, c1, c2, f0, f1, f2⟩ := h.cell hi
  obtain ⟨d0, d1, _, _⟩ := blk2 h.ptr
  rw [his] at c0
  have hne : (ps[i].gen != gen) = true := by simpa using hg
  have hpb := lt_of_heap h.ptr
  have hpl := lt_of_heap h.pls
  have hl := h.len
  have hd1 : decide ((i : Int) + 1 < 1) = false := by simp; omega
  have hd2 : decide ((ps.length : Int) < (i : Int) + 1) = false := by simp; omega
  have hi0 : (0 : Int) ≤ (i : Int) := by omega
  have hi1 : (i : Int) < (ps.length : Int) := by omega
  have hw1 : IntKind.i64.wrap ((i : Int) + 1 - 1) = (i : Int) := by rw [IntWalk.i64_in _ (by omega)]; omega
  clear h his c2 hg
  generalize ps[i].gen = g at *
  generalize ps.length = n at *
  go_enter Try.func34, Try.ntmps34
  go_wp2_with fail
  go_quiet (fail)
  go_wp2_with fail
  go_quiet (fail)
  go_wp2_with fail
  go_quiet (fail)
  go_wp2_with fail
  go_ret
  exact ⟨rfl, (((((Ext.refl w).alloc _).drewN _).drewN _).drewN _)⟩
theorem find_no (ino gen : Int) (h : TabW w pb tb pl ps) (hs : Stale ps ino gen) :
    Calls Try.prog 34 #[.pointer (some ⟨pb, 0, none⟩), .agg #[.int .i64 ino, .int .i64 gen]] w fun r w' => r = .returned (.pointer none) ∧ Ext w w' := by
  by_cases h1 : ino < 1
  · exact find_lo pb tb pl ps w ino gen h h1
  · by_cases h2 : ps.length < ino
    · exact find_hi pb tb pl ps w ino gen h h1 h2
    · obtain ⟨i, hi⟩ := Int.eq_ofNat_of_zero_le (show 0 ≤ ino - 1 by omega)
      obtain rfl : ino = (i : Int) + 1 := by omega
      have hlt : i < ps.length := by omega
      cases his : ps[i].is with
      | false => exact find_empty pb tb pl ps w i hlt h his gen
      | true => exact find_other pb tb pl ps w i hlt h his gen (hs i hlt rfl his)
set_option maxHeartbeats 1000000 in
theorem get_no (ino gen : Int) (h : TabW w pb tb pl ps) (hs : Stale ps ino gen) :
    Calls Try.prog 26 #[.pointer (some ⟨pb, 0, none⟩), .agg #[.int .i64 ino, .int .i64 gen]] w fun r w' => r = .returned (.tuple #[.string ⟨#[]⟩, .int .i64 8]) ∧ Ext w w' := by
  have HF := Lib.hid (fun W hW => find_no pb tb pl ps W ino gen (TabW.ext h hW) hs)
  clear h hs
  go_enter Try.func26, Try.ntmps26
  go_wp2_with fail
  refine (HF.out _ ((Ext.refl w).alloc _)).mono ?_
  rintro r w2 ⟨rfl, hx⟩
  go_wp2_with fail
  go_ret2
  exact ⟨rfl, ((Ext.refl w).alloc _).trans hx⟩
set_option maxHeartbeats 1000000 in
theorem get_ok (i : Nat) (hi : i < ps.length) (h : TabW w pb tb pl ps) (his : ps[i].is = true) (gen : Int) (hg : ps[i].gen = gen) :
    Calls Try.prog 26 #[.pointer (some ⟨pb, 0, none⟩), .agg #[.int .i64 (i + 1), .int .i64 gen]] w fun r w' => r = .returned (.tuple #[.string ps[i].x, .int .i64 0]) ∧ Ext w w' := by
  have HF := Lib.hid (fun W hW => find_ok pb tb pl ps W i hi (TabW.ext h hW) his gen hg)
  have H := Lib.hid h
  clear h his hg
  go_enter Try.func26, Try.ntmps26
  go_wp2_with fail
  refine (HF.out _ ((Ext.refl w).alloc _)).mono ?_
  rintro r w2 ⟨rfl, hx⟩
  obtain ⟨c0, c1, c2, f0, f1, f2⟩ := (H.out.ext (((Ext.refl w).alloc _).trans hx)).cell hi
  have hpl := lt_of_heap (H.out.ext (((Ext.refl w).alloc _).trans hx)).pls
  have HX := Lib.hid hx
  clear hx
  go_wp2_with fail
  go_ret2
  exact ⟨rfl, ((Ext.refl w).alloc _).trans HX.out⟩
set_option maxHeartbeats 1000000 in
theorem remove_no (ino gen : Int) (h : TabW w pb tb pl ps) (hs : Stale ps ino gen) :
    Calls Try.prog 25 #[.pointer (some ⟨pb, 0, none⟩), .agg #[.int .i64 ino, .int .i64 gen]] w fun r w' => r = .returned (.int .i64 8) ∧ Ext w w' := by
  have HF := Lib.hid (fun W hW => find_no pb tb pl ps W ino gen (TabW.ext h hW) hs)
  clear h hs
  go_enter Try.func25, Try.ntmps25
  go_wp2_with fail
  refine (HF.out _ ((Ext.refl w).alloc _)).mono ?_
  rintro r w2 ⟨rfl, hx⟩
  go_wp2_with fail
  go_ret
  exact ⟨rfl, ((Ext.refl w).alloc _).trans hx⟩
set_option maxHeartbeats 1000000 in
theorem remove_ok (i : Nat) (hi : i < ps.length) (h : TabW w pb tb pl ps) (his : ps[i].is = true) (gen : Int) (hg : ps[i].gen = gen) :
    Calls Try.prog 25 #[.pointer (some ⟨pb, 0, none⟩), .agg #[.int .i64 (i + 1), .int .i64 gen]] w fun r w' => r = .returned (.int .i64 0) ∧ TabW w' pb tb pl (ps.set i ⟨false, gen, ⟨#[]⟩⟩) ∧ Upd [pl] w w' := by
  have HF := Lib.hid (fun W hW => find_ok pb tb pl ps W i hi (TabW.ext h hW) his gen hg)
  have H := Lib.hid h
  have HG := Lib.hid hg
  clear h his hg
  go_enter Try.func25, Try.ntmps25
  go_wp2_with fail
  refine (HF.out _ ((Ext.refl w).alloc _)).mono ?_
  rintro r w2 ⟨rfl, hx⟩
  have hE := ((Ext.refl w).alloc _).trans hx
  have hT := H.out.ext hE
  obtain ⟨c0, c1, c2, f0, f1, f2⟩ := hT.cell hi
  have hpl := lt_of_heap hT.pls
  have HN := Lib.hid (show TabW ((w2.setCell ⟨pl, i * 3, none⟩ (.bool false)).setCell ⟨pl, i * 3 + 2, none⟩ (.string ⟨#[]⟩)) pb tb pl (ps.set i ⟨false, gen, ⟨#[]⟩⟩) ∧ Upd [pl] w ((w2.setCell ⟨pl, i * 3, none⟩ (.bool false)).setCell ⟨pl, i * 3 + 2, none⟩ (.string ⟨#[]⟩)) from by
    have hu : Upd [pl] w2 ((w2.setCell ⟨pl, i * 3, none⟩ (.bool false)).setCell ⟨pl, i * 3 + 2, none⟩ (.string ⟨#[]⟩)) := ((Upd.refl _ w2).setCell _ _ (by simp)).setCell _ _ (by simp)
    refine ⟨hT.set i _ hu ?_, (hE.upd _).trans hu⟩
    rw [heap_setCell_same _ pl _ _ _ _ (heap_setCell_same w2 pl _ _ _ _ hT.pls)]
    congr 2
    exact cells_set_ix ps i hi ⟨false, gen, ⟨#[]⟩⟩ HG.out)
  clear hx hE hT
  go_wp2_with fail
  go_ret
  exact ⟨rfl, HN.out⟩
end

section
variable (pb tb pl : Nat) (ps : List Pl) (w : World)
set_option maxHeartbeats 2000000 in
theorem add_ok (x : ByteArray) (h : TabW w pb tb pl ps) (m : Nat) (hm : m < ps.length) (hf : ps[m].is = false) (hall : ∀ j (hj : j < ps.length), j < m → ps[j].is = true) (hg0 : 0 ≤ ps[m].gen) (hg1 : ps[m].gen < 1000000) :
    Calls Try.prog 24 #[.pointer (some ⟨pb, 0, none⟩), .string x] w fun r w' => r = .returned (.tuple #[.agg #[.int .i64 (m + 1), .int .i64 (ps[m].gen + 1)], .int .i64 0]) ∧
      TabW w' pb tb pl (ps.set m ⟨true, ps[m].gen + 1, x⟩) ∧ Upd [pl] w w' := by
  have hT := h.ext ((Ext.refl w).alloc (.cells #[.int .i64 0, .int .i64 0] 29))
  have hl := h.len
  obtain ⟨d0, d1, _, _⟩ := blk2 h.ptr
  have hpb := lt_of_heap h.ptr
  have hpl := lt_of_heap h.pls
  have HT := Lib.hid hT
  have H := Lib.hid h
  have HALL := Lib.hid hall
  have HF := Lib.hid hf
  generalize hgm : ps[m].gen = gm at *
  have HGM := Lib.hid hgm
  clear hT h hall hf hgm
  go_enter Try.func24, Try.ntmps24
  go_wp2_with fail
  go_loop [13] (fun v13 => ∃ i : Nat, i ≤ m ∧ v13 = .int .i64 i) (fun v13 => m - (intOf v13).toNat)
  case atStart => exact ⟨0, by omega, rfl⟩
  case round =>
    obtain ⟨i, hi, rfl⟩ := hrel
    have hin : i < ps.length := by omega
    obtain ⟨c0, c1, c2, f0, f1, f2⟩ := H.out.cell hin
    have hd : decide (i < ps.length) = true := by simp; omega
    have hi0 : (0 : Int) ≤ (i : Int) := by omega
    have hi1 : (i : Int) < (ps.length : Int) := by omega
    by_cases hlt : i < m
    · rw [HALL.out i (by omega) hlt] at c0
      clear c1 c2 f0 f1 f2
      go_wp2_with fail
      go_round
      case rel => exact ⟨i + 1, by omega, by go_num⟩
      case measure => simp [intOf]; omega
    · obtain rfl : i = m := by omega
      rw [HF.out] at c0
      rw [HGM.out] at c1
      have hupd : Upd [pl] w (((w.setCell ⟨pl, i * 3, none⟩ (.bool true)).setCell ⟨pl, i * 3 + 2, none⟩ (.string x)).setCell ⟨pl, i * 3 + 1, none⟩ (.int .i64 (gm + 1))) := (((Upd.refl _ _).setCell _ _ (by simp)).setCell _ _ (by simp)).setCell _ _ (by simp)
      have hnew : TabW (((w.setCell ⟨pl, i * 3, none⟩ (.bool true)).setCell ⟨pl, i * 3 + 2, none⟩ (.string x)).setCell ⟨pl, i * 3 + 1, none⟩ (.int .i64 (gm + 1))) pb tb pl (ps.set i ⟨true, gm + 1, x⟩) := by
        refine H.out.set i _ hupd ?_
        rw [heap_setCell_same _ pl _ _ _ _ (heap_setCell_same _ pl _ _ _ _ (heap_setCell_same _ pl _ _ _ _ H.out.pls))]
        congr 2
        exact cells_set_all ps i ⟨true, gm + 1, x⟩
      have hset : (ps.set i ⟨true, gm + 1, x⟩ : List Pl)[i]'(by simpa using hin) = ⟨true, gm + 1, x⟩ := by simp
      have HCL := Lib.hid (show ∀ W, Ext (((w.setCell ⟨pl, i * 3, none⟩ (.bool true)).setCell ⟨pl, i * 3 + 2, none⟩ (.string x)).setCell ⟨pl, i * 3 + 1, none⟩ (.int .i64 (gm + 1))) W → Calls Try.prog 33 #[.int .i64 i, .pointer (some ⟨tb, 0, none⟩)] W fun r w' => r = .returned (.agg #[.int .i64 (i + 1), .int .i64 (gm + 1)]) ∧ Ext W w' from
        fun W hW => (closure_any pb tb pl _ i (by simpa using hin) W (hnew.ext hW)).mono fun r w' h => ⟨by rw [h.1, hset], h.2⟩)
      have HNW := Lib.hid hnew
      have HUP := Lib.hid hupd
      have hne := H.out.ne.2.1
      have hne' := hne.symm
      have hbh : ((((w.setCell ⟨pl, i * 3, none⟩ (.bool true)).setCell ⟨pl, i * 3 + 2, none⟩ (.string x)).setCell ⟨pl, i * 3 + 1, none⟩ (.int .i64 (gm + 1))).alloc (.cells #[.int .i64 0, .int .i64 0] 29)).heap[w.heap.size]? = some (.cells #[.int .i64 0, .int .i64 0] 29) := by
        have := heap_alloc_new (((w.setCell ⟨pl, i * 3, none⟩ (.bool true)).setCell ⟨pl, i * 3 + 2, none⟩ (.string x)).setCell ⟨pl, i * 3 + 1, none⟩ (.int .i64 (gm + 1))) (.cells #[.int .i64 0, .int .i64 0] 29)
        simpa using this
      have HBH := Lib.hid hbh
      clear hnew hupd hset hbh
      go_wp2_with fail
      refine (HCL.out _ ((Ext.refl _).alloc _)).mono ?_
      rintro r w5 ⟨rfl, hx5⟩
      have hb5 := hx5.heap HBH.out
      obtain ⟨e0, e1, e2, e3⟩ := blk2 hb5
      have hz5 := lt_of_heap hb5
      have HN := Lib.hid (show TabW ((w5.setCell ⟨w.heap.size, 0, none⟩ (.int .i64 (i + 1))).setCell ⟨w.heap.size, 1, none⟩ (.int .i64 (gm + 1))) pb tb pl (ps.set i ⟨true, gm + 1, x⟩) ∧ Upd [pl] w ((w5.setCell ⟨w.heap.size, 0, none⟩ (.int .i64 (i + 1))).setCell ⟨w.heap.size, 1, none⟩ (.int .i64 (gm + 1))) from by
        have hT5 := (HNW.out.ext ((Ext.refl _).alloc _)).ext hx5
        have hu5 : Upd [w.heap.size] w5 ((w5.setCell ⟨w.heap.size, 0, none⟩ (.int .i64 (i + 1))).setCell ⟨w.heap.size, 1, none⟩ (.int .i64 (gm + 1))) := (((Upd.refl _ _).setCell _ _ (by simp)).setCell _ _ (by simp))
        refine ⟨hT5.upd hu5 (by simp; omega) (by have := lt_of_heap H.out.var; simp; omega) (by simp; omega), ?_⟩
        have hU1 : Upd [pl] w w5 := HUP.out.trans ((((Ext.refl _).alloc _).trans hx5).upd _)
        exact (hU1.setCell _ _ (by simp)).setCell _ _ (by simp))
      have HB5 := Lib.hid hb5
      clear hx5 hb5
      go_wp2_with fail
      refine bodyPost_ret (v := .tuple #[.agg #[.int .i64 (i + 1), .int .i64 (gm + 1)], .int .i64 0]) (by simp [results, Try.results24, go_sem, e0, e1]) rfl ⟨rfl, HN.out⟩
set_option maxHeartbeats 1000000 in
theorem add_full (x : ByteArray) (h : TabW w pb tb pl ps) (hall : ∀ j (hj : j < ps.length), ps[j].is = true) :
    Calls Try.prog 24 #[.pointer (some ⟨pb, 0, none⟩), .string x] w fun r w' => r = .returned (.tuple #[.agg #[.int .i64 0, .int .i64 0], .int .i64 14]) ∧ Ext w w' := by
  have hl := h.len
  obtain ⟨d0, d1, _, _⟩ := blk2 h.ptr
  have hpb := lt_of_heap h.ptr
  have hpl := lt_of_heap h.pls
  have H := Lib.hid h
  have HALL := Lib.hid hall
  clear h hall
  go_enter Try.func24, Try.ntmps24
  go_wp2_with fail
  go_loop [13] (fun v13 => ∃ i : Nat, i ≤ ps.length ∧ v13 = .int .i64 i) (fun v13 => ps.length - (intOf v13).toNat)
  case atStart => exact ⟨0, by omega, rfl⟩
  case round =>
    obtain ⟨i, hi, rfl⟩ := hrel
    by_cases hin : i < ps.length
    · obtain ⟨c0, c1, c2, f0, f1, f2⟩ := H.out.cell hin
      have hd : decide (i < ps.length) = true := by simp; omega
      have hi0 : (0 : Int) ≤ (i : Int) := by omega
      have hi1 : (i : Int) < (ps.length : Int) := by omega
      rw [HALL.out i (by omega)] at c0
      clear c1 c2 f0 f1 f2
      go_wp2_with fail
      go_round
      case rel => exact ⟨i + 1, by omega, by go_num⟩
      case measure => simp [intOf]; omega
    · have hd : decide (i < ps.length) = false := by simp; omega
      go_wp2_with fail
      refine bodyPost_ret (v := .tuple #[.agg #[.int .i64 0, .int .i64 0], .int .i64 14]) (by simp [results, Try.results24, go_sem]) rfl ⟨rfl, ?_⟩
      exact (Ext.refl w).alloc _
end
end Go.Proofs.Ytmdacpkkglhefaa.inoS
