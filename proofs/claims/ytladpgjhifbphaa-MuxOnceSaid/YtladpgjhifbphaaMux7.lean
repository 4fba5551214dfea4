/- Plain lemmas for the law MuxOnce. -/
import Derived.Test.YtladpgjhifbphaaMux4
import Derived.Test.YtladpgjhifbphaaIn
import Derived.Laws.MakeOwn
namespace Go.Proofs.Ytladpgjhifbphaa
open Go.ChangeShapes Go.WideShapes Go.ChangeAt Go.RowKit

def procOf (zs : List Int) (j : Nat) : Int := if j < zs.length then arnd (zs.getD j 0) 4 else 0
theorem procOf_bd (zs : List Int) (j : Nat) : 0 ≤ procOf zs j ∧ procOf zs j < 4 := by
  unfold procOf
  split
  · exact arnd_bd _ 4 (by omega)
  · omega
def ent (first : Int) (zs : List Int) (j : Nat) : MC := ⟨(first + j) % 4294967296, procOf zs j, j⟩
def entL (first : Int) (zs : List Int) (n : Nat) : List MC := (List.range n).map (ent first zs)
def xvals (first : Int) (n : Nat) : List Value := (List.range n).map fun j : Nat => .int .u32 ((first + j) % 4294967296)
def pvals (zs : List Int) (n : Nat) : List Value := (List.range n).map fun j : Nat => .int .u32 (procOf zs j)
theorem entL_succ (first : Int) (zs : List Int) (n : Nat) : entL first zs (n + 1) = entL first zs n ++ [(⟨(first + n) % 4294967296, procOf zs n, n⟩ : MC)] := by simp [entL, List.range_succ, ent]
theorem entL_len (first : Int) (zs : List Int) (n : Nat) : (entL first zs n).length = n := by simp [entL]
theorem xvals_succ (first : Int) (n : Nat) : xvals first (n + 1) = xvals first n ++ [.int .u32 ((first + n) % 4294967296)] := by simp [xvals, List.range_succ]
theorem xvals_len (first : Int) (n : Nat) : (xvals first n).length = n := by simp [xvals]
theorem xvals_at (first : Int) (n i : Nat) (h : i < (xvals first n).length) : (xvals first n)[i] = .int .u32 ((first + i) % 4294967296) := by simp [xvals]
theorem pvals_succ (zs : List Int) (n : Nat) : pvals zs (n + 1) = pvals zs n ++ [.int .u32 (procOf zs n)] := by simp [pvals, List.range_succ]
theorem pvals_len (zs : List Int) (n : Nat) : (pvals zs n).length = n := by simp [pvals]
theorem pvals_at (zs : List Int) (n i : Nat) (h : i < (pvals zs n).length) : (pvals zs n)[i] = .int .u32 (procOf zs i) := by simp [pvals]
theorem entL_free (first : Int) (zs : List Int) (n : Nat) (hn : n < 4294967296) : Free (entL first zs n) ((first + n) % 4294967296) 0 := by
  refine Free.zero (by omega) (by omega) ?_
  rw [lookC_none]
  intro c hc
  simp only [entL, List.mem_map, List.mem_range, ent] at hc
  obtain ⟨i, hi, rfl⟩ := hc
  show (first + i) % 4294967296 ≠ (first + n) % 4294967296
  omega

/-- What holds ahead of round i of the first loop. -/
structure OnceRel (w : World) (first : Int) (zs : List Int) (k i : Nat) (xv pv : Value) (wr : World) : Prop where
  mux : MuxW wr (w.heap.size + 1) w.heap.size ((first + i) % 4294967296) k (entL first zs i)
  xs : Owns wr (w.heap.size + 2) 22 xv (xvals first i)
  ps : Owns wr (w.heap.size + 2) 22 pv (pvals zs i)
  dis : ∀ g, xv.ownBlock = some g → pv.ownBlock ≠ some g
  ext : Ext w wr
theorem Owns.slice {w : World} {base : Nat} {e : TypeId} {v : Value} {xs : List Value} (h : Owns w base e v xs) : ∃ a cap, v = .slice a xs.length cap := by
  rcases h.form with ⟨rfl, rfl⟩ | ⟨g, cap, cur, rfl, _⟩
  · exact ⟨none, 0, rfl⟩
  · exact ⟨_, cap, rfl⟩
theorem infoU32 : (Try.prog.info? 22).map (fun i => (i.zero, i.size, i.bytes)) = some (some (.int .u32 0), 1, 4) := by kernel_rfl
theorem infoBool : (Try.prog.info? 4).map (fun i => (i.zero, i.size, i.bytes)) = some (some (.bool false), 1, 1) := by kernel_rfl

/-- Both appends behind a call, and what they leave. -/
theorem OnceRel.next {w w2 : World} {first : Int} {zs : List Int} {k i : Nat} {xv pv : Value} (hi : i < k) (hk : k ≤ 16)
    (hm : MuxW w2 (w.heap.size + 1) w.heap.size ((first + (i + 1 : Nat)) % 4294967296) k (entL first zs (i + 1)))
    (hx : Owns w2 (w.heap.size + 2) 22 xv (xvals first i)) (hp : Owns w2 (w.heap.size + 2) 22 pv (pvals zs i)) (hd : ∀ g, xv.ownBlock = some g → pv.ownBlock ≠ some g) (he : Ext w w2) :
    ∃ xv' w3 pv' w4, (Builtin.append_ #[29, 29] 29 #[xv, .slice (some ⟨w2.heap.size, 0, none⟩) 1 1]).run Try.prog (w2.alloc (.cells #[.int .u32 ((first + i) % 4294967296)] 22)) = .ok xv' w3 ∧
      (Builtin.append_ #[29, 29] 29 #[pv, .slice (some ⟨w3.heap.size, 0, none⟩) 1 1]).run Try.prog (w3.alloc (.cells #[.int .u32 (procOf zs i)] 22)) = .ok pv' w4 ∧ OnceRel w first zs k (i + 1) xv' pv' w4 := by
  have hmb := lt_of_heap hm.ptr
  obtain ⟨xv', w3, r3, o3, g3, b3⟩ := hx.append1 (P := Try.prog) (t := 29) (ty := 29) (.int .u32 0) 4 Try.underlying29 infoU32 rfl (.int .u32 ((first + i) % 4294967296)) rfl (by rw [xvals_len]; unfold maxLen; omega) (by rw [xvals_len]; omega) (by omega)
  have hxb : ∀ g, xv.ownBlock = some g → w.heap.size + 2 ≤ g ∧ g < w2.heap.size := fun g hg => hx.lt hg
  have hpb : ∀ g, pv.ownBlock = some g → w.heap.size + 2 ≤ g ∧ g < w2.heap.size := fun g hg => hp.lt hg
  have hp3 : Owns w3 (w.heap.size + 2) 22 pv (pvals zs i) := by
    refine World.ownsRow.kept (World.ownsRow.alloc hp _) g3 ?_
    cases hpo : pv.ownBlock with
    | none => exact .inl rfl
    | some g => exact .inr (fun e => hd g e.symm hpo)
  have hs3 : w2.heap.size + 1 ≤ w3.heap.size := by have := g3.size; simp at this; omega
  obtain ⟨pv', w4, r4, o4, g4, b4⟩ := hp3.append1 (P := Try.prog) (t := 29) (ty := 29) (.int .u32 0) 4 Try.underlying29 infoU32 rfl (.int .u32 (procOf zs i)) rfl (by rw [pvals_len]; unfold maxLen; omega) (by rw [pvals_len]; omega) (by omega)
  have hx3 : ∀ g, xv'.ownBlock = some g → w.heap.size + 2 ≤ g ∧ g < w3.heap.size := fun g hg => o3.lt hg
  have hd3 : ∀ g, xv'.ownBlock = some g → pv.ownBlock ≠ some g := by
    intro g hg hpg
    rcases b3 with b | b
    · exact hd g (b ▸ hg) hpg
    · rw [b] at hg; have := (hpb g hpg).2; simp at hg; omega
  have e3 : Ext w w3 := grown_ext g3 (he.alloc _) (fun g hg => by have := (hxb g hg).1; omega)
  have e4 : Ext w w4 := grown_ext g4 (e3.alloc _) (fun g hg => by have := (hpb g hg).1; omega)
  refine ⟨xv', w3, pv', w4, r3, r4, ?_, ?_, ?_, ?_, e4⟩
  · have m3 : MuxW w3 (w.heap.size + 1) w.heap.size ((first + (i + 1 : Nat)) % 4294967296) k (entL first zs (i + 1)) :=
      ⟨grown_heap g3 (((Ext.refl w2).alloc _).heap hm.ptr) (fun e => by have := (hxb _ e.symm).1; omega),
       (hm.map.ext ((Ext.refl w2).alloc _)).of_heap (g3.block _ (by have := hm.map.lt; simp; omega) (fun e => by have := (hxb _ e.symm).1; omega))⟩
    exact ⟨grown_heap g4 (((Ext.refl w3).alloc _).heap m3.ptr) (fun e => by have := (hpb _ e.symm).1; omega),
       (m3.map.ext ((Ext.refl w3).alloc _)).of_heap (g4.block _ (by have := m3.map.lt; simp; omega) (fun e => by have := (hpb _ e.symm).1; omega))⟩
  · rw [xvals_succ]
    refine World.ownsRow.kept (World.ownsRow.alloc o3 _) g4 ?_
    cases hxo : xv'.ownBlock with
    | none => exact .inl rfl
    | some g => exact .inr (fun e => hd3 g hxo e.symm)
  · rw [pvals_succ]; exact o4
  · intro g hg hpg
    rcases b4 with b | b
    · exact hd3 g hg (b ▸ hpg)
    · rw [b] at hpg; have := (hx3 g hg).2; simp at hpg; omega

/-! ### the calls that are still there -/
def remL (first : Int) (zs : List Int) (k : Nat) (D : List Bool) : List MC := ((List.range k).filter fun j => !(D.getD j false)).map (ent first zs)
theorem lookC_ents (first : Int) (zs : List Int) (k q : Nat) (hk : k ≤ 16) (hq : q < k) : ∀ js : List Nat, (∀ j ∈ js, j < k) → lookC (js.map (ent first zs)) ((first + q) % 4294967296) = if q ∈ js then some (ent first zs q) else none
  | [], _ => by simp [lookC]
  | j :: js, h => by
    have ih := lookC_ents first zs k q hk hq js (fun i hi => h i (by simp [hi]))
    have hj := h j (by simp)
    simp only [List.map_cons, lookC]
    by_cases e : j = q
    · subst e; simp [ent]
    · have hne : ¬ (ent first zs j).k = (first + q) % 4294967296 := by
        show ¬ (first + j) % 4294967296 = (first + q) % 4294967296
        omega
      rw [if_neg hne, ih]
      have : (q ∈ j :: js) ↔ q ∈ js := by simp [show ¬ q = j from fun e' => e e'.symm]
      simp only [this]
theorem delC_ents (first : Int) (zs : List Int) (k q : Nat) (hk : k ≤ 16) (hq : q < k) : ∀ js : List Nat, (∀ j ∈ js, j < k) → js.Nodup → delC (js.map (ent first zs)) ((first + q) % 4294967296) = (js.filter (fun j => j != q)).map (ent first zs)
  | [], _, _ => by simp [delC]
  | j :: js, h, hn => by
    rw [List.nodup_cons] at hn
    have ih := delC_ents first zs k q hk hq js (fun i hi => h i (by simp [hi])) hn.2
    have hj := h j (by simp)
    simp only [List.map_cons, delC]
    by_cases e : j = q
    · subst e
      have hk2 : (ent first zs j).k = (first + j) % 4294967296 := rfl
      rw [if_pos hk2, List.filter_cons_of_neg (by simp)]
      rw [List.filter_eq_self.2]
      intro i hi
      simp
      rintro rfl
      exact hn.1 hi
    · have hne : ¬ (ent first zs j).k = (first + q) % 4294967296 := by
        show ¬ (first + j) % 4294967296 = (first + q) % 4294967296
        omega
      rw [if_neg hne, ih, List.filter_cons_of_pos (by simpa using e)]
      rfl
theorem remL_none {first : Int} {zs : List Int} {k q : Nat} {D : List Bool} (hk : k ≤ 16) (hq : q < k) (h : D.getD q false = true) : lookC (remL first zs k D) ((first + q) % 4294967296) = none := by
  unfold remL
  rw [lookC_ents first zs k q hk hq _ (fun j hj => by simpa using (List.mem_filter.1 hj).1), if_neg]
  simp only [List.mem_filter, h]
  simp
theorem remL_some {first : Int} {zs : List Int} {k q : Nat} {D : List Bool} (hk : k ≤ 16) (hq : q < k) (h : D.getD q false = false) : lookC (remL first zs k D) ((first + q) % 4294967296) = some (ent first zs q) := by
  unfold remL
  rw [lookC_ents first zs k q hk hq _ (fun j hj => by simpa using (List.mem_filter.1 hj).1), if_pos]
  simp only [List.mem_filter, h]
  simp [hq]
theorem remL_del {first : Int} {zs : List Int} {k q : Nat} {D : List Bool} (hk : k ≤ 16) (hq : q < k) (hD : D.length = k) : delC (remL first zs k D) ((first + q) % 4294967296) = remL first zs k (D.set q true) := by
  unfold remL
  rw [delC_ents first zs k q hk hq _ (fun j hj => by simpa using (List.mem_filter.1 hj).1) (List.nodup_range.filter _), List.filter_filter]
  congr 1
  apply List.filter_congr
  intro j hj
  simp only [List.mem_range] at hj
  by_cases e : q = j
  · subst e; simp [hD, hj]
  · have e2 : (j != q) = true := by simp; exact fun e' => e e'.symm
    rw [e2, Bool.true_and, List.getD_eq_getElem?_getD, List.getD_eq_getElem?_getD, List.getElem?_set_ne e]
theorem remL_start (first : Int) (zs : List Int) (k : Nat) : remL first zs k (List.replicate k false) = entL first zs k := by
  unfold remL entL
  rw [List.filter_eq_self.2]
  intro j hj
  simp only [List.mem_range] at hj
  simp [List.getD_eq_getElem?_getD, hj]

theorem run_makeBools (k : Nat) (hk : k ≤ 16) (w : World) :
    (Instr.makeSlice 32 (.int .i64 k) (.int .i64 k)).run Try.prog w = .ok (.slice (some ⟨w.heap.size, 0, none⟩) k k) (w.alloc (.cells (Array.replicate k (Value.bool false)) 4)) := by
  obtain ⟨i0, hi, hz0, hz1, hz2⟩ := info_parts infoBool
  have h := run_make (P := Try.prog) w 32 4 i0 (.bool false) Try.underlying32 hi hz0 .i64 .i64 k k (by omega) (by omega) (by rw [hz2]; omega) (by omega)
  rw [h, hz1]
  have : madeCells (Value.bool false).cells ((k : Int).toNat * 1) = Array.replicate k (Value.bool false) := by
    apply Array.ext
    · simp [madeCells]
    · intro i h1 h2
      simp [madeCells, Value.cells, Nat.mod_one]
  rw [this]
  simp
/-- What holds ahead of a round of the last loop. -/
structure DoneRel (w wd : World) (first : Int) (zs : List Int) (k gd : Nat) (D : List Bool) (wr : World) : Prop where
  mux : ∃ nx, MuxW wr (w.heap.size + 1) w.heap.size nx k (remL first zs k D)
  len : D.length = k
  done : wr.heap[gd]? = some (.cells (D.map Value.bool).toArray 4 (0, 0))
  upd : Upd [w.heap.size + 1, w.heap.size, gd] wd wr

end Go.Proofs.Ytladpgjhifbphaa
