/- The walk of codes.find: the first row that is asked for, else that of IO. -/
import Derived.Test.YtfbdahhlhmdicaaDoorA1
namespace Go.Proofs.YtfbdahhlhmdicaaDoor
open Go.ChangeShapes Go.WideShapes Go.ChangeAt Go.RowKit

def pick (p : Row → Bool) : Row := (rows.find? p).getD ioRow

theorem idx (k : Nat) (hk : k < 19) (w : World) : (Instr.index 44 (.agg tabCells) (.int .i64 k)).run Tryd.prog w = .ok (rowAt k).val w := by
  have : k = 0 ∨ k = 1 ∨ k = 2 ∨ k = 3 ∨ k = 4 ∨ k = 5 ∨ k = 6 ∨ k = 7 ∨ k = 8 ∨ k = 9 ∨ k = 10 ∨ k = 11 ∨ k = 12 ∨ k = 13 ∨ k = 14 ∨ k = 15 ∨ k = 16 ∨ k = 17 ∨ k = 18 := by omega
  rcases this with rfl | rfl | rfl | rfl | rfl | rfl | rfl | rfl | rfl | rfl | rfl | rfl | rfl | rfl | rfl | rfl | rfl | rfl | rfl <;> (show Sem.run _ _ _ = _; kernel_rfl)

/-- What holds ahead of the round k: no row so far was asked for; the two variables; what was there is as it was. -/
structure FR (w : World) (p : Row → Bool) (k : Nat) (wr : World) : Prop where
  none : ∀ j, j < k → p (rowAt j) = false
  res : wr.heap[w.heap.size]? = some (.cells zeroRow.cells.toArray 38 (0, 0))
  oth : wr.heap[w.heap.size + 1]? = some (.cells (if 15 < k then ioRow else zeroRow).cells.toArray 38 (0, 0))
  ext : Ext w wr
theorem FR.start (w : World) (p : Row → Bool) : FR w p 0 ((w.alloc (.cells zeroRow.cells.toArray 38)).alloc (.cells zeroRow.cells.toArray 38)) :=
  ⟨fun j h => absurd h (by omega), heap_alloc2_old w _ _, heap_alloc2_new w _ _, ((Ext.refl w).alloc _).alloc _⟩

theorem blk4 {w : World} {g : Nat} {a b c d : Value} {t : TypeId} (h : w.heap[g]? = some (.cells #[a, b, c, d] t (0, 0))) :
    g < w.heap.size ∧ w.cell? ⟨g, 0, none⟩ = some a ∧ w.cell? ⟨g, 1, none⟩ = some b ∧ w.cell? ⟨g, 2, none⟩ = some c ∧ w.cell? ⟨g, 3, none⟩ = some d ∧
      w.frozen? ⟨g, 0, none⟩ = false ∧ w.frozen? ⟨g, 1, none⟩ = false ∧ w.frozen? ⟨g, 2, none⟩ = false ∧ w.frozen? ⟨g, 3, none⟩ = false :=
  ⟨(Array.getElem?_eq_some_iff.1 h).1, by simp [World.cell?, h], by simp [World.cell?, h], by simp [World.cell?, h], by simp [World.cell?, h],
   by simp [World.frozen?, h], by simp [World.frozen?, h], by simp [World.frozen?, h], by simp [World.frozen?, h]⟩

/-- Four stores that fill a block. -/
def set4 (w : World) (g : Nat) (a b c d : Value) : World := (((w.setCell ⟨g, 0, none⟩ a).setCell ⟨g, 1, none⟩ b).setCell ⟨g, 2, none⟩ c).setCell ⟨g, 3, none⟩ d
theorem set4_same {w : World} {g : Nat} {a b c d a' b' c' d' : Value} {t : TypeId} (h : w.heap[g]? = some (.cells #[a, b, c, d] t (0, 0))) :
    (set4 w g a' b' c' d').heap[g]? = some (.cells #[a', b', c', d'] t (0, 0)) := by
  have h1 := heap_setCell_same w g 0 _ t a' h
  have h2 := heap_setCell_same _ g 1 _ t b' h1
  have h3 := heap_setCell_same _ g 2 _ t c' h2
  have h4 := heap_setCell_same _ g 3 _ t d' h3
  exact h4
theorem set4_other {w : World} {g k : Nat} {a b c d : Value} {o : Option Obj} (h : w.heap[k]? = o) (hk : k ≠ g) : (set4 w g a b c d).heap[k]? = o := by
  unfold set4
  rw [heap_setCell_other _ _ _ _ hk, heap_setCell_other _ _ _ _ hk, heap_setCell_other _ _ _ _ hk, heap_setCell_other _ _ _ _ hk, h]
theorem Ext.set4 {a b : World} (h : Ext a b) {g : Nat} (hg : a.heap.size ≤ g) (x y z u : Value) : Ext a (set4 b g x y z u) :=
  Below.setCell (Below.setCell (Below.setCell (Below.setCell h hg _) hg _) hg _) hg _

theorem io_only : ∀ k, k < 19 → (rowAt k).e = 21 → k = 15 := by decide
theorem io_at : rowAt 15 = ioRow := rfl
theorem FR.next_io {w wr w2 : World} {p : Row → Bool} {k : Nat} {r : Row} (h : FR w p k wr) (hr : r = rowAt k) (hk : k < 19) (hp : p r = false) (h21 : r.e = 21) (hx : Ext w w2)
    (hres : w2.heap[w.heap.size]? = some (.cells zeroRow.cells.toArray 38 (0, 0))) (hoth : w2.heap[w.heap.size + 1]? = some (.cells r.cells.toArray 38 (0, 0))) : FR w p (k + 1) w2 := by
  have hk15 := io_only k hk (by rw [← hr]; exact h21)
  refine ⟨fun j hj => ?_, hres, ?_, hx⟩
  · by_cases e : j = k
    · rw [e, ← hr]; exact hp
    · exact h.none j (by omega)
  · subst hk15
    rw [if_pos (by omega), hoth, hr, io_at]
theorem FR.next {w wr w2 : World} {p : Row → Bool} {k : Nat} {r : Row} (h : FR w p k wr) (hr : r = rowAt k) (hk : k < 19) (hp : p r = false) (h21 : ¬ r.e = 21) (hx : Ext w w2)
    (hres : w2.heap[w.heap.size]? = some (.cells zeroRow.cells.toArray 38 (0, 0))) (hoth : w2.heap[w.heap.size + 1]? = some (.cells (if 15 < k then ioRow else zeroRow).cells.toArray 38 (0, 0))) : FR w p (k + 1) w2 := by
  refine ⟨fun j hj => ?_, hres, ?_, hx⟩
  · by_cases e : j = k
    · rw [e, ← hr]; exact hp
    · exact h.none j (by omega)
  · have hne : k ≠ 15 := by
      rintro rfl
      exact h21 (by rw [hr]; rfl)
    rw [hoth]
    by_cases h15 : 15 < k
    · rw [if_pos h15, if_pos (by omega)]
    · rw [if_neg h15, if_neg (by omega)]
theorem find_lt {p : Row → Bool} : ∀ (l : List Row) (k : Nat), (∀ j, j < k → p (l.getD j zeroRow) = false) → k < l.length → p (l.getD k zeroRow) = true → l.find? p = some (l.getD k zeroRow)
  | [], k, _, h, _ => by simp at h
  | x :: l, 0, _, _, hp => by
    have hx : p x = true := by simpa using hp
    simp [List.find?, hx]
  | x :: l, k + 1, hn, hl, hp => by
    have hx : p x = false := by simpa using hn 0 (by omega)
    have := find_lt l k (fun j hj => by simpa using hn (j + 1) (by omega)) (by simpa using hl) (by simpa using hp)
    simp only [List.find?, hx, this, List.getD_cons_succ]
theorem pick_at (p : Row → Bool) (k : Nat) (hk : k < 19) (hn : ∀ j, j < k → p (rowAt j) = false) (hp : p (rowAt k) = true) : pick p = rowAt k := by
  unfold pick
  rw [find_lt rows k hn hk hp]; rfl
theorem pick_none (p : Row → Bool) (hn : ∀ j, j < 19 → p (rowAt j) = false) : pick p = ioRow := by
  unfold pick
  have : rows.find? p = Option.none := by
    rw [List.find?_eq_none]
    intro x hx
    obtain ⟨i, hi, rfl⟩ := List.getElem_of_mem hx
    have := hn i hi
    unfold rowAt at this
    rw [List.getD_eq_getElem?_getD, List.getElem?_eq_getElem hi] at this
    simpa using this
  rw [this]; rfl
theorem FR.found {w wr : World} {p : Row → Bool} {k : Nat} {r : Row} (h : FR w p k wr) (hr : r = rowAt k) (hk : k < 19) (hp : p r = true) : pick p = r := by
  subst hr
  exact pick_at p k hk h.none hp
theorem FR.lost {w wr : World} {p : Row → Bool} (h : FR w p 19 wr) : pick p = ioRow := pick_none p h.none

set_option maxHeartbeats 1000000 in
theorem find_any (f : FuncId) (caps : Array Value) (p : Row → Bool) (I : World → Prop) (hI : ∀ w w', I w → Ext w w' → I w')
    (hcl : ∀ r w, I w → Calls Tryd.prog f (#[r.val] ++ caps) w fun e w' => e = .returned (.bool (p r)) ∧ Ext w w')
    (hcf : ∀ (args : Array Value) (w : World), (callFunc f args).run Tryd.prog w = .ok (.enter f args) w) (w : World) (ht : TabW w) (hw : I w) :
    Calls Tryd.prog 24 #[.func (.func f) #[] caps] w fun e w' => e = .returned (pick p).val ∧ Ext w w' := by
  obtain ⟨tt, fr, hg⟩ := ht
  have h0 : 0 < w.heap.size := (Array.getElem?_eq_some_iff.1 hg).1
  have Hg := Lib.hid (show ∀ o1 o2 : Obj, ((w.alloc o1).alloc o2).heap[0]? = some (.cells tabCells tt fr) from fun o1 o2 => ((Ext.refl w).alloc o1 |>.alloc o2).heap hg)
  have HI := Lib.hid hI
  have HC := Lib.hid hcl
  clear hg hI hcl
  go_enter Tryd.func24, Tryd.ntmps24
  go_wp2_with (refine wpList_load_row rfl 44 _ rfl 0 rfl tt tabCells fr _ (Hg.out _ _) Tryd.underlying44 rfl (by kernel_rfl) ?_)
  go_loopw [7] (fun v7 wr => ∃ k : Nat, k ≤ 19 ∧ v7 = .int .i64 k ∧ FR w p k wr) (fun v7 _ => 19 - (intOf v7).toNat)
  case atStart => exact ⟨0, by omega, rfl, FR.start w p⟩
  case round =>
    obtain ⟨k, hk, rfl, HR⟩ := hrel
    by_cases hlt : k < 19
    · obtain ⟨r, hr⟩ : ∃ r, r = rowAt k := ⟨_, rfl⟩
      have hix := idx k hlt
      rw [← hr] at hix
      unfold Row.val at hix
      have Hr := Lib.hid hr
      clear hr
      have hd : decide ((k : Int) < 19) = true := by simp; omega
      go_wp2_with fail
      have hw1 : I (wr.alloc (.cells #[.int .i64 r.e, .int .u32 r.s, .int .i64 r.c, .string ⟨r.t.toArray⟩] 38)) := HI.out _ _ hw (HR.ext.alloc _)
      refine (HC.out r _ hw1).mono ?_
      rintro e w2 ⟨rfl, hx⟩
      obtain ⟨hn, c0, c1, c2, c3, f0, f1, f2, f3⟩ := blk4 (hx.heap (heap_alloc_new wr _))
      obtain ⟨hn', d0, d1, d2, d3, g0, g1, g2, g3⟩ := blk4 (hx.heap ((Ext.alloc (Ext.refl wr) _).heap HR.res))
      have hoth := hx.heap ((Ext.alloc (Ext.refl wr) _).heap HR.oth)
      have hres := hx.heap ((Ext.alloc (Ext.refl wr) _).heap HR.res)
      have hxx : Ext w w2 := (HR.ext.alloc _).trans hx
      obtain ⟨q, hq⟩ : ∃ q, q = (if 15 < k then ioRow else zeroRow) := ⟨_, rfl⟩
      rw [← hq] at hoth
      obtain ⟨hn2, e0, e1, e2, e3, j0, j1, j2, j3⟩ := blk4 hoth
      have Hq := Lib.hid hq
      have Hoth := Lib.hid hoth
      have Hres := Lib.hid hres
      clear hx hoth hw1 hq hres
      cases hp : p r
      · by_cases h21 : r.e = 21
        · have H21 := Lib.hid h21
          have hb21 : (r.e == 21) = true := by simp [h21]
          clear h21
          have N := Lib.hid (show FR w p (k + 1) (set4 w2 (w.heap.size + 1) (.int .i64 r.e) (.int .u32 r.s) (.int .i64 r.c) (.string ⟨r.t.toArray⟩)) from
            HR.next_io Hr.out hlt hp H21.out (hxx.set4 (by omega) _ _ _ _) (set4_other Hres.out (by omega)) (set4_same Hoth.out))
          go_wp2_with fail
          go_roundw
          case rel => exact ⟨k + 1, by omega, by go_num, N.out⟩
          case measure => simp [intOf]; omega
        · have H21 := Lib.hid h21
          have hb21 : (r.e == 21) = false := by simp [h21]
          clear h21
          go_wp2_with fail
          go_roundw
          case rel => exact ⟨k + 1, by omega, by go_num, HR.next Hr.out hlt hp H21.out hxx Hres.out (by rw [← Hq.out]; exact Hoth.out)⟩
          case measure => simp [intOf]; omega
      · go_wp2_with fail
        refine bodyPost_ret (v := r.val) (results_cell_row rfl _ _ w.heap.size 38 r.cells.toArray (0, 0) _ rfl (set4_same Hres.out) Tryd.underlying38 rfl (by kernel_rfl)) rfl ⟨?_, ?_⟩
        · rw [HR.found Hr.out hlt hp]
        · exact ((((Below.refl _ _).trans hxx).setCell (Nat.le_refl _) _).setCell (Nat.le_refl _) _ |>.setCell (Nat.le_refl _) _).setCell (Nat.le_refl _) _
    · have hd : decide ((k : Int) < 19) = false := by simp; omega
      obtain rfl : k = 19 := by omega
      have hoth := HR.oth
      have hres := HR.res
      simp only [show (15 < 19) = True from by simp, if_true] at hoth
      obtain ⟨hn, c0, c1, c2, c3, f0, f1, f2, f3⟩ := blk4 hoth
      obtain ⟨hn', d0, d1, d2, d3, g0, g1, g2, g3⟩ := blk4 hres
      clear hoth hres
      go_wp2_with fail
      refine bodyPost_ret (v := ioRow.val) (results_cell_row rfl _ _ w.heap.size 38 ioRow.cells.toArray (0, 0) _ rfl (set4_same HR.res) Tryd.underlying38 rfl (by kernel_rfl)) rfl ⟨?_, ?_⟩
      · rw [HR.lost]
      · exact ((((Below.refl _ _).trans HR.ext).setCell (Nat.le_refl _) _).setCell (Nat.le_refl _) _ |>.setCell (Nat.le_refl _) _).setCell (Nat.le_refl _) _
end Go.Proofs.YtfbdahhlhmdicaaDoor
