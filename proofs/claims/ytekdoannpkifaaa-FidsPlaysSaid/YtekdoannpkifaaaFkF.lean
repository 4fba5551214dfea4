/- The walks of the document's Set and Drop. -/
import Derived.Test.YtekdoannpkifaaaFkE
namespace Go.Proofs.Ytekdoannpkifaaa
open Go.ChangeShapes Go.WideShapes Go.ChangeAt Go.RowKit

/-- 'append(v, x...)' of pairs. -/
theorem PRow.app {w : World} {base : Nat} {v x : Value} {l m : List (Int × FV)} (h : PRow w base v l) (hx : SrcRow w 11 x m.length (pCells m)) (hl : l.length + m.length ≤ 1000) (hb : base ≤ w.heap.size) (ty : TypeId) :
    ∃ v' w', (Builtin.append_ #[41, 41] ty #[v, x]).run Try.prog w = .ok v' w' ∧ PRow w' base v' (l ++ m) ∧ Upd v.ownBlock.toList w w' := by
  obtain ⟨v', w', h1, h2, h3, _⟩ := own_append (P := Try.prog) (t := 41) (ty := ty) Try.underlying41 infoP rfl (by decide) h hx (by unfold maxLen; omega) (by omega) hb
  refine ⟨v', w', h1, ?_, h3⟩
  unfold PRow
  rw [pCells_app, List.length_append]
  exact h2
def P11 (p : Int × FV) : Array Value := #[.int .i64 p.1, .int .i64 p.2.h1, .int .i64 p.2.h2, .int .i64 p.2.u1, .int .i64 p.2.u2, .string p.2.name, .bool p.2.dir, .bool p.2.opn, .int .i64 p.2.mode, .int .i64 p.2.off, .int .i64 p.2.at_]
theorem P11_cells (p : Int × FV) : (P11 p).toList = pCells [p] := rfl
theorem PRow.push {w : World} {base : Nat} {v : Value} {l : List (Int × FV)} (h : PRow w base v l) (hl : l.length ≤ 900) (hb : base ≤ w.heap.size) (p : Int × FV) (ty : TypeId) :
    ∃ v' w', (Builtin.append_ #[41, 41] ty #[v, .slice (some ⟨w.heap.size, 0, none⟩) 1 1]).run Try.prog (w.alloc (.cells (P11 p) 63)) = .ok v' w' ∧ PRow w' base v' (l ++ [p]) ∧ Upd v.ownBlock.toList w w' := by
  have hx := (Ext.refl w).alloc (.cells (P11 p) 63)
  have hs := src_new w 11 (P11 p) 63 rfl (fun u hu => pCells_one [p] u (by rw [← P11_cells]; exact hu))
  rw [P11_cells] at hs
  obtain ⟨v', w', h1, h2, h3⟩ := (h.ext hx).app (m := [p]) hs (by simp; omega) (by simp; omega) ty
  exact ⟨v', w', h1, h2, (hx.upd _).trans h3⟩
theorem PRow.head {w : World} {base : Nat} {v : Value} {l : List (Int × FV)} (h : PRow w base v l) (k : Nat) (hk : k ≤ l.length) :
    ∃ v', (Instr.sliceAt 41 v none (some (.int .i64 k)) none).run Try.prog w = .ok v' w ∧ SrcRow w 11 v' (l.take k).length (pCells (l.take k)) := by
  obtain ⟨v1, s1, s2⟩ := own_head (P := Try.prog) (t := 41) h (pCells_one l) Try.underlying41 sizeP k hk
  rw [← pCells_take] at s2
  exact ⟨v1, s1, by rw [List.length_take, Nat.min_eq_left hk]; exact s2⟩
theorem PRow.tail {w : World} {base : Nat} {v : Value} {l : List (Int × FV)} (h : PRow w base v l) (k : Nat) (hk : k ≤ l.length) :
    ∃ v', (Instr.sliceAt 41 v (some (.int .i64 k)) none none).run Try.prog w = .ok v' w ∧ SrcRow w 11 v' (l.drop k).length (pCells (l.drop k)) := by
  obtain ⟨v1, s1, s2⟩ := own_tail (P := Try.prog) (t := 41) h (pCells_one l) Try.underlying41 sizeP k hk
  rw [← pCells_drop] at s2
  exact ⟨v1, s1, by rw [List.length_drop]; exact s2⟩
theorem PRow.block {w : World} {base : Nat} {v : Value} {l : List (Int × FV)} (h : PRow w base v l) (hl : 0 < l.length) : ∃ g cap cur, v = .slice (some ⟨g, 0, none⟩) l.length cap ∧ base ≤ g ∧ w.heap[g]? = some (.cells cur 63 (0, 0)) ∧ l.length ≤ cap ∧ cap ≤ maxLen ∧ cur.size = cap * 11 := by
  rcases h.2 with ⟨rfl, h0⟩ | ⟨g, cap, cur, hv, hb, hg, hn, hm, hs, ht⟩
  · omega
  · exact ⟨g, cap, cur, hv, hb, hg, hn, hm, hs⟩
theorem PRow.put {w : World} {base g cap n : Nat} {l : List (Int × FV)} (h : PRow w base (.slice (some ⟨g, 0, none⟩) n cap) l) (hn : n = l.length) (k : Nat) (hk : k < l.length) (x : FV) :
    ∃ w', (Instr.storeAt 39 (.pointer (some ⟨g, k * 11 + 1, none⟩)) x.val).run Try.prog w = .ok () w' ∧ PRow w' base (.slice (some ⟨g, 0, none⟩) n cap) (l.set k (l[k].1, x)) ∧ Upd [g] w w' := by
  subst hn
  obtain ⟨g', cap', cur, hv, hb, hg, hc1, hc2, hcs⟩ := h.block (by omega)
  injection hv with e1 _ e2
  injection e1 with e1
  injection e1 with e1
  subst e1 e2
  have ht : w.there g (k * 11 + 1) x.cells.size := fun j hj => by
    refine ⟨?_, free_of hg _⟩
    rw [cell_of hg]
    have hj' : j < 10 := hj
    rw [Array.getElem?_eq_getElem (by omega)]
    rfl
  have hs : (Try.prog.info? 39).map (·.size) = some x.cells.size := sizeX
  have hr := run_storeAt_mid (P := Try.prog) w g (k * 11 + 1) 39 x.cells ht hs x.one
  have ho := own_stores x.cells.toList (k * 11 + 1) w _ h
  rw [pCells_set l k hk x] at ho
  rw [val_cells]
  refine ⟨_, hr, ?_, setCells_upd g _ _ w⟩
  unfold PRow
  rw [List.length_set]
  exact ho
theorem alloc3b (w : World) (A B C : Obj) {w1 : World} (hx : Ext (((w.alloc A).alloc B).alloc C) w1) : w1.heap[w.heap.size]? = some A ∧ w1.heap[w.heap.size + 1]? = some B ∧ w1.heap[w.heap.size + 1 + 1]? = some C := by
  obtain ⟨h1, h2⟩ := alloc2b w A B (((Ext.refl _).alloc C).trans hx)
  have h3 := hx.heap (heap_alloc_new ((w.alloc A).alloc B) C)
  simp only [World.size_alloc] at h3
  exact ⟨h1, h2, h3⟩

section
variable (w : World) (base : Nat) (most : Int) (v : Value) (l : List (Int × FV)) (n : Int)
set_option maxRecDepth 100000 in
set_option maxHeartbeats 2000000 in
theorem refSet_none (h : PRow w base v l) (hl : l.length ≤ 100) (x : FV) (hb : ∀ j (hj : j < l.length), isN n l[j] = false) :
    Calls Try.prog 21 #[.agg #[.int .i64 most, v], .int .i64 n, x.val] w fun r w' => r = .returned (.tuple #[.agg #[.int .i64 most, v], .int .i64 17]) ∧ Ext w w' := by
  have HF := Lib.hid (fun W (hW : Ext w W) => find_none W base most v l n (h.ext hW) hl hb)
  obtain ⟨a, cap, rfl, -⟩ := h.form
  clear h hb
  generalize l.length = m at *
  unfold FV.val
  go_enter Try.func21, Try.ntmps21
  go_wp2_with fail
  refine (HF.out _ ((((Ext.refl w).alloc _).alloc _).alloc _)).mono ?_
  rintro r w1 ⟨rfl, hx⟩
  obtain ⟨hb0, hb1, hb2⟩ := alloc3b w _ _ _ hx
  obtain ⟨s0, s1, _, _⟩ := blk2 hb0
  obtain ⟨t0, t1, t2, t3⟩ := blk2 hb2
  have hz := lt_of_heap hb2
  have HX := Lib.hid (show Ext w ((w1.setCell ⟨w.heap.size + 1 + 1, 0, none⟩ (.int .i64 most)).setCell ⟨w.heap.size + 1 + 1, 1, none⟩ (.slice a m cap)) from
    (((Upd.refl [w.heap.size + 1 + 1] w1).setCell _ _ (by simp)).setCell _ _ (by simp)).ext (((((Ext.refl w).alloc _).alloc _).alloc _).trans hx) (by simp; omega))
  clear hb0 hb1 hb2 hx HF
  go_wp2_with fail
  exact bodyPost_ret (v := .tuple #[.agg #[.int .i64 most, .slice a m cap], .int .i64 17]) (by simp [results, Try.results21, go_sem, *]) rfl ⟨rfl, HX.out⟩

set_option maxRecDepth 100000 in
set_option maxHeartbeats 2000000 in
theorem refSet_ok (h : PRow w base v l) (hl : l.length ≤ 100) (x : FV) (k : Nat) (hk : k < l.length) (hh : isN n l[k] = true) (hb : ∀ j (hj : j < l.length), j < k → isN n l[j] = false) :
    Calls Try.prog 21 #[.agg #[.int .i64 most, v], .int .i64 n, x.val] w fun r w' => ∃ v', r = .returned (.tuple #[.agg #[.int .i64 most, v'], .int .i64 0]) ∧ PRow w' w.heap.size v' (l.set k (n, x)) ∧ Ext w w' := by
  have HF := Lib.hid (fun W (hW : Ext w W) => find_some W base most v l n (h.ext hW) hl k hk hh hb)
  have H := Lib.hid h
  have HKn := Lib.hid (show l[k].1 = n by simpa [isN] using hh)
  obtain ⟨a, cap, rfl, -⟩ := h.form
  clear h hb hh
  obtain ⟨m, hm⟩ : ∃ m, m = l.length := ⟨_, rfl⟩
  rw [← hm] at HF H hl ⊢
  have HM := Lib.hid hm
  clear hm
  have HV := Lib.hid (show x.val = .agg #[.int .i64 x.h1, .int .i64 x.h2, .int .i64 x.u1, .int .i64 x.u2, .string x.name, .bool x.dir, .bool x.opn, .int .i64 x.mode, .int .i64 x.off, .int .i64 x.at_] from rfl)
  rw [HV.out]
  go_enter Try.func21, Try.ntmps21
  go_wp2_with fail
  refine (HF.out _ ((((Ext.refl w).alloc _).alloc _).alloc _)).mono ?_
  rintro r w1 ⟨rfl, hx⟩
  obtain ⟨hb0, hb1, hb2⟩ := alloc3b w _ _ _ hx
  have hX1 : Ext w w1 := ((((Ext.refl w).alloc _).alloc _).alloc _).trans hx
  obtain ⟨v', w2, p1, p2, p3⟩ := (PRow.nil w1 w1.heap.size).app (m := l) (own_src (H.out.ext hX1) (pCells_one l)) (by simp; rw [← HM.out]; omega) (Nat.le_refl _) 41
  rw [List.nil_append] at p2
  have hx2 := upd_nil_ext p3
  obtain ⟨g, c, cur, rfl, hg1, hg2, hc1, hc2, -⟩ := p2.block (by omega)
  have hz1 := lt_of_heap hb2
  have c0 := hx2.heap hb0
  have c1 := hx2.heap hb1
  have c2 := hx2.heap hb2
  have hzw1 := (blk2 hb0).2.1
  rw [← HM.out] at hc1 p2 p1
  obtain ⟨w3, r1, r2, r3⟩ := p2.put HM.out k hk x
  rw [HKn.out] at r2
  have n0 : w.heap.size ≠ g := by omega
  have n1 : w.heap.size + 1 ≠ g := by omega
  have n2 : w.heap.size + 1 + 1 ≠ g := by omega
  have d0 := r3.heap c0 (by simpa using n0)
  have d2 := r3.heap c2 (by simpa using n2)
  obtain ⟨q0, q1, q2, q3, q4, q5, q6, q7, q8, q9⟩ := blk10 (v := x) c1
  obtain ⟨s0, s1, s2, s3⟩ := blk2 d0
  obtain ⟨y0, y1, y2, y3⟩ := blk2 d2
  have hz2 := hx2.size
  have hz3 := r3.size
  have hg3 := lt_of_heap hg2
  have hk0 : (0 : Int) ≤ (k : Int) := by omega
  have hk1 : (k : Int) < (m : Int) := by rw [HM.out]; omega
  unfold maxLen at hc2
  have HU : Hid (PRow (((w3.setCell ⟨w.heap.size, 1, none⟩ (.slice (some ⟨g, 0, none⟩) m c)).setCell ⟨w.heap.size + 1 + 1, 0, none⟩ (.int .i64 most)).setCell ⟨w.heap.size + 1 + 1, 1, none⟩ (.slice (some ⟨g, 0, none⟩) m c)) w.heap.size (.slice (some ⟨g, 0, none⟩) m c) (l.set k (n, x))) :=
    Lib.hid (ownsRow_mono (ownsRow_upd r2 ((((Upd.refl [w.heap.size, w.heap.size + 1 + 1] _).setCell _ _ (by simp)).setCell _ _ (by simp)).setCell _ _ (by simp)) (fun g0 e0 => by simp [Value.ownBlock] at e0; simp; omega)) (by omega))
  have HX : Hid (Ext w (((w3.setCell ⟨w.heap.size, 1, none⟩ (.slice (some ⟨g, 0, none⟩) m c)).setCell ⟨w.heap.size + 1 + 1, 0, none⟩ (.int .i64 most)).setCell ⟨w.heap.size + 1 + 1, 1, none⟩ (.slice (some ⟨g, 0, none⟩) m c))) :=
    Lib.hid ((((r3.mono (T := [g, w.heap.size, w.heap.size + 1 + 1]) (by simp)).setCell _ _ (by simp)).setCell _ _ (by simp)).setCell _ _ (by simp) |>.ext (hX1.trans hx2) (by simp; omega))
  rw [HV.out] at r1
  have P1 := Lib.hid p1
  have R1 := Lib.hid r1
  clear hx hX1 p1 p2 p3 hx2 hb0 hb1 hb2 c0 c1 c2 HF H hg2 r1 r2 r3 d0 d2
  go_wp2_with (first | (at_builtin; refine wpList_append_run rfl (.tmp 16) (.tmp 18) _ rfl _ _ _ rfl rfl P1.out ?_) | (refine wpList_store_run rfl 39 (.tmp 24) (.tmp 22) rfl _ _ rfl rfl R1.out ?_))
  refine bodyPost_ret (v := .tuple #[.agg #[.int .i64 most, .slice (some ⟨g, 0, none⟩) m c], .int .i64 0]) (by simp [results, Try.results21, go_sem, *]) rfl ⟨_, rfl, ?_, ?_⟩
  · exact HU.out
  · exact HX.out
end
end Go.Proofs.Ytekdoannpkifaaa
