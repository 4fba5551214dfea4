/- The walks of the document's Drop and Add. -/
import Derived.Test.YtekdoannpkifaaaFkF
namespace Go.Proofs.Ytekdoannpkifaaa
open Go.ChangeShapes Go.WideShapes Go.ChangeAt Go.RowKit

section
variable (w : World) (base : Nat) (most : Int) (v : Value) (l : List (Int × FV)) (n : Int)
set_option maxRecDepth 100000 in
set_option maxHeartbeats 2000000 in
theorem refDrop_none (h : PRow w base v l) (hl : l.length ≤ 100) (hb : ∀ j (hj : j < l.length), isN n l[j] = false) :
    Calls Try.prog 22 #[.agg #[.int .i64 most, v], .int .i64 n] w fun r w' => r = .returned (.tuple #[.agg #[.int .i64 most, v], .int .i64 17]) ∧ Ext w w' := by
  have HF := Lib.hid (fun W (hW : Ext w W) => find_none W base most v l n (h.ext hW) hl hb)
  obtain ⟨a, cap, rfl, -⟩ := h.form
  clear h hb
  generalize l.length = m at *
  go_enter Try.func22, Try.ntmps22
  go_wp2_with fail
  refine (HF.out _ (((Ext.refl w).alloc _).alloc _)).mono ?_
  rintro r w1 ⟨rfl, hx⟩
  obtain ⟨hb0, hb1⟩ := alloc2b w _ _ hx
  obtain ⟨s0, s1, _, _⟩ := blk2 hb0
  obtain ⟨t0, t1, t2, t3⟩ := blk2 hb1
  have hz := lt_of_heap hb1
  have HX := Lib.hid (show Ext w ((w1.setCell ⟨w.heap.size + 1, 0, none⟩ (.int .i64 most)).setCell ⟨w.heap.size + 1, 1, none⟩ (.slice a m cap)) from
    (((Upd.refl [w.heap.size + 1] w1).setCell _ _ (by simp)).setCell _ _ (by simp)).ext ((((Ext.refl w).alloc _).alloc _).trans hx) (by simp))
  clear hb0 hb1 hx HF
  go_wp2_with fail
  exact bodyPost_ret (v := .tuple #[.agg #[.int .i64 most, .slice a m cap], .int .i64 17]) (by simp [results, Try.results22, go_sem, *]) rfl ⟨rfl, HX.out⟩

set_option maxRecDepth 100000 in
set_option maxHeartbeats 4000000 in
theorem refDrop_ok (h : PRow w base v l) (hl : l.length ≤ 100) (k : Nat) (hk : k < l.length) (hh : isN n l[k] = true) (hb : ∀ j (hj : j < l.length), j < k → isN n l[j] = false) :
    Calls Try.prog 22 #[.agg #[.int .i64 most, v], .int .i64 n] w fun r w' => ∃ v', r = .returned (.tuple #[.agg #[.int .i64 most, v'], .int .i64 0]) ∧ PRow w' w.heap.size v' (l.eraseIdx k) ∧ Ext w w' := by
  have HF := Lib.hid (fun W (hW : Ext w W) => find_some W base most v l n (h.ext hW) hl k hk hh hb)
  have H := Lib.hid h
  obtain ⟨a, cap, rfl, -⟩ := h.form
  clear h hb hh
  obtain ⟨m, hm⟩ : ∃ m, m = l.length := ⟨_, rfl⟩
  rw [← hm] at HF H hl ⊢
  have HM := Lib.hid hm
  clear hm
  go_enter Try.func22, Try.ntmps22
  go_wp2_with fail
  refine (HF.out _ (((Ext.refl w).alloc _).alloc _)).mono ?_
  rintro r W ⟨rfl, hx⟩
  obtain ⟨b0, b1⟩ := alloc2b w _ _ hx
  have hE : Ext w W := (((Ext.refl w).alloc _).alloc _).trans hx
  have hz : w.heap.size + 1 < W.heap.size := lt_of_heap b1
  have hr := H.out.ext hE
  obtain ⟨v1, s1, s2⟩ := hr.head k (by omega)
  obtain ⟨v2, w2, p1, p2, p3⟩ := (PRow.nil W W.heap.size).app (m := l.take k) s2 (by rw [List.length_take]; simp; rw [← HM.out]; omega) (Nat.le_refl _) 41
  have hx2 := upd_nil_ext p3
  obtain ⟨v3, t1, t2⟩ := (hr.ext hx2).tail (k + 1) (by omega)
  obtain ⟨v4, w4, r1, r2, r3⟩ := p2.app (m := l.drop (k + 1)) t2 (by rw [List.length_drop, List.nil_append, List.length_take, ← HM.out]; omega) hx2.size 41
  rw [List.nil_append] at p2 r2
  rw [show l.take k ++ l.drop (k + 1) = l.eraseIdx k from (List.eraseIdx_eq_take_drop_succ l k).symm] at r2
  have hfar : ∀ q ∈ v2.ownBlock.toList, w.heap.size + 2 ≤ q := fun q hq => by
    have := (World.ownsRow.lt p2 q (by simpa using hq)).1; omega
  have c0 := r3.heap (hx2.heap b0) (fun hm => by have := hfar _ hm; omega)
  have c1 := r3.heap (hx2.heap b1) (fun hm => by have := hfar _ hm; omega)
  obtain ⟨a2, cap2, rfl, -⟩ := p2.form
  obtain ⟨a4, cap4, rfl, -⟩ := r2.form
  have d0 := (blk2 b0).2.1
  have d2 := (blk2 (hx2.heap b0)).2.1
  obtain ⟨e0, e1, e2, e3⟩ := blk2 c0
  obtain ⟨f0, f1, f2, f3⟩ := blk2 c1
  have lz := lt_of_heap c1
  have lW := lt_of_heap b1
  have l2 := lt_of_heap (hx2.heap b1)
  generalize (l.eraseIdx k).length = n4 at *
  generalize (l.take k).length = n2 at *
  have hk0 : (0 : Int) ≤ (k : Int) := by omega
  have hk1 : (k : Int) < (m : Int) := by rw [HM.out]; omega
  have HU : Hid (PRow (((w4.setCell ⟨w.heap.size, 1, none⟩ (.slice a4 n4 cap4)).setCell ⟨w.heap.size + 1, 0, none⟩ (.int .i64 most)).setCell ⟨w.heap.size + 1, 1, none⟩ (.slice a4 n4 cap4)) w.heap.size (.slice a4 n4 cap4) (l.eraseIdx k)) :=
    Lib.hid (ownsRow_mono (ownsRow_upd r2 ((((Upd.refl [w.heap.size, w.heap.size + 1] _).setCell _ _ (by simp)).setCell _ _ (by simp)).setCell _ _ (by simp)) (fun g0 e0 => by have := (World.ownsRow.lt r2 g0 e0).1; simp; omega)) (by omega))
  have HX : Hid (Ext w (((w4.setCell ⟨w.heap.size, 1, none⟩ (.slice a4 n4 cap4)).setCell ⟨w.heap.size + 1, 0, none⟩ (.int .i64 most)).setCell ⟨w.heap.size + 1, 1, none⟩ (.slice a4 n4 cap4))) := by
    have hw4 : Ext w w4 := r3.ext (hE.trans hx2) (fun q hq => by have := hfar q hq; omega)
    exact Lib.hid (((((Upd.refl [w.heap.size, w.heap.size + 1] w4).setCell _ _ (by simp)).setCell _ _ (by simp)).setCell _ _ (by simp)).ext hw4 (by simp))
  have S1 := Lib.hid s1
  have P1 := Lib.hid p1
  have T1 := Lib.hid t1
  have R1 := Lib.hid r1
  clear hE hr s1 s2 p1 p2 p3 t1 t2 r1 r2 r3 b0 b1 c0 c1 hfar hx2 hx hz HF H
  go_wp2_with (first | ((with_reducible refine wpList_slice_run (o := ⟨some 18, .slice _ (.tmp 16) none (some (.tmp 17)) none, _, _, _, none⟩) rfl _ _ _ _ rfl _ _ _ ?_ ?_ ?_ _ S1.out ?_); (· rfl); (· rfl); (· rfl)) | ((with_reducible refine wpList_slice_run (o := ⟨some 25, .slice _ (.tmp 22) (some (.tmp 24)) none none, _, _, _, none⟩) rfl _ _ _ _ rfl _ _ _ ?_ ?_ ?_ _ T1.out ?_); (· rfl); (· rfl); (· rfl)) | (at_builtin; refine wpList_append_run rfl (.tmp 14) (.tmp 18) _ rfl _ _ _ rfl rfl P1.out ?_) | (at_builtin; refine wpList_append_run rfl (.tmp 20) (.tmp 25) _ rfl _ _ _ rfl rfl R1.out ?_))
  refine bodyPost_ret (v := .tuple #[.agg #[.int .i64 most, .slice a4 n4 cap4], .int .i64 0]) (by simp [results, Try.results22, go_sem, *]) rfl ⟨_, rfl, ?_, ?_⟩
  · exact HU.out
  · exact HX.out

set_option maxRecDepth 100000 in
set_option maxHeartbeats 2000000 in
theorem refAdd_no (h : PRow w base v l) (x : FV) (e : Int) (he : (e == 0) = false) (hf : ∀ W, Ext w W → Calls Try.prog 24 #[.agg #[.int .i64 most, v], .int .i64 n] W fun r w' => r = .returned (.int .i64 e) ∧ Ext W w') :
    Calls Try.prog 15 #[.agg #[.int .i64 most, v], .int .i64 n, x.val] w fun r w' => r = .returned (.tuple #[.agg #[.int .i64 most, v], .int .i64 e]) ∧ Ext w w' := by
  have HF := Lib.hid hf
  have hne : (e != 0) = true := by simpa using he
  obtain ⟨a, cap, rfl, -⟩ := h.form
  clear h hf he
  generalize l.length = m at *
  unfold FV.val
  go_enter Try.func15, Try.ntmps15
  go_wp2_with fail
  refine (HF.out _ ((((Ext.refl w).alloc _).alloc _).alloc _)).mono ?_
  rintro r w1 ⟨rfl, hx⟩
  obtain ⟨hb0, hb1, hb2⟩ := alloc3b w _ _ _ hx
  obtain ⟨s0, s1, _, _⟩ := blk2 hb0
  obtain ⟨t0, t1, t2, t3⟩ := blk2 hb2
  have hz := lt_of_heap hb2
  have HX := Lib.hid (show Ext w ((w1.setCell ⟨w.heap.size + 1 + 1, 0, none⟩ (.int .i64 most)).setCell ⟨w.heap.size + 1 + 1, 1, none⟩ (.slice a m cap)) from
    (((Upd.refl [w.heap.size + 1 + 1] w1).setCell _ _ (by simp)).setCell _ _ (by simp)).ext (((((Ext.refl w).alloc _).alloc _).alloc _).trans hx) (by simp; omega))
  clear hb0 hb1 hb2 hx HF
  go_wp2_with fail
  exact bodyPost_ret (v := .tuple #[.agg #[.int .i64 most, .slice a m cap], .int .i64 e]) (by simp [results, Try.results15, go_sem, *]) rfl ⟨rfl, HX.out⟩
end
end Go.Proofs.Ytekdoannpkifaaa
