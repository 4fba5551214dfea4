/- The walk of the document's Add. -/
import Derived.Test.YtekdoannpkifaaaFkG
namespace Go.Proofs.Ytekdoannpkifaaa
open Go.ChangeShapes Go.WideShapes Go.ChangeAt Go.RowKit

/-- A pair is put into its place. -/
def insP (l : List (Int × FV)) (k : Nat) (p : Int × FV) : List (Int × FV) := l.take k ++ [p] ++ l.drop k
set_option maxRecDepth 100000 in
set_option maxHeartbeats 4000000 in
theorem refAdd_ok (w : World) (base : Nat) (most : Int) (v : Value) (l : List (Int × FV)) (n : Int) (h : PRow w base v l) (hl : l.length ≤ 90) (x : FV) (K : Nat) (hK : K ≤ l.length) (hlt : ∀ j (hj : j < l.length), j < K → l[j].1 < n) (hge : ∀ hk : K < l.length, n ≤ l[K].1)
    (hf : ∀ W, Ext w W → Calls Try.prog 24 #[.agg #[.int .i64 most, v], .int .i64 n] W fun r w' => r = .returned (.int .i64 0) ∧ Ext W w') :
    Calls Try.prog 15 #[.agg #[.int .i64 most, v], .int .i64 n, x.val] w fun r w' => ∃ v', r = .returned (.tuple #[.agg #[.int .i64 most, v'], .int .i64 0]) ∧ PRow w' w.heap.size v' (insP l K (n, x)) ∧ Ext w w' := by
  have HF := Lib.hid hf
  have HLt := Lib.hid hlt
  have HGe := Lib.hid hge
  have H := Lib.hid h
  obtain ⟨a, cap, rfl, -⟩ := h.form
  clear h hf hlt hge
  obtain ⟨m, hm⟩ : ∃ m, m = l.length := ⟨_, rfl⟩
  rw [← hm] at HF H hl hK ⊢
  have HM := Lib.hid hm
  clear hm
  have HV := Lib.hid (show x.val = .agg #[.int .i64 x.h1, .int .i64 x.h2, .int .i64 x.u1, .int .i64 x.u2, .string x.name, .bool x.dir, .bool x.opn, .int .i64 x.mode, .int .i64 x.off, .int .i64 x.at_] from rfl)
  rw [HV.out]
  go_enter Try.func15, Try.ntmps15
  go_wp2_with fail
  refine (HF.out _ ((((Ext.refl w).alloc _).alloc _).alloc _)).mono ?_
  rintro r W ⟨rfl, hx⟩
  obtain ⟨b0, b1, b2⟩ := alloc3b w _ _ _ hx
  have HE := Lib.hid (((((Ext.refl w).alloc _).alloc _).alloc _).trans hx)
  have lW : w.heap.size + 1 + 1 < W.heap.size := lt_of_heap b2
  obtain ⟨s0, s1, -, -⟩ := blk2 b0
  have B0 := Lib.hid b0
  have B1 := Lib.hid b1
  have B2 := Lib.hid b2
  clear hx b0 b1 b2 HF
  go_wp2_with fail
  go_loop [9] (fun v9 => ∃ j : Nat, j ≤ K ∧ v9 = .int .i64 j) (fun v9 => K - (RowKit.intOf v9).toNat)
  case atStart => exact ⟨0, by omega, rfl⟩
  case round =>
    obtain ⟨j, hj, rfl⟩ := hrel
    by_cases hjK : j < K
    · have hjl : j < l.length := by rw [← HM.out]; omega
      obtain ⟨a', cap', hv', hcl, hcm, hcell⟩ := (H.out.ext HE.out).form
      injection hv' with e1 e3 e2
      subst e1 e2
      clear e3
      unfold maxLen at hcm
      obtain ⟨g, rfl, -, hg, q0, -⟩ := hcell j hjl
      have hd : decide (j < m) = true := by simp; omega
      have hd' : decide ((j : Int) < (m : Int)) = true := by simp; omega
      have hj0 : (0 : Int) ≤ (j : Int) := by omega
      have hj1 : (j : Int) < (m : Int) := by omega
      have hp : decide (l[j].1 < n) = true := by simpa using HLt.out j hjl hjK
      rw [← HM.out] at hcl
      clear hcell
      generalize l[j].1 = ri at *
      go_wp2_with fail
      go_round
      case rel => exact ⟨j + 1, by omega, by go_num⟩
      case measure => simp [RowKit.intOf]; omega
    · obtain rfl : j = K := by omega
      have hr := H.out.ext HE.out
      obtain ⟨v1, s1', s2'⟩ := hr.head j (by rw [← HM.out]; omega)
      obtain ⟨v2, w2, p1, p2, p3⟩ := (PRow.nil W W.heap.size).app (m := l.take j) s2' (by rw [List.length_take]; simp; rw [← HM.out]; omega) (Nat.le_refl _) 41
      rw [List.nil_append] at p2
      have hx2 := upd_nil_ext p3
      obtain ⟨v4, w4, r1, r2, r3⟩ := p2.push (by rw [List.length_take, ← HM.out]; omega) hx2.size (n, x) 41
      have hfar : ∀ q ∈ v2.ownBlock.toList, W.heap.size ≤ q := fun q hq => (World.ownsRow.lt p2 q (by simpa using hq)).1
      have hx4 : Ext W w4 := r3.ext hx2 hfar
      obtain ⟨v5, y1, y2⟩ := (hr.ext hx4).tail j (by rw [← HM.out]; omega)
      obtain ⟨v6, w6, z1, z2, z3⟩ := r2.app (m := l.drop j) y2 (by rw [List.length_append, List.length_take, List.length_drop, ← HM.out]; simp; omega) (Nat.le_trans hx2.size r3.size) 41
      have hfar4 : ∀ q ∈ v4.ownBlock.toList, W.heap.size ≤ q := fun q hq => (World.ownsRow.lt r2 q (by simpa using hq)).1
      have hx6 : Ext W w6 := z3.ext hx4 hfar4
      obtain ⟨a2, cap2, rfl, -⟩ := p2.form
      obtain ⟨a4, cap4, rfl, -⟩ := r2.form
      obtain ⟨a6, cap6, rfl, -⟩ := z2.form
      obtain ⟨s0', s1'', -, -⟩ := blk2 (hx2.heap B0.out)
      obtain ⟨i0, i1, -, -⟩ := blk2 (hx4.heap B0.out)
      obtain ⟨q0, q1, q2, q3, q4, q5, q6, q7, q8, q9⟩ := blk10 (v := x) (hx2.heap B1.out)
      obtain ⟨d0, d1, d2, d3⟩ := blk2 (hx6.heap B0.out)
      obtain ⟨f0, f1, f2, f3⟩ := blk2 (hx6.heap B2.out)
      have lw2 := lt_of_heap (hx2.heap B2.out)
      have lw4 := lt_of_heap (hx4.heap B2.out)
      have lw6 := lt_of_heap (hx6.heap B2.out)
      generalize (l.take j ++ [(n, x)] ++ l.drop j).length = n6 at *
      generalize (l.take j ++ [(n, x)]).length = n4 at *
      generalize (l.take j).length = n2 at *
      have hj0 : (0 : Int) ≤ (j : Int) := by omega
      have hj1 : (j : Int) ≤ (m : Int) := by omega
      have HU : Hid (PRow (((w6.setCell ⟨w.heap.size, 1, none⟩ (.slice a6 n6 cap6)).setCell ⟨w.heap.size + 1 + 1, 0, none⟩ (.int .i64 most)).setCell ⟨w.heap.size + 1 + 1, 1, none⟩ (.slice a6 n6 cap6)) w.heap.size (.slice a6 n6 cap6) (insP l j (n, x))) :=
        Lib.hid (ownsRow_mono (ownsRow_upd z2 ((((Upd.refl [w.heap.size, w.heap.size + 1 + 1] _).setCell _ _ (by simp)).setCell _ _ (by simp)).setCell _ _ (by simp)) (fun g0 e0 => by have := (World.ownsRow.lt z2 g0 e0).1; simp; omega)) (by omega))
      have HX : Hid (Ext w (((w6.setCell ⟨w.heap.size, 1, none⟩ (.slice a6 n6 cap6)).setCell ⟨w.heap.size + 1 + 1, 0, none⟩ (.int .i64 most)).setCell ⟨w.heap.size + 1 + 1, 1, none⟩ (.slice a6 n6 cap6))) :=
        Lib.hid (((((Upd.refl [w.heap.size, w.heap.size + 1 + 1] w6).setCell _ _ (by simp)).setCell _ _ (by simp)).setCell _ _ (by simp)).ext (HE.out.trans hx6) (by simp; omega))
      have S1 := Lib.hid s1'
      have P1 := Lib.hid p1
      have R1 := Lib.hid r1
      have Y1 := Lib.hid y1
      have Z1 := Lib.hid z1
      have HCell : Hid (∀ hjl : j < m, ∃ g cap', a = some ⟨g, 0, none⟩ ∧ cap' = cap ∧ m ≤ cap ∧ cap ≤ 2 ^ 63 - 1 ∧ g < W.heap.size ∧ ∃ ri, W.cell? ⟨g, j * 11, none⟩ = some (.int .i64 ri) ∧ n ≤ ri) := Lib.hid (fun hjl => by
        have hjl' : j < l.length := by rw [← HM.out]; exact hjl
        obtain ⟨a', cap', hv', hcl, hcm, hcell⟩ := hr.form
        injection hv' with e1 e3 e2
        subst e1 e2
        obtain ⟨g, rfl, -, hg, q0, -⟩ := hcell j hjl'
        exact ⟨g, _, rfl, rfl, by rw [HM.out]; exact hcl, hcm, hg, _, q0, HGe.out hjl'⟩)
      clear hr s1' s2' p1 p2 p3 hx2 r1 r2 r3 hfar hx4 y1 y2 z1 z2 z3 hfar4 hx6 H HLt HGe
      by_cases hjm : j < m
      · obtain ⟨g, _, rfl, -, hcl, hcm, hg, ri, q0', hri⟩ := HCell.out hjm
        have hd : decide (j < m) = true := by simp; omega
        have hd' : decide ((j : Int) < (m : Int)) = true := by simp; omega
        have hj2 : (j : Int) < (m : Int) := by omega
        have hp : decide (ri < n) = false := by simp; omega
        clear HCell hri
        go_wp2_with (first | ((with_reducible refine wpList_slice_run (o := ⟨some 39, .slice _ (.tmp 37) none (some (.tmp 38)) none, _, _, _, none⟩) rfl _ _ _ _ rfl _ _ _ ?_ ?_ ?_ _ S1.out ?_); (· rfl); (· rfl); (· rfl)) | ((with_reducible refine wpList_slice_run (o := ⟨some 51, .slice _ (.tmp 49) (some (.tmp 50)) none none, _, _, _, none⟩) rfl _ _ _ _ rfl _ _ _ ?_ ?_ ?_ _ Y1.out ?_); (· rfl); (· rfl); (· rfl)) | (at_builtin; refine wpList_append_run rfl (.tmp 35) (.tmp 39) _ rfl _ _ _ rfl rfl P1.out ?_) | (at_builtin; refine wpList_append_run rfl (.tmp 41) (.tmp 45) _ rfl _ _ _ rfl rfl R1.out ?_) | (at_builtin; refine wpList_append_run rfl (.tmp 47) (.tmp 51) _ rfl _ _ _ rfl rfl Z1.out ?_))
        refine bodyPost_ret (v := .tuple #[.agg #[.int .i64 most, .slice a6 n6 cap6], .int .i64 0]) (by simp [results, Try.results15, go_sem, *]) rfl ⟨_, rfl, ?_, ?_⟩
        · exact HU.out
        · exact HX.out
      · have hd : decide (j < m) = false := by simp; omega
        have hd' : decide ((j : Int) < (m : Int)) = false := by simp; omega
        clear HCell
        go_wp2_with (first | ((with_reducible refine wpList_slice_run (o := ⟨some 39, .slice _ (.tmp 37) none (some (.tmp 38)) none, _, _, _, none⟩) rfl _ _ _ _ rfl _ _ _ ?_ ?_ ?_ _ S1.out ?_); (· rfl); (· rfl); (· rfl)) | ((with_reducible refine wpList_slice_run (o := ⟨some 51, .slice _ (.tmp 49) (some (.tmp 50)) none none, _, _, _, none⟩) rfl _ _ _ _ rfl _ _ _ ?_ ?_ ?_ _ Y1.out ?_); (· rfl); (· rfl); (· rfl)) | (at_builtin; refine wpList_append_run rfl (.tmp 35) (.tmp 39) _ rfl _ _ _ rfl rfl P1.out ?_) | (at_builtin; refine wpList_append_run rfl (.tmp 41) (.tmp 45) _ rfl _ _ _ rfl rfl R1.out ?_) | (at_builtin; refine wpList_append_run rfl (.tmp 47) (.tmp 51) _ rfl _ _ _ rfl rfl Z1.out ?_))
        refine bodyPost_ret (v := .tuple #[.agg #[.int .i64 most, .slice a6 n6 cap6], .int .i64 0]) (by simp [results, Try.results15, go_sem, *]) rfl ⟨_, rfl, ?_, ?_⟩
        · exact HU.out
        · exact HX.out
end Go.Proofs.Ytekdoannpkifaaa
