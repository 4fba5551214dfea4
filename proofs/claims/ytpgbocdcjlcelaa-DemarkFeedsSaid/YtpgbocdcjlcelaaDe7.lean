/- What one byte does: the walk of body. -/
import Derived.Test.YtpgbocdcjlcelaaDe6
namespace Go.Proofs.Ytpgbocdcjlcelaa
open Go.ChangeShapes Go.WideShapes Go.ChangeAt Go.RowKit

theorem grown_upd1 {w w' : World} {row : Option Nat} (h : w.grownBy w' row) : Upd row.toList w w' := grown_upd h (fun g hg => .inl (by simp [hg]))
section
variable {w : World} {b g m f : Nat} {s : St} {vn vr : Value}
/-- What a step leaves. -/
def Stepped (w w2 : World) (b g m f : Nat) (s' : St) (vn vr vn' vr' : Value) : Prop :=
  DW w2 b g m f s' vn' vr' ∧ Upd (foot g vn vr) w w2 ∧ ∀ k ∈ foot g vn' vr', k ∈ foot g vn vr ∨ w.heap.size ≤ k
theorem DW.grow_rc (h : DW w b g m f s vn vr) (c : Int) (hc : (Lit.int .u8 c).wf = true) (hl : s.rc.length ≤ 100000) (hb : b ≤ w.heap.size) :
    ∃ A C w1, (Builtin.append_ #[22, 22] 22 #[vr, .slice (some ⟨w.heap.size, 0, none⟩) 1 1]).run Try.prog (w.alloc (.cells #[.int .u8 c] 5)) = .ok (.slice A (s.rc.length + 1) C) w1 ∧
      w1.heap[g]? = some (.cells (dcells g m f s vn vr) 52 (0, 0)) ∧
      ∀ w2 s', Upd [g] w1 w2 → w2.heap[g]? = some (.cells (dcells g m f s' vn (.slice A (s.rc.length + 1) C)) 52 (0, 0)) → s'.num = s.num → s'.rc = s.rc ++ [c] → Stepped w w2 b g m f s' vn vr vn (.slice A (s.rc.length + 1) C) := by
  obtain ⟨v', w1, h1, h2, h3, h4⟩ := h.rc.append1 (P := Try.prog) (t := 22) (ty := 22) (.int .u8 0) 1 Try.underlying22 infoU8 rfl (.int .u8 c) rfl (by rw [bv_len]; unfold maxLen; omega) (by rw [bv_len]; omega) hb
  obtain ⟨A, C, rfl, _, _, _⟩ := (show Owns w1 b 5 v' (bv (s.rc ++ [c])) by rw [bv_app]; exact h2).bytes
  rw [List.length_append, List.length_singleton] at *
  have u1 : Upd vr.ownBlock.toList w w1 := (((Ext.refl w).alloc _).upd _).trans (grown_upd1 h3)
  have hgv := own_ne h.rc h.blk (by decide)
  have hg1 := u1.heap h.blk (by simp; exact fun e => hgv e)
  have hn1 := h.num.upd u1 (fun k hk => by simp; exact fun e => h.ne k hk e)
  refine ⟨A, C, w1, h1, hg1, fun w2 s' hu hg2 es1 es2 => ⟨⟨hg2, ?_, ?_, ?_, by rw [es1]; exact h.wfn, ?_, h.low⟩, ?_, ?_⟩⟩
  · rw [es1]
    exact hn1.upd hu (fun k hk => by simp; exact fun e => own_ne hn1 hg1 (by decide) (by rw [hk, e]))
  · rw [es2, bv_app]
    exact h2.upd hu (fun k hk => by simp; exact fun e => own_ne h2 hg1 (by decide) (by rw [hk, e]))
  · intro k hk e
    rcases h4 with h4 | h4
    · exact h.ne k hk (by rw [← h4]; exact e)
    · have := (h.num.lt hk).2
      rw [h4] at e
      simp at e
      omega
  · rw [es2]
    intro z hz
    rcases List.mem_append.1 hz with hz | hz
    · exact h.wfr z hz
    · simp at hz; subst hz; exact hc
  · exact (u1.mono (fun k hk => by simp at hk; exact foot_r _ hk)).trans (hu.mono (fun k hk => by simp at hk; subst hk; exact foot_g _ _ _))
  · intro k hk
    rcases foot_or hk with rfl | hk | hk
    · exact .inl (foot_g _ _ _)
    · exact .inl (foot_n _ hk)
    · rcases h4 with h4 | h4
      · exact .inl (foot_r _ (by rw [← h4]; exact hk))
      · rw [h4] at hk; simp at hk; exact .inr (by omega)
theorem DW.grow_num (h : DW w b g m f s vn vr) (c : Int) (hc : (Lit.int .u8 c).wf = true) (hl : s.num.length ≤ 100000) (hb : b ≤ w.heap.size) :
    ∃ A C w1, (Builtin.append_ #[22, 22] 22 #[vn, .slice (some ⟨w.heap.size, 0, none⟩) 1 1]).run Try.prog (w.alloc (.cells #[.int .u8 c] 5)) = .ok (.slice A (s.num.length + 1) C) w1 ∧ s.num.length + 1 ≤ C ∧ C ≤ maxLen ∧
      w1.heap[g]? = some (.cells (dcells g m f s vn vr) 52 (0, 0)) ∧
      ∀ w2 s', Upd [g] w1 w2 → w2.heap[g]? = some (.cells (dcells g m f s' (.slice A (s.num.length + 1) C) vr) 52 (0, 0)) → s'.num = s.num ++ [c] → s'.rc = s.rc → Stepped w w2 b g m f s' vn vr (.slice A (s.num.length + 1) C) vr := by
  obtain ⟨v', w1, h1, h2, h3, h4⟩ := h.num.append1 (P := Try.prog) (t := 22) (ty := 22) (.int .u8 0) 1 Try.underlying22 infoU8 rfl (.int .u8 c) rfl (by rw [bv_len]; unfold maxLen; omega) (by rw [bv_len]; omega) hb
  obtain ⟨A, C, rfl, _, hC1, hC2⟩ := (show Owns w1 b 5 v' (bv (s.num ++ [c])) by rw [bv_app]; exact h2).bytes
  rw [List.length_append, List.length_singleton] at *
  have u1 : Upd vn.ownBlock.toList w w1 := (((Ext.refl w).alloc _).upd _).trans (grown_upd1 h3)
  have hgv := own_ne h.num h.blk (by decide)
  have hg1 := u1.heap h.blk (by simp; exact fun e => hgv e)
  have hr1 := h.rc.upd u1 (fun k hk => by simp; exact fun e => h.ne k e hk)
  refine ⟨A, C, w1, h1, hC1, hC2, hg1, fun w2 s' hu hg2 es1 es2 => ⟨⟨hg2, ?_, ?_, ?_, ?_, by rw [es2]; exact h.wfr, h.low⟩, ?_, ?_⟩⟩
  · rw [es1, bv_app]
    exact h2.upd hu (fun k hk => by simp; exact fun e => own_ne h2 hg1 (by decide) (by rw [hk, e]))
  · rw [es2]
    exact hr1.upd hu (fun k hk => by simp; exact fun e => own_ne hr1 hg1 (by decide) (by rw [hk, e]))
  · intro k hk e
    rcases h4 with h4 | h4
    · exact h.ne k (by rw [← h4]; exact hk) e
    · have := (h.rc.lt e).2
      rw [h4] at hk
      simp at hk
      omega
  · rw [es1]
    intro z hz
    rcases List.mem_append.1 hz with hz | hz
    · exact h.wfn z hz
    · simp at hz; subst hz; exact hc
  · exact (u1.mono (fun k hk => by simp at hk; exact foot_n _ hk)).trans (hu.mono (fun k hk => by simp at hk; subst hk; exact foot_g _ _ _))
  · intro k hk
    rcases foot_or hk with rfl | hk | hk
    · exact .inl (foot_g _ _ _)
    · rcases h4 with h4 | h4
      · exact .inl (foot_n _ (by rw [← h4]; exact hk))
      · rw [h4] at hk; simp at hk; exact .inr (by omega)
    · exact .inl (foot_r _ hk)
set_option maxHeartbeats 1000000 in
theorem body_any (h : DW w b g m f s vn vr) (c : Int) (hc : (Lit.int .u8 c).wf = true) (hl : s.rc.length ≤ 100000) (hb : b ≤ w.heap.size) (hm : s.mode = 1) (hn1 : 1 ≤ s.need) (hn2 : s.need ≤ 100000) :
    Calls Try.prog 29 #[.pointer (some ⟨g, 0, none⟩), .int .u8 c] w fun r w' => ∃ vr', r = .returned (.bool (stepBody s c).2) ∧ Stepped w w' b g m f (stepBody s c).1 vn vr vn vr' := by
  obtain ⟨A, C, w1, h1, h2, h3⟩ := h.grow_rc c hc hl hb
  obtain ⟨c0, c1, c2, c3, c4, c5, c6, c7, c8, fz⟩ := blk9 h.blk
  obtain ⟨d0, d1, d2, d3, d4, d5, d6, d7, d8, fy⟩ := blk9 h2
  have fy2 := fy 2
  have fy4 := fy 4
  have fy6 := fy 6
  have hlt := h.lt
  have hlt1 := lt_of_heap h2
  have H1 := Lib.hid h1
  have H2 := Lib.hid h2
  have H3 := Lib.hid h3
  clear h h1 h2 h3 fz fy c0 c1 c2 c3 c5 c6 c7 c8 d0 d1 d3 d5 d8 hc
  by_cases hn : 1 < s.need
  · have hd : decide (0 < (s.need : Int) - 1) = true := by simp; omega
    have HS := Lib.hid (show stepBody s c = (⟨1, s.num, s.rc ++ [c], s.count, s.need - 1, s.ends, s.err⟩, false) by unfold stepBody; rw [if_pos hn])
    rw [HS.out]
    have HN := Lib.hid (show ((s.need - 1 : Nat) : Int) = (s.need : Int) - 1 by omega)
    have HM := Lib.hid hm
    clear hm
    generalize hne : s.need = nd at *
    go_enter Try.func29, Try.ntmps29
    go_wp2_with (at_builtin; refine wpList_append_run rfl (.tmp 9) (.tmp 11) _ rfl _ _ _ rfl rfl H1.out ?_)
    go_ret
    refine ⟨_, rfl, H3.out _ _ (((Upd.refl [g] w1).setCell _ _ (by simp)).setCell _ _ (by simp)) ?_ rfl rfl⟩
    rw [heap_put _ (heap_put _ H2.out)]
    simp only [dcells, HM.out, HN.out]
    rfl
  · have hd : decide (0 < (s.need : Int) - 1) = false := by simp; omega
    have HS := Lib.hid (show stepBody s c = (⟨0, s.num, s.rc ++ [c], s.count, 0, s.ends, s.err⟩, s.ends) by unfold stepBody; rw [if_neg hn])
    rw [HS.out]
    have HN := Lib.hid (show (s.need : Int) - 1 = 0 by omega)
    clear hm
    generalize s.need = nd at *
    generalize fnOf g s.mode = fv at *
    go_enter Try.func29, Try.ntmps29
    go_wp2_with (at_builtin; refine wpList_append_run rfl (.tmp 9) (.tmp 11) _ rfl _ _ _ rfl rfl H1.out ?_)
    go_ret
    refine ⟨_, rfl, H3.out _ _ ((((Upd.refl [g] w1).setCell _ _ (by simp)).setCell _ _ (by simp)).setCell _ _ (by simp)) ?_ rfl rfl⟩
    rw [heap_put _ (heap_put _ (heap_put _ H2.out)), HN.out]
    rfl
end
end Go.Proofs.Ytpgbocdcjlcelaa
