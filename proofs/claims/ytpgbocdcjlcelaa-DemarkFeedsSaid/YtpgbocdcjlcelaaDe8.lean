/- What one byte does: the walk of head. -/
import Derived.Test.YtpgbocdcjlcelaaDe7
import Derived.Laws.BitsAllLaws
namespace Go.Proofs.Ytpgbocdcjlcelaa
open Go.ChangeShapes Go.WideShapes Go.ChangeAt Go.RowKit

theorem low_bits (x : Int) (h0 : 0 ≤ x) (h1 : x < 4294967296) : bits .andNot .u32 x 2147483648 = (low31 x : Int) := by
  rw [u32_andNot x 2147483648 h0 h1 (by omega) (by omega)]
  have e : x.toNat &&& (4294967295 - (2147483648 : Int).toNat) = x.toNat % 2 ^ 31 := Nat.and_two_pow_sub_one_eq_mod x.toNat 31
  rw [e]
  unfold low31
  omega
theorem top_bits (x : Int) (h0 : 0 ≤ x) (h1 : x < 4294967296) : bits .and .u32 x 2147483648 = if 2147483648 ≤ x then 2147483648 else 0 := by
  rw [u32_and x 2147483648 h0 h1 (by omega) (by omega)]
  have e : x.toNat &&& (2147483648 : Int).toNat = if 2147483648 ≤ x then 2147483648 else 0 := by
    show x.toNat &&& 2 ^ 31 = _
    have hb : x.toNat.testBit 31 = decide (2147483648 ≤ x) := by
      rw [Nat.testBit_eq_decide_div_mod_eq]
      rw [decide_eq_decide]
      omega
    apply Nat.eq_of_testBit_eq
    intro i
    rw [Nat.testBit_and, Nat.testBit_two_pow]
    by_cases h : 2147483648 ≤ x
    · rw [if_pos h, show (2147483648 : Nat) = 2 ^ 31 from rfl, Nat.testBit_two_pow]
      by_cases hi : 31 = i
      · subst hi; rw [hb]; simp [h]
      · simp [hi]
    · rw [if_neg h]
      by_cases hi : 31 = i
      · subst hi; rw [hb]; simp [h]
      · simp [hi]
  rw [e]
  split <;> rfl
theorem top_ne (x : Int) (h0 : 0 ≤ x) (h1 : x < 4294967296) : (bits .and .u32 x 2147483648 != 0) = top31 x := by
  rw [top_bits x h0 h1]
  unfold top31
  split <;> simp_all
section
variable {w : World} {b g m f : Nat} {s : St} {vn vr : Value}
set_option maxHeartbeats 1000000 in
theorem head_few (h : DW w b g m f s vn vr) (c : Int) (hc : (Lit.int .u8 c).wf = true) (hn : s.num.length < 3) (hb : b ≤ w.heap.size) (hm : s.mode = 0) :
    Calls Try.prog 23 #[.pointer (some ⟨g, 0, none⟩), .int .u8 c] w fun r w' => ∃ vn' vr', r = .returned (.bool (stepHead m f s c).2) ∧ Stepped w w' b g m f (stepHead m f s c).1 vn vr vn' vr' := by
  obtain ⟨A, C, w1, h1, _, _, h2, h3⟩ := h.grow_num c hc (by omega) hb
  obtain ⟨c0, c1, c2, c3, c4, c5, c6, c7, c8, fz⟩ := blk9 h.blk
  obtain ⟨d0, d1, d2, d3, d4, d5, d6, d7, d8, fy⟩ := blk9 h2
  have fy3 := fy 3
  have hlt := h.lt
  have hlt1 := lt_of_heap h2
  have H1 := Lib.hid h1
  have H2 := Lib.hid h2
  have H3 := Lib.hid h3
  have HS := Lib.hid (show stepHead m f s c = (⟨0, s.num ++ [c], s.rc, s.count, s.need, s.ends, s.err⟩, false) by unfold stepHead; rw [if_pos hn])
  have HM := Lib.hid hm
  rw [HS.out]
  have hd : decide ((s.num.length : Int) + 1 < 4) = true := by simp; omega
  generalize s.num.length = nl at *
  clear h h1 h2 h3 fz fy c0 c1 c2 c4 c5 c6 c7 c8 d0 d1 d2 d4 d5 d6 d7 d8 hc hm
  go_enter Try.func23, Try.ntmps23
  go_wp2_with (at_builtin; refine wpList_append_run rfl (.tmp 11) (.tmp 13) _ rfl _ _ _ rfl rfl H1.out ?_)
  go_ret
  refine ⟨_, _, rfl, H3.out _ _ ((Upd.refl [g] w1).setCell _ _ (by simp)) ?_ rfl rfl⟩
  rw [heap_put _ H2.out]
  simp only [dcells, HM.out]
  rfl
/-- What is left of a step behind a number that is whole. -/
theorem Stepped.then_ {w2 w3 : World} {s1 s2 : St} {vn1 vr1 vn2 vr2 : Value} (h : Stepped w w2 b g m f s1 vn vr vn1 vr1) (hd : DW w3 b g m f s2 vn2 vr2) (hu : Upd [g] w2 w3)
    (hn : vn2.ownBlock = none ∨ vn2.ownBlock = vn1.ownBlock) (hr : vr2.ownBlock = none ∨ vr2.ownBlock = vr1.ownBlock) : Stepped w w3 b g m f s2 vn vr vn2 vr2 := by
  refine ⟨hd, h.2.1.trans (hu.mono (fun k hk => by simp at hk; subst hk; exact foot_g _ _ _)), fun k hk => ?_⟩
  rcases foot_or hk with rfl | hk | hk
  · exact .inl (foot_g _ _ _)
  · rcases hn with hn | hn
    · rw [hn] at hk; cases hk
    · exact h.2.2 k (foot_n _ (by rw [← hn]; exact hk))
  · rcases hr with hr | hr
    · rw [hr] at hk; cases hk
    · exact h.2.2 k (foot_r _ (by rw [← hr]; exact hk))
theorem DW.num_nil {s1 : St} (h : DW w b g m f s vn vr) {w3 : World} (hu : Upd [g] w w3) (hg : w3.heap[g]? = some (.cells (dcells g m f s1 (.slice none 0 0) vr) 52 (0, 0))) (hn : s1.num = []) (hr : s1.rc = s.rc) : DW w3 b g m f s1 (.slice none 0 0) vr := by
  refine ⟨hg, ?_, ?_, by simp [Value.ownBlock], by rw [hn]; simp, by rw [hr]; exact h.wfr, h.low⟩
  · rw [hn]; exact Owns.nil _ _ _
  · rw [hr]
    exact h.rc.upd hu (fun k hk => by simp; exact fun e => own_ne h.rc h.blk (by decide) (by rw [hk, e]))
end
end Go.Proofs.Ytpgbocdcjlcelaa
