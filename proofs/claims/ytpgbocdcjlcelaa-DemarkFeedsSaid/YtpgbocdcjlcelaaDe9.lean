/- What one byte does: the walk of head, where the number is whole. -/
import Derived.Test.YtpgbocdcjlcelaaDe8
namespace Go.Proofs.Ytpgbocdcjlcelaa
open Go.ChangeShapes Go.WideShapes Go.ChangeAt Go.RowKit

section
variable {w : World} {b g m f : Nat} {s : St} {vn vr : Value}
theorem Stepped.ext {w2 w3 : World} {s1 : St} {vn1 vr1 : Value} (h : Stepped w w2 b g m f s1 vn vr vn1 vr1) (hx : Ext w2 w3) : Stepped w w3 b g m f s1 vn vr vn1 vr1 :=
  ⟨h.1.ext hx, h.2.1.trans (hx.upd _), h.2.2⟩
theorem DW.same {s1 : St} (h : DW w b g m f s vn vr) {w3 : World} (hu : Upd [g] w w3) (hg : w3.heap[g]? = some (.cells (dcells g m f s1 vn vr) 52 (0, 0))) (hn : s1.num = s.num) (hr : s1.rc = s.rc) : DW w3 b g m f s1 vn vr := by
  refine ⟨hg, ?_, ?_, h.ne, by rw [hn]; exact h.wfn, by rw [hr]; exact h.wfr, h.low⟩
  · rw [hn]
    exact h.num.upd hu (fun k hk => by simp; exact fun e => own_ne h.num h.blk (by decide) (by rw [hk, e]))
  · rw [hr]
    exact h.rc.upd hu (fun k hk => by simp; exact fun e => own_ne h.rc h.blk (by decide) (by rw [hk, e]))
theorem Stepped.fin {W5 W6 : World} {s1 s2 : St} {vn1 vr1 : Value} (h : Stepped w W5 b g m f s1 vn vr vn1 vr1) (hu : Upd [g] W5 W6) (hg : W6.heap[g]? = some (.cells (dcells g m f s2 vn1 vr1) 52 (0, 0))) (hn : s2.num = s1.num) (hr : s2.rc = s1.rc) :
    Stepped w W6.drew.drew b g m f s2 vn vr vn1 vr1 := (h.then_ (h.1.same hu hg hn hr) hu (.inr rfl) (.inr rfl)).ext ((Ext.refl _).drew.drew)
set_option maxRecDepth 100000 in
set_option maxHeartbeats 4000000 in
theorem head_full (h : DW w b g m f s vn vr) (c : Int) (hc : (Lit.int .u8 c).wf = true) (hn : s.num.length = 3) (hb : b ≤ w.heap.size) (hm : s.mode = 0) (hm4 : m ≤ 4096) (hf64 : f ≤ 64) (hrm : s.rc.length ≤ m) (hcf : s.count ≤ f) :
    Calls Try.prog 23 #[.pointer (some ⟨g, 0, none⟩), .int .u8 c] w fun r w' => ∃ vn' vr', r = .returned (.bool (stepHead m f s c).2) ∧ Stepped w w' b g m f (stepHead m f s c).1 vn vr vn' vr' := by
  obtain ⟨A, C, w1, h1, hC1, hC2, h2, h3⟩ := h.grow_num c hc (by omega) hb
  obtain ⟨c0, c1, c2, c3, c4, c5, c6, c7, c8, fz⟩ := blk9 h.blk
  obtain ⟨d0, d1, d2, d3, d4, d5, d6, d7, d8, fy⟩ := blk9 h2
  have fy3 := fy 3
  have hlt := h.lt
  have hlt1 := lt_of_heap h2
  rw [hn] at h1 h3 hC1
  obtain ⟨W2, hW2⟩ : ∃ W, W = w1.setCell ⟨g, 3, none⟩ (.slice A 4 C) := ⟨_, rfl⟩
  have hst : Stepped w W2 b g m f ⟨0, s.num ++ [c], s.rc, s.count, s.need, s.ends, s.err⟩ vn vr (.slice A 4 C) vr := by
    refine h3 W2 _ (by rw [hW2]; exact (Upd.refl [g] w1).setCell _ _ (by simp)) ?_ rfl rfl
    rw [hW2, heap_put _ h2]
    simp only [dcells, hm]
    rfl
  have hl4 : (s.num ++ [c]).length = 4 := by simp [hn]
  obtain ⟨A', C', hAC, hrow, hpl⟩ := hst.1.num.row2 hst.1.wfn
  rw [hl4] at hAC hrow
  simp only [Value.slice.injEq] at hAC
  obtain ⟨rfl, _, rfl⟩ := hAC
  have H1 := Lib.hid h1
  have HW := Lib.hid hW2
  have HST := Lib.hid hst
  have HRow := Lib.hid hrow
  have HPl := Lib.hid hpl
  have hpl2 : A = none → C = 0 := by rcases hpl with ⟨_, h⟩ | ⟨_, _, h⟩; (exact fun _ => h); (intro e; rw [e] at h; cases h)
  have HP2 := Lib.hid hpl2
  have HL4 := Lib.hid hl4
  have hvb := val_bd hst.1.wfn 4 (by simp [hn])
  have hSt0 : stepHead m f s c = if s.count = f then (s.fail 5, false)
    else if m < s.rc.length + low31 (val (s.num ++ [c])) then (s.fail 4, false)
    else if low31 (val (s.num ++ [c])) = 0 then (⟨0, [], s.rc, s.count + 1, 0, top31 (val (s.num ++ [c])), s.err⟩, top31 (val (s.num ++ [c])))
    else (⟨1, [], s.rc, s.count + 1, low31 (val (s.num ++ [c])), top31 (val (s.num ++ [c])), s.err⟩, false) := by unfold stepHead; rw [if_neg (by omega)]
  generalize stepHead m f s c = R at *
  have hvt : (s.num ++ [c]).take 4 = s.num ++ [c] := List.take_of_length_le (by omega)
  rw [show (⟨0, s.num ++ [c], s.rc, s.count, s.need, s.ends, s.err⟩ : St).num = s.num ++ [c] from rfl, hvt] at hvb
  have HVT := Lib.hid (show ∀ W2 W3 g2, RdW W3 g2 0 (s.num ++ [c]) → W2.heap.size ≤ g2 → Ext W2 W3 → Calls Try.prog 27 #[.pointer (some ⟨g2, 0, none⟩)] W3 fun r w' => r = .returned (.int .u32 (val (s.num ++ [c]))) ∧ Ext W2 w' from
    fun W2 W3 g2 hr hg hx => (u32r_ok g2 _ (by omega) W3 hr).mono fun r w' h => ⟨by rw [h.1, hvt], h.2.2.ext hx (by simp; exact hg)⟩)
  have hlo := low_bits _ hvb.1 hvb.2
  have hto := top_ne _ hvb.1 hvb.2
  have hlb : low31 (val (s.num ++ [c])) < 2147483648 := by unfold low31; omega
  generalize hV : val (s.num ++ [c]) = V at *
  generalize s.num ++ [c] = nc at *
  have HR := Lib.hid hSt0
  clear hSt0
  clear h h1 h2 h3 hst hrow hpl hpl2 hW2 fz fy c0 c1 c2 c4 c5 c6 c7 c8 d0 d1 d2 d4 d5 d6 d7 d8 hc hl4 hvt hV
  go_enter Try.func23, Try.ntmps23
  go_wp2_with (at_builtin; refine wpList_append_run rfl (.tmp 11) (.tmp 13) _ rfl _ _ _ rfl rfl H1.out ?_)
  rw [← HW.out]
  refine (read_any A 4 C nc (by omega) W2 HRow.out HP2.out).mono ?_
  rintro r W3 ⟨g2, rfl, hrd, hg2, hX3⟩
  have HU := Lib.hid (HVT.out W2 W3 g2 hrd hg2 hX3)
  clear hrd hX3 HVT
  go_wp2_with fail
  refine HU.out.mono ?_
  rintro r W4 ⟨rfl, hX4⟩
  have HS4 := Lib.hid (HST.out.ext hX4)
  obtain ⟨c0, c1, c2, c3, c4, c5, c6, c7, c8, fz⟩ := blk9 HS4.out.1.blk
  have fz3 := fz 3
  have hlt4 := HS4.out.1.lt
  obtain ⟨W5, hW5⟩ : ∃ W, W = W4.setCell ⟨g, 3, none⟩ (.slice none 0 0) := ⟨_, rfl⟩
  have hS5 : Stepped w W5 b g m f ⟨0, [], s.rc, s.count, s.need, s.ends, s.err⟩ vn vr (.slice none 0 0) vr := by
    have hu : Upd [g] W4 W5 := by rw [hW5]; exact (Upd.refl [g] W4).setCell _ _ (by simp)
    refine HS4.out.then_ (HS4.out.1.num_nil hu ?_ rfl rfl) hu (.inl rfl) (.inr rfl)
    rw [hW5, heap_put _ HS4.out.1.blk]
    rfl
  have HS5 := Lib.hid hS5
  have HW5 := Lib.hid hW5
  clear hS5 hW5 hX4 fz
  go_upto_region 7 with fail
  rw [← HW5.out]
  clear HW5 HS4 HST HU HRow HPl HP2 H1 HW c0 c1 c2 c3 c4 c5 c6 c7 c8 fz3 hlt4 d3 fy3 hlt1
  obtain ⟨c0, c1, c2, c3, c4, c5, c6, c7, c8, fz⟩ := blk9 HS5.out.1.blk
  have hlt5 := HS5.out.1.lt
  obtain ⟨ar, cr, hvr, _, hcr1, hcr2⟩ := HS5.out.1.rc.bytes
  simp only at hvr hcr1
  subst hvr
  simp only at c5 c6 c7 c8
  have fz2 := fz 2
  have fz5 := fz 5
  have fz6 := fz 6
  have fz7 := fz 7
  clear fz
  have HB5 := Lib.hid HS5.out.1.blk
  generalize hrl : s.rc.length = rl at *
  generalize hct : s.count = ct at *
  have HV := Lib.hid hvb
  have hlo0 : (0 : Int) ≤ (low31 V : Int) := by omega
  clear hvb
  by_cases hfull : ct = f
  · have hdf : ((ct : Int) == (f : Int)) = true := by simp [hfull]
    have HE := Lib.hid (show R = (s.fail 5, false) by rw [HR.out, if_pos hfull])
    go_region
    all_goals
      go_wp2_with fail
      refine (dfail_any (HS5.out.1.ext (Ext.refl W5).drew) rfl 5).mono ?_
      rintro r w6 ⟨rfl, hD, hU⟩
      have hfin := (HS5.out.ext (Ext.refl W5).drew).then_ hD hU (.inl rfl) (.inl rfl)
      have HF := Lib.hid hfin
      clear hD hU hfin
      go_wp2_with fail
      go_ret
      rw [HE.out, hrl]
      exact ⟨_, _, rfl, HF.out⟩
  · have hdf : ((ct : Int) == (f : Int)) = false := by simp; omega
    rw [if_neg hfull] at HR
    by_cases hbig : m < rl + low31 V
    · have hdb : decide ((m : Int) - (rl : Int) < (low31 V : Int)) = true := by simp; omega
      have HE := Lib.hid (show R = (s.fail 4, false) by rw [HR.out, if_pos hbig])
      go_region
      all_goals
        go_wp2_with fail
        go_region
        all_goals
          go_wp2_with fail
          refine (dfail_any (HS5.out.1.ext ((Ext.refl W5).drew.drew)) rfl 4).mono ?_
          rintro r w6 ⟨rfl, hD, hU⟩
          have hfin := (HS5.out.ext ((Ext.refl W5).drew.drew)).then_ hD hU (.inl rfl) (.inl rfl)
          have HF := Lib.hid hfin
          clear hD hU hfin
          go_wp2_with fail
          go_ret
          rw [HE.out, hrl]
          exact ⟨_, _, rfl, HF.out⟩
    · have hdb : decide ((m : Int) - (rl : Int) < (low31 V : Int)) = false := by simp; omega
      rw [if_neg hbig] at HR
      have HTO := Lib.hid hto
      generalize top31 V = tv at *
      by_cases h0 : low31 V = 0
      · rw [h0] at hlo hdb
        have HE := Lib.hid (show R = (⟨0, [], s.rc, ct + 1, 0, tv, s.err⟩, tv) by rw [HR.out, if_pos h0])
        have h0i : (low31 V : Int) = 0 := by omega
        rw [h0i]
        have HE2 := Lib.hid hto
        go_region
        all_goals
          go_wp2_with fail
          go_region
          all_goals
            go_wp2_with fail
            go_ret
            rw [HE.out, hrl]
            refine ⟨_, _, rfl, HS5.out.fin (s2 := ⟨0, [], s.rc, ct + 1, 0, tv, s.err⟩) ?_ ?_ rfl rfl⟩
            · exact ((Upd.refl [g] W5).setCell _ _ (by simp)).setCell _ _ (by simp) |>.setCell _ _ (by simp)
            · rw [heap_put _ (heap_put _ (heap_put _ HB5.out))]
              rfl
      · have hz0 : ((low31 V : Int) == 0) = false := by simp; omega
        have HE := Lib.hid (show R = (⟨1, [], s.rc, ct + 1, low31 V, tv, s.err⟩, false) by rw [HR.out, if_neg h0])
        go_region
        all_goals
          go_wp2_with fail
          go_region
          all_goals
            go_wp2_with fail
            go_ret
            rw [HE.out, hrl]
            refine ⟨_, _, rfl, HS5.out.fin (s2 := ⟨1, [], s.rc, ct + 1, low31 V, tv, s.err⟩) ?_ ?_ rfl rfl⟩
            · exact ((Upd.refl [g] W5).setCell _ _ (by simp)).setCell _ _ (by simp) |>.setCell _ _ (by simp) |>.setCell _ _ (by simp)
            · rw [heap_put _ (heap_put _ (heap_put _ (heap_put _ HB5.out)))]
              rfl
end
end Go.Proofs.Ytpgbocdcjlcelaa
