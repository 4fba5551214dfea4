/- The walk of the law DemarkRound. -/
import Derived.Test.YtpgbocdcjlcelaaDeH
namespace Go.Proofs.Ytpgbocdcjlcelaa
open Go.ChangeShapes Go.WideShapes Go.ChangeAt Go.RowKit

theorem feed_round {gs : List Int} {yss : List (List Int)} (hg : ∀ z ∈ gs, 1 ≤ z ∧ z ≤ 20) (hy : ∀ y ∈ yss, y.length ≤ 40) : ∃ need ends, feed 40 40 (catAll gs yss yss.length) (St.new, []) = (⟨0, [], [], 0, need, ends, 0⟩, yss) := by
  obtain ⟨n1, e1, h1⟩ := feed_cat 40 40 hg hy (by omega) (fun i => cnt_le40 _ _ (by have := sizeAt_good hg i; omega) (getD_le hy i)) 0 false [] yss.length (Nat.le_refl _) []
  rw [List.append_nil] at h1
  exact ⟨n1, e1, by rw [show St.new = ⟨0, [], [], 0, 0, false, 0⟩ from rfl, h1, feed_nil]; simp⟩
set_option maxRecDepth 100000 in
set_option maxHeartbeats 8000000 in
theorem demarkRound_walk (w : World) (a : Option Addr) (n cap : Nat) (rss : List (List Int)) (h : IsRows (fun a c => a = none → c = 0) w a n cap rss) (_ha : a = none → cap = 0) (ca : Option Addr) (cn cc : Nat) (cs : List Int) (hc : IsRow .i64 w ca cn cc cs) (_hca : ca = none → cc = 0) (sa : Option Addr) (sn sc : Nat) (ss : List Int) (hs : IsRow .i64 w sa sn sc ss) (_hsa : sa = none → sc = 0) :
    Calls Try.prog 4 #[.slice a n cap, .slice ca cn cc, .slice sa sn sc] w fun r w' => r = .returned (.bool true) ∧ Ext w w' := by
  have hcm := h.2.2.1
  have hlc := h.2.1
  have hccm := hc.2.2.1
  have hclc := hc.2.1
  have hscm := hs.2.2.1
  have hslc := hs.2.1
  unfold maxLen at hcm hccm hscm
  have HGd := Lib.hid (good_any a n cap rss ca cn cc cs w h hc)
  have HS := Lib.hid hs
  clear h hc hs
  go_enter Try.func4, Try.ntmps4
  go_wp2_with fail
  refine HGd.out.mono ?_
  rintro r wc ⟨v1, v2, rfl, yss, gs, hO7, hyl, hy40, hO8, hgs, hX⟩
  obtain ⟨ga8, gc8, rfl, hGR⟩ := hO8.rowI (fun z hz => by
    have := hgs z hz
    simp [Lit.wf, IntKind.min, IntKind.max, IntKind.signed, IntKind.bits]
    omega)
  have HAll := Lib.hid (all_good hO7 hyl hy40 hGR hgs)
  have HWf := Lib.hid (cat_wf (gs := gs) hO7.wf yss.length)
  have hln := own_len hyl hy40 hgs
  obtain ⟨nd, en, hfe⟩ := feed_round hgs hy40
  have HFe := Lib.hid hfe
  have HO7 := Lib.hid hO7
  have HX := Lib.hid hX
  have hg1 := hGR.2.1
  have hg2 := hGR.2.2.1
  unfold maxLen at hg2
  clear hO7 hy40 hO8 hgs hX hGR HGd hfe
  generalize catAll gs yss yss.length = own at *
  generalize gs.length = gl at *
  go_wp2_with fail
  with_reducible refine HAll.out.mono ?_
  rintro r w2 ⟨vo, rfl, hOo, hX2⟩
  obtain ⟨oa, oc, rfl, hor, hop⟩ := hOo.row2 HWf.out
  have HOr := Lib.hid hor
  have HX2 := Lib.hid hX2
  have hoc1 := hor.2.1
  have hoc2 := hor.2.2.1
  unfold maxLen at hoc2
  clear hOo hop hX2 HAll hor
  obtain ⟨ol, hol⟩ : ∃ ol, ol = own.length := ⟨_, rfl⟩
  rw [← hol] at hoc1 hln HOr
  rw [← hol]
  have HOL := Lib.hid hol
  clear hol
  go_wp2_with fail
  refine (new_ok 40 40 (by omega) (by omega) (by omega) w2).mono ?_
  rintro r w3 ⟨rfl, hD3, hX3⟩
  have HP := Lib.hid (PFed.start hD3 hX3 own)
  have hlt3 := hD3.lt
  clear hD3 hX3
  go_wp2_with fail
  go_loopw [13, 14, 15] (fun v13 v14 v15 wr => ∃ i at_ : Nat, v15 = .int .i64 i ∧ v14 = .int .i64 at_ ∧ at_ ≤ ol ∧ i / 9 ≤ at_ ∧ PFed w2 wr 40 40 own at_ v13) (fun _ v14 v15 _ => 9 * (ol - (intOf v14).toNat) + (8 - (intOf v15).toNat % 9))
  case atStart => exact ⟨0, 0, rfl, rfl, by omega, by omega, HP.out⟩
  case round =>
    obtain ⟨i, at_, rfl, rfl, hat, hi9, hP⟩ := hrel
    have HPr := Lib.hid hP
    have HXr := Lib.hid (show Ext w2 wr by obtain ⟨_, _, _, _, q⟩ := hP; exact q)
    clear hP
    by_cases hlt : at_ < ol
    · have hd : decide ((at_ : Int) < (ol : Int)) = true := by simp; omega
      have HPc := Lib.hid (piece_any sa sn sc ss i (by omega) wr (HS.out.ext (HX.out.trans (HX2.out.trans HXr.out))))
      obtain ⟨ga, o, rfl, _⟩ := HOr.out.at_ hlt
      go_wp2_with fail
      refine HPc.out.mono ?_
      rintro r wb ⟨k, rfl, hk, hk9, rfl⟩
      have hne : oc ≠ at_ := by omega
      by_cases hjn : at_ + k ≤ ol
      · have HPf := Lib.hid (piece_feed HPr.out (by omega) (by omega) HOr.out hlt (show at_ ≤ at_ + k by omega) hjn (by omega))
        rw [Nat.add_sub_cancel_left] at HPf
        have hb1 : at_ + k ≤ oc := by omega
        have hb2 : at_ ≤ at_ + k := by omega
        go_wp2_with fail
        with_reducible refine HPf.out.mono ?_
        rintro r w5 ⟨v5, rfl, got, w6, p1, hP6⟩
        have P1 := Lib.hid p1
        have HP6 := Lib.hid hP6
        clear p1 hP6
        go_wp2_with (at_builtin; refine wpList_append_run rfl (.tmp 57) (.tmp 63) _ rfl _ _ _ rfl rfl P1.out ?_)
        go_roundw
        case rel => exact ⟨i + 1, at_ + k, by go_num, by go_num, hjn, by omega, HP6.out⟩
        case measure => simp [intOf]; omega
      · have HPf := Lib.hid (piece_feed HPr.out (by omega) (by omega) HOr.out hlt hat (Nat.le_refl _) (by omega))
        go_wp2_with fail
        with_reducible refine HPf.out.mono ?_
        rintro r w5 ⟨v5, rfl, got, w6, p1, hP6⟩
        have P1 := Lib.hid p1
        have HP6 := Lib.hid hP6
        clear p1 hP6
        go_wp2_with (at_builtin; refine wpList_append_run rfl (.tmp 57) (.tmp 63) _ rfl _ _ _ rfl rfl P1.out ?_)
        go_roundw
        case rel => exact ⟨i + 1, ol, by go_num, by go_num, Nat.le_refl _, by omega, HP6.out⟩
        case measure => simp [intOf]; omega
    · have hd : decide ((at_ : Int) < (ol : Int)) = false := by simp; omega
      obtain rfl : at_ = ol := by omega
      obtain ⟨vn, vr, hD, hT, hXe⟩ := HPr.out
      have hz : own.take at_ = own := List.take_of_length_le (by rw [HOL.out]; omega)
      rw [hz, HFe.out] at hD hT
      have HD := Lib.hid hD
      have HSB := Lib.hid (sameBytes_own hT.owns (HO7.out.ext (HX2.out.trans hXe)) (show yss.length ≤ 100000 by omega))
      clear hD hT hXe hz
      go_wp2_with fail
      refine HSB.out.mono ?_
      rintro r w8 ⟨rfl, hX8⟩
      have HD8 := Lib.hid (HD.out.ext hX8)
      have HX8 := Lib.hid (HXr.out.trans hX8)
      clear hX8 HSB HD
      go_wp2_with fail
      refine (errno_any HD8.out).mono ?_
      rintro r wb ⟨rfl, rfl⟩
      go_wp2_with fail
      refine (clean_any HD8.out (by simp) (by simp)).mono ?_
      rintro r wb ⟨rfl, rfl⟩
      go_wp2_with fail
      refine (held_any HD8.out (by simp) (by simp)).mono ?_
      rintro r w9 ⟨rfl, hX9⟩
      have HX9 := Lib.hid (HX8.out.trans hX9)
      clear hX9
      go_wp2_with fail
      refine (lives_any _).mono ?_
      rintro r wq ⟨rfl, hXq⟩
      have HXq := Lib.hid (HX.out.trans (HX2.out.trans (HX9.out.trans hXq)))
      clear hXq
      go_wp2_with fail
      go_ret
      exact ⟨rfl, HXq.out⟩
end Go.Proofs.Ytpgbocdcjlcelaa
