/- The walk of the law DemarkCuts. -/
import Derived.Test.YtpgbocdcjlcelaaDeJ
namespace Go.Proofs.Ytpgbocdcjlcelaa
open Go.ChangeShapes Go.WideShapes Go.ChangeAt Go.RowKit

theorem Inv.held {m f : Nat} {s : St} (h : Inv m f s) : s.rc.length + s.num.length ≤ m + 3 := by have := h.2.1; have := h.2.2.1; omega
set_option maxRecDepth 100000 in
set_option maxHeartbeats 16000000 in
theorem demarkCuts_walk (w : World) (a : Option Addr) (n cap : Nat) (zs : List Int) (h : IsRow .u8 w a n cap zs) (ha : a = none → cap = 0) (most : Int) (w0 : (Lit.int .i64 most).wf = true) (frags : Int) (w1 : (Lit.int .i64 frags).wf = true)
    (pa : Option Addr) (pn pc : Nat) (ps : List Int) (hp : IsRow .i64 w pa pn pc ps) (_hpa : pa = none → pc = 0) (sa : Option Addr) (sn sc : Nat) (ss : List Int) (hs : IsRow .i64 w sa sn sc ss) (_hsa : sa = none → sc = 0) :
    Calls Try.prog 5 #[.slice a n cap, .int .i64 most, .int .i64 frags, .slice pa pn pc, .slice sa sn sc] w fun r w' => r = .returned (.bool true) ∧ Ext w w' := by
  have hcm := h.2.2.1
  have hlc := h.2.1
  have hpcm := hp.2.2.1
  have hplc := hp.2.1
  have hscm := hs.2.2.1
  have hslc := hs.2.1
  unfold maxLen at hcm hpcm hscm
  have hz : ∀ z ∈ zs.take 100, (Lit.int .u8 z).wf = true := fun z hz => h.2.2.2.1 z (List.mem_of_mem_take hz)
  have hyl : (zs.take 100).length ≤ 100 := by rw [List.length_take]; omega
  have HF := Lib.hid (few_any a n cap zs 100 (by omega) w h ha)
  generalize zs.take 100 = own at *
  have HZ := Lib.hid hz
  obtain ⟨m, hm, hma⟩ := around_nat most 101 (by omega) w0
  obtain ⟨f0, hf0, hfa⟩ := around_nat frags 6 (by omega) w1
  have HMa := Lib.hid hma
  have HFa := Lib.hid hfa
  obtain ⟨f, hfE⟩ : ∃ f : Nat, f = 1 + f0 := ⟨_, rfl⟩
  have HFE := Lib.hid (show (1 : Int) + (f0 : Int) = (f : Int) by omega)
  have hf1 : 1 ≤ f := by omega
  have hf6 : f ≤ 6 := by omega
  have HP := Lib.hid hp
  have HS := Lib.hid hs
  clear h ha hz w0 w1 hma hfa hfE hp hs
  go_enter Try.func5, Try.ntmps5
  go_wp2_with fail
  refine HF.out.mono ?_
  rintro r wf ⟨v, rfl, hO, hX⟩
  obtain ⟨oa, oc, rfl, hor, hop⟩ := hO.row2 HZ.out
  have HOr := Lib.hid hor
  have HX := Lib.hid hX
  have hoc1 := hor.2.1
  have hoc2 := hor.2.2.1
  unfold maxLen at hoc2
  clear hO hX hor hop HF
  obtain ⟨ol, hol⟩ : ∃ ol, ol = own.length := ⟨_, rfl⟩
  rw [← hol] at hoc1 hyl HOr
  rw [← hol]
  have HOL := Lib.hid hol
  clear hol
  go_wp2_with fail
  refine (HMa.out _).mono ?_
  rintro r wb ⟨rfl, rfl⟩
  go_wp2_with fail
  refine (HFa.out _).mono ?_
  rintro r wb ⟨rfl, rfl⟩
  go_wp2_with fail
  rw [HFE.out]
  refine (new_ok m f (by omega) hf1 (by omega) wf).mono ?_
  rintro r wx ⟨rfl, hDx, hXx⟩
  have HDx := Lib.hid hDx
  have HXx := Lib.hid hXx
  have hltx := hDx.lt
  clear hDx hXx
  go_wp2_with fail
  refine (new_ok m f (by omega) hf1 (by omega) wx).mono ?_
  rintro r wy ⟨rfl, hDy, hXy⟩
  have HDy := Lib.hid hDy
  have HXy := Lib.hid hXy
  have hlty := hDy.lt
  have HPx := Lib.hid (PFed2.start (HDx.out.ext hXy) own)
  have HRy := Lib.hid (HOr.out.ext (HXx.out.trans hXy))
  clear hDy hXy
  go_wp2_with fail
  go_loopw [18, 20, 21] (fun v18 v20 v21 wr => ∃ i at_ : Nat, v21 = .int .i64 i ∧ v20 = .int .i64 at_ ∧ at_ ≤ ol ∧ i / 9 ≤ at_ ∧ PFed2 wy wr wf.heap.size wf.heap.size m f own at_ v18) (fun _ v20 v21 _ => 9 * (ol - (intOf v20).toNat) + (8 - (intOf v21).toNat % 9))
  case atStart => exact ⟨0, 0, rfl, rfl, by omega, by omega, HPx.out⟩
  case round =>
    obtain ⟨i, at_, rfl, rfl, hat, hi9, hP⟩ := hrel
    have HPr := Lib.hid hP
    have HUr := Lib.hid (show Upd [wf.heap.size] wy wr by obtain ⟨_, _, _, _, q, _⟩ := hP; exact q)
    have HXr := Lib.hid (HUr.out.ext (HXx.out.trans HXy.out) (by simp))
    clear hP
    by_cases hlt : at_ < ol
    · have hd : decide ((at_ : Int) < (ol : Int)) = true := by simp; omega
      have HPc := Lib.hid (piece_any pa pn pc ps i (by omega) wr (HP.out.ext (HX.out.trans HXr.out)))
      obtain ⟨ga, o, rfl, hca⟩ := HOr.out.at_ hlt
      have hgaf := World.block_lt_of_cell? wf _ hca
      simp only at hgaf
      clear hca
      go_wp2_with fail
      refine HPc.out.mono ?_
      rintro r wb ⟨k, rfl, hk, hk9, rfl⟩
      have hne : oc ≠ at_ := by omega
      by_cases hjn : at_ + k ≤ ol
      · have HPf := Lib.hid (piece_feed2 HPr.out (by omega) (by omega) (by omega) HRy.out (by omega) hlt (show at_ ≤ at_ + k by omega) hjn (by omega))
        rw [Nat.add_sub_cancel_left] at HPf
        have hb1 : at_ + k ≤ oc := by omega
        have hb2 : at_ ≤ at_ + k := by omega
        go_wp2_with fail
        with_reducible refine HPf.out.mono ?_
        rintro r w5 ⟨v5, rfl, got, w6, p1, hP6⟩
        have P1 := Lib.hid p1
        have HP6 := Lib.hid hP6
        obtain ⟨vn6, vr6, hD6, _⟩ := hP6
        have hh := (show Inv m f (feed m f (own.take (at_ + k)) (St.new, [])).1 from Inv.feed _ (Inv.new m f)).held
        have HH := Lib.hid (held_any hD6 (by omega) (by omega))
        generalize (feed m f (own.take (at_ + k)) (St.new, [])).1.rc.length + (feed m f (own.take (at_ + k)) (St.new, [])).1.num.length = hl at *
        have hdh : decide ((m : Int) + 3 < (hl : Int)) = false := by simp; omega
        clear p1 hD6
        go_wp2_with (at_builtin; refine wpList_append_run rfl (.tmp 72) (.tmp 78) _ rfl _ _ _ rfl rfl P1.out ?_)
        with_reducible refine HH.out.mono ?_
        rintro r w7 ⟨rfl, hX7⟩
        have HP7 := Lib.hid (HP6.out.ext hX7)
        clear hX7
        go_wp2_with fail
        go_roundw
        case rel => exact ⟨i + 1, at_ + k, by go_num, by go_num, hjn, by omega, HP7.out⟩
        case measure => simp [intOf]; omega
      · have HPf := Lib.hid (piece_feed2 HPr.out (by omega) (by omega) (by omega) HRy.out (by omega) hlt hat (Nat.le_refl _) (by omega))
        go_wp2_with fail
        with_reducible refine HPf.out.mono ?_
        rintro r w5 ⟨v5, rfl, got, w6, p1, hP6⟩
        have P1 := Lib.hid p1
        have HP6 := Lib.hid hP6
        obtain ⟨vn6, vr6, hD6, _⟩ := hP6
        have hh := (show Inv m f (feed m f (own.take ol) (St.new, [])).1 from Inv.feed _ (Inv.new m f)).held
        have HH := Lib.hid (held_any hD6 (by omega) (by omega))
        generalize (feed m f (own.take ol) (St.new, [])).1.rc.length + (feed m f (own.take ol) (St.new, [])).1.num.length = hl at *
        have hdh : decide ((m : Int) + 3 < (hl : Int)) = false := by simp; omega
        clear p1 hD6
        go_wp2_with (at_builtin; refine wpList_append_run rfl (.tmp 72) (.tmp 78) _ rfl _ _ _ rfl rfl P1.out ?_)
        with_reducible refine HH.out.mono ?_
        rintro r w7 ⟨rfl, hX7⟩
        have HP7 := Lib.hid (HP6.out.ext hX7)
        clear hX7
        go_wp2_with fail
        go_roundw
        case rel => exact ⟨i + 1, ol, by go_num, by go_num, Nat.le_refl _, by omega, HP7.out⟩
        case measure => simp [intOf]; omega
    · have hd : decide ((at_ : Int) < (ol : Int)) = false := by simp; omega
      obtain rfl : ol = at_ := by omega
      have HDyr := Lib.hid (HDy.out.upd HUr.out (fun k hk => by
        rcases foot_or hk with h | h | h
        · simp; omega
        · simp [Value.ownBlock] at h
        · simp [Value.ownBlock] at h))
      have HRr := Lib.hid (HOr.out.ext HXr.out)
      have HQ := Lib.hid (PFed2.start HDyr.out own)
      have hsr : wy.heap.size ≤ wr.heap.size := HUr.out.size
      clear hi9
      obtain ⟨wA, rfl⟩ : ∃ x, x = wr := ⟨_, rfl⟩
      go_wp2_with fail
      go_loopw [19, 20, 23] (fun v19 v20 v23 wz => ∃ i at_ : Nat, v23 = .int .i64 i ∧ v20 = .int .i64 at_ ∧ at_ ≤ ol ∧ i / 9 ≤ at_ ∧ PFed2 wA wz wx.heap.size wx.heap.size m f own at_ v19) (fun _ v20 v23 _ => 9 * (ol - (intOf v20).toNat) + (8 - (intOf v23).toNat % 9))
      case atStart => exact ⟨0, 0, rfl, rfl, by omega, by omega, HQ.out⟩
      case round =>
        obtain ⟨i, at_, rfl, rfl, hat, hi9, hP⟩ := hrel
        have HQr := Lib.hid hP
        have HUz := Lib.hid (show Upd [wx.heap.size] wA wr by obtain ⟨_, _, _, _, q, _⟩ := hP; exact q)
        have HXz := Lib.hid (HUz.out.ext HXr.out (by simp; omega))
        clear hP
        by_cases hlt : at_ < ol
        · have hd : decide ((at_ : Int) < (ol : Int)) = true := by simp; omega
          have HPc := Lib.hid (piece_any sa sn sc ss i (by omega) wr (HS.out.ext (HX.out.trans HXz.out)))
          obtain ⟨ga, o, rfl, hca⟩ := HOr.out.at_ hlt
          have hgaf := World.block_lt_of_cell? wf _ hca
          simp only at hgaf
          clear hca
          go_wp2_with fail
          refine HPc.out.mono ?_
          rintro r wb ⟨k, rfl, hk, hk9, rfl⟩
          have hne : oc ≠ at_ := by omega
          by_cases hjn : at_ + k ≤ ol
          · have HPf := Lib.hid (piece_feed2 HQr.out (by omega) (by omega) (by omega) HRr.out (by omega) hlt (show at_ ≤ at_ + k by omega) (hjn) (by omega))
            rw [Nat.add_sub_cancel_left] at HPf
            have hb1 : at_ + k ≤ oc := by omega
            have hb2 : at_ ≤ at_ + k := by omega
            go_wp2_with fail
            with_reducible refine HPf.out.mono ?_
            rintro r w5 ⟨v5, rfl, got, w6, p1, hP6⟩
            have P1 := Lib.hid p1
            have HP6 := Lib.hid hP6
            clear p1 hP6
            go_wp2_with (at_builtin; refine wpList_append_run rfl (.tmp 100) (.tmp 106) _ rfl _ _ _ rfl rfl P1.out ?_)
            go_roundw
            case rel => exact ⟨i + 1, at_ + k, by go_num, by go_num, hjn, by omega, HP6.out⟩
            case measure => simp [intOf]; omega
          · have HPf := Lib.hid (piece_feed2 HQr.out (by omega) (by omega) (by omega) HRr.out (by omega) hlt (hat) (Nat.le_refl _) (by omega))
            go_wp2_with fail
            with_reducible refine HPf.out.mono ?_
            rintro r w5 ⟨v5, rfl, got, w6, p1, hP6⟩
            have P1 := Lib.hid p1
            have HP6 := Lib.hid hP6
            clear p1 hP6
            go_wp2_with (at_builtin; refine wpList_append_run rfl (.tmp 100) (.tmp 106) _ rfl _ _ _ rfl rfl P1.out ?_)
            go_roundw
            case rel => exact ⟨i + 1, ol, by go_num, by go_num, Nat.le_refl _, by omega, HP6.out⟩
            case measure => simp [intOf]; omega
        · have hd : decide ((at_ : Int) < (ol : Int)) = false := by simp; omega
          obtain rfl : ol = at_ := by omega
          have hz : own.take ol = own := List.take_of_length_le (by rw [HOL.out]; omega)
          obtain ⟨cy, hcy⟩ : ∃ cs, wA.heap[wx.heap.size]? = some (.cells cs 52 (0, 0)) := ⟨_, HDyr.out.blk⟩
          obtain ⟨vnx, vrx, hDx9, hTx9⟩ := HPr.out.other HUz.out (by omega) (by omega) hcy
          obtain ⟨vny, vry, hDy9, hTy9, _⟩ := HQr.out
          rw [hz] at hDx9 hTx9 hDy9 hTy9
          have hIn := show Inv m f (feed m f own (St.new, [])).1 from Inv.feed _ (Inv.new m f)
          have hLn := feed_len m f own (St.new, [])
          have h1 := hIn.2.1
          have h2 := hIn.2.2.1
          have h3 := hIn.2.2.2.1
          have h4 : (feed m f own (St.new, [])).2.length ≤ 100000 := by
            have := HOL.out
            simp at hLn
            omega
          generalize feed m f own (St.new, []) = E at *
          obtain ⟨se, Le⟩ := E
          simp only at hDx9 hTx9 hDy9 hTy9 h1 h2 h3 h4
          have HSB := Lib.hid (sameBytes_own hTx9 hTy9.owns h4)
          have HDx9 := Lib.hid hDx9
          have HDy9 := Lib.hid hDy9
          clear hDx9 hTx9 hDy9 hTy9 hIn hLn hcy hz
          go_wp2_with fail
          refine HSB.out.mono ?_
          rintro r w8 ⟨rfl, hX8⟩
          have HDx8 := Lib.hid (HDx9.out.ext hX8)
          have HDy8 := Lib.hid (HDy9.out.ext hX8)
          have HX8 := Lib.hid (HXz.out.trans hX8)
          clear hX8 HSB HDx9 HDy9
          go_wp2_with fail
          refine (errno_any HDx8.out).mono ?_
          rintro r wb ⟨rfl, rfl⟩
          go_wp2_with fail
          refine (errno_any HDy8.out).mono ?_
          rintro r wb ⟨rfl, rfl⟩
          go_wp2_with fail
          refine (held_any HDx8.out (by omega) (by omega)).mono ?_
          rintro r w9 ⟨rfl, hX9⟩
          have HDx9 := Lib.hid (HDx8.out.ext hX9)
          have HDy9 := Lib.hid (HDy8.out.ext hX9)
          have HX9 := Lib.hid (HX8.out.trans hX9)
          clear hX9
          go_wp2_with fail
          refine (held_any HDy9.out (by omega) (by omega)).mono ?_
          rintro r w10 ⟨rfl, hX10⟩
          have HDx10 := Lib.hid (HDx9.out.ext hX10)
          have HDy10 := Lib.hid (HDy9.out.ext hX10)
          have HX10 := Lib.hid (HX9.out.trans hX10)
          clear hX10
          go_wp2_with fail
          refine (clean_any HDx10.out (by omega) (by omega)).mono ?_
          rintro r wb ⟨rfl, rfl⟩
          go_wp2_with fail
          refine (clean_any HDy10.out (by omega) (by omega)).mono ?_
          rintro r wb ⟨rfl, rfl⟩
          generalize (se.err == 0 && se.count == 0 && se.num.length == 0) = cl at *
          go_wp2_with fail
          refine (lives_any _).mono ?_
          rintro r wq ⟨rfl, hXq⟩
          have HXq := Lib.hid (HX.out.trans (HX10.out.trans hXq))
          clear hXq
          go_wp2_with fail
          go_ret
          exact ⟨rfl, HXq.out⟩
end Go.Proofs.Ytpgbocdcjlcelaa
