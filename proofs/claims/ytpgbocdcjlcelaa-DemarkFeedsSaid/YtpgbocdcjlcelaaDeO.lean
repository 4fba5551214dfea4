/- The walk of the law DemarkFeeds, out of the walk of the document's answer. -/
import Derived.Test.YtpgbocdcjlcelaaDeN
namespace Go.Proofs.Ytpgbocdcjlcelaa
open Go.ChangeShapes Go.WideShapes Go.ChangeAt Go.RowKit

/-- The document's answer of all bytes, as a contract. -/
def RefAll : Prop := ∀ (w : World) (a : Option Addr) (n cap : Nat) (zs : List Int), IsRow .u8 w a n cap zs → Plain a cap → n ≤ 2000 → ∀ (m f : Nat), m ≤ 4096 → f ≤ 64 →
    Calls Try.prog 15 #[.slice a n cap, .int .i64 m, .int .i64 f] w fun r w' => ∃ vL, r = .returned (.agg #[vL, .int .i64 (ref m f zs [] 0 []).e, .int .i64 (ref m f zs [] 0 []).held, .bool (ref m f zs [] 0 []).clean]) ∧ OwnsRows w' w.heap.size vL (ref m f zs [] 0 []).l ∧ Ext w w'
theorem few_own {w : World} {a : Option Addr} {n cap : Nat} {own : List Int} (h : IsRow .u8 w a n cap own) (hp : Plain a cap) (hl : own.length ≤ 1000) :
    Calls Try.prog 10 #[.slice a n cap, .int .i64 1000] w fun r w' => ∃ v, r = .returned v ∧ Owns w' w.heap.size 5 v (bv own) ∧ Ext w w' := by
  have := few_any a n cap own 1000 (by omega) w h (by rcases hp with ⟨_, h⟩ | ⟨_, _, h⟩; (exact fun _ => h); (intro e; rw [e] at h; cases h))
  rw [List.take_of_length_le hl] at this
  exact this
/-- The two rows that are fed. -/
def TwoRows (w : World) (G : Nat) : Prop := ∀ k : Nat, k < 2 → ∃ a n cap own, w.cell? ⟨G, k, none⟩ = some (.slice a n cap) ∧ IsRow .u8 w a n cap own ∧ Plain a cap ∧ n ≤ 1080
set_option maxRecDepth 100000 in
set_option maxHeartbeats 16000000 in
theorem demarkFeeds_walk0 (HRA : RefAll) (w : World) (a : Option Addr) (n cap : Nat) (zs : List Int) (h : IsRow .u8 w a n cap zs) (ha : a = none → cap = 0)
    (ra : Option Addr) (rn rc : Nat) (rss : List (List Int)) (hr : IsRows (fun a c => a = none → c = 0) w ra rn rc rss) (_hra : ra = none → rc = 0)
    (ca : Option Addr) (cn cc : Nat) (cs : List Int) (hc : IsRow .i64 w ca cn cc cs) (_hca : ca = none → cc = 0) (most : Int) (w0 : (Lit.int .i64 most).wf = true) (frags : Int) (w1 : (Lit.int .i64 frags).wf = true)
    (sa : Option Addr) (sn sc : Nat) (ss : List Int) (hs : IsRow .i64 w sa sn sc ss) (_hsa : sa = none → sc = 0) :
    Calls Try.prog 3 #[.slice a n cap, .slice ra rn rc, .slice ca cn cc, .int .i64 most, .int .i64 frags, .slice sa sn sc] w fun r w' => r = .returned (.bool true) ∧ Ext w w' := by
  have hcm := h.2.2.1
  have hlc := h.2.1
  have hrcm := hr.2.2.1
  have hrlc := hr.2.1
  have hccm := hc.2.2.1
  have hclc := hc.2.1
  have hscm := hs.2.2.1
  have hslc := hs.2.1
  unfold maxLen at hcm hrcm hccm hscm
  have HGd := Lib.hid (good_any ra rn rc rss ca cn cc cs w hr hc)
  have HRA' := Lib.hid HRA
  have hz : ∀ z ∈ zs.take 80, (Lit.int .u8 z).wf = true := fun z hz => h.2.2.2.1 z (List.mem_of_mem_take hz)
  have hyl : (zs.take 80).length ≤ 80 := by rw [List.length_take]; omega
  have HF := Lib.hid (fun W (hW : Ext w W) => few_any a n cap zs 80 (by omega) W (h.ext hW) ha)
  generalize zs.take 80 = fw at *
  have HZ := Lib.hid hz
  obtain ⟨m, hm, hma⟩ := around_nat most 51 (by omega) w0
  obtain ⟨f0, hf0, hfa⟩ := around_nat frags 5 (by omega) w1
  have HMa := Lib.hid hma
  have HFa := Lib.hid hfa
  obtain ⟨f, hfE⟩ : ∃ f : Nat, f = 1 + f0 := ⟨_, rfl⟩
  have HFE := Lib.hid (show (1 : Int) + (f0 : Int) = (f : Int) by omega)
  have hf1 : 1 ≤ f := by omega
  have hf6 : f ≤ 6 := by omega
  have HS := Lib.hid hs
  clear h ha hr hc hz w0 w1 hma hfa hfE hs HRA
  go_enter Try.func3, Try.ntmps3
  go_wp2_with fail
  refine HGd.out.mono ?_
  rintro r wc ⟨v1, v2, rfl, yss, gs, hO7, hyl5, hy40, hO8, hgs, hX⟩
  obtain ⟨ga8, gc8, rfl, hGR⟩ := hO8.rowI (fun z hz => by
    have := hgs z hz
    simp [Lit.wf, IntKind.min, IntKind.max, IntKind.signed, IntKind.bits]
    omega)
  have HAll := Lib.hid (all_good hO7 hyl5 hy40 hGR hgs)
  have HWf := Lib.hid (cat_wf (gs := gs) hO7.wf yss.length)
  have hln := own_len hyl5 hy40 hgs
  have HX := Lib.hid hX
  have hg1 := hGR.2.1
  have hg2 := hGR.2.2.1
  unfold maxLen at hg2
  clear hO7 hy40 hO8 hgs hX hGR HGd
  generalize catAll gs yss yss.length = own at *
  generalize gs.length = gl at *
  go_wp2_with fail
  with_reducible refine HAll.out.mono ?_
  rintro r w2 ⟨vo, rfl, hOo, hX2⟩
  obtain ⟨oa, oc, rfl, hor, hop⟩ := hOo.row2 HWf.out
  have HOr := Lib.hid hor
  have HOp := Lib.hid hop
  have HX2 := Lib.hid (HX.out.trans hX2)
  have hoc1 := hor.2.1
  have hoc2 := hor.2.2.1
  unfold maxLen at hoc2
  clear hOo hop hX2 HAll hor HX
  obtain ⟨ol, hol⟩ : ∃ ol, ol = own.length := ⟨_, rfl⟩
  rw [← hol] at hoc1 hln HOr
  rw [← hol]
  have HOL := Lib.hid hol
  clear hol
  go_wp2_with fail
  refine (HF.out _ HX2.out).mono ?_
  rintro r w3 ⟨v3, rfl, hO3, hX3⟩
  obtain ⟨fa, fc, rfl, hfr, hfp⟩ := hO3.row2 HZ.out
  have HFr := Lib.hid hfr
  have HFp := Lib.hid hfp
  have HX3 := Lib.hid (HX2.out.trans hX3)
  have hfc1 := hfr.2.1
  have hfc2 := hfr.2.2.1
  unfold maxLen at hfc2
  have HFw := Lib.hid (few_own (HOr.out.ext hX3) HOp.out (by rw [← HOL.out]; omega))
  clear hO3 hfr hfp hX3 HF HX2
  obtain ⟨fl, hfl⟩ : ∃ fl, fl = fw.length := ⟨_, rfl⟩
  rw [← hfl] at hfc1 hyl HFr
  rw [← hfl]
  have HFL := Lib.hid hfl
  clear hfl
  go_wp2_with fail
  with_reducible refine HFw.out.mono ?_
  rintro r w4 ⟨v4, rfl, hO4, hX4⟩
  obtain ⟨A5, C5, w5, P1, hO5, hU5, hb5⟩ := app_row2 hO4 (c := fc) (HFr.out.ext hX4) (by rcases HFp.out with ⟨_, q⟩ | ⟨_, _, q⟩; (exact fun _ => q); (intro e; rw [e] at q; cases q)) (by rw [← HOL.out]; omega) hX4.size
  have hX5 : Ext w3 w5 := hU5.ext hX4 (fun k hk => by
    simp at hk
    exact (hO4.lt hk).1)
  obtain ⟨A6, C6, e6, hR5, hP5⟩ := hO5.row2 (fun z hz => by
    rcases List.mem_append.1 hz with q | q
    · exact HWf.out z q
    · exact HZ.out z q)
  injection e6 with e61 e62 e63
  subst e61 e63
  rw [← e62] at hR5
  clear e62
  have hl5 : own.length + fl ≤ 1080 := by rw [← HOL.out]; omega
  generalize own.length + fl = jl at *
  generalize own ++ fw = jo at *
  have hjc1 := hR5.2.1
  have hjc2 := hR5.2.2.1
  unfold maxLen at hjc2
  have P1' := Lib.hid P1
  have HX5 := Lib.hid hX5
  have HR5 := Lib.hid hR5
  have HP5 := Lib.hid hP5
  have HXw := Lib.hid (HX3.out.trans hX5)
  clear P1 hX5 hR5 hP5 hO5 hU5 hb5 hO4 hX4 HFw
  go_wp2_with (at_builtin; refine wpList_append_run rfl (.tmp 45) (.tmp 46) _ rfl _ _ _ rfl rfl P1'.out ?_)
  obtain ⟨wA, hwA⟩ : ∃ wA, wA = w5.alloc (.cells #[.slice fa fl fc, .slice A5 jl C5] 22) := ⟨_, rfl⟩
  have hXA : Ext w5 wA := by rw [hwA]; exact (Ext.refl _).alloc _
  have hbk : wA.heap[w5.heap.size]? = some (.cells #[.slice fa fl fc, .slice A5 jl C5] 22 (0, 0)) := by rw [hwA]; exact heap_alloc_new _ _
  have H2 := Lib.hid (show TwoRows wA w5.heap.size by
    intro k hk
    rcases (show k = 0 ∨ k = 1 by omega) with rfl | rfl
    · exact ⟨fa, fl, fc, fw, by simp [World.cell?, hbk], HFr.out.ext (HX5.out.trans hXA), HFp.out, by omega⟩
    · exact ⟨A5, jl, C5, jo, by simp [World.cell?, hbk], HR5.out.ext hXA, HP5.out, by omega⟩)
  have HXA := Lib.hid (HXw.out.trans hXA)
  have hgA : w5.heap.size < wA.heap.size := lt_of_heap hbk
  rw [← hwA]
  clear hwA hXA hbk P1' HX5 HR5 HP5 HXw HFr HFp HX3 HOr HOp HZ HWf
  generalize w5.heap.size = G at *
  refine (HMa.out _).mono ?_
  rintro r wb ⟨rfl, rfl⟩
  go_wp2_with fail
  refine (HFa.out _).mono ?_
  rintro r wb ⟨rfl, rfl⟩
  go_wp2_with fail
  rw [HFE.out]
  go_loopw [21] (fun v21 wr => ∃ k : Nat, v21 = .int .i64 k ∧ k ≤ 2 ∧ Ext wA wr) (fun v21 _ => 2 - (intOf v21).toNat)
  case atStart => exact ⟨0, rfl, by omega, Ext.refl _⟩
  case round =>
    obtain ⟨kk, rfl, hk2, hXr⟩ := hrel
    obtain ⟨wK, rfl⟩ : ∃ x, x = wr := ⟨_, rfl⟩
    have HXK := Lib.hid hXr
    clear hXr
    by_cases hklt : kk < 2
    · have hdk : decide ((kk : Int) < 2) = true := by simp; omega
      obtain ⟨qa, ql, qc, own, hcell, hrow, hpl, hql⟩ := H2.out kk hklt
      have HRow := Lib.hid hrow
      have HPl := Lib.hid hpl
      have HCell := Lib.hid hcell
      have hqc1 := hrow.2.1
      have hqc2 := hrow.2.2.1
      have hqz := hrow.1
      have HQZ := Lib.hid hqz
      unfold maxLen at hqc2
      clear hrow hpl hcell hqz
      go_wp2_with fail
      refine (new_ok m f (by omega) hf1 (by omega) wK).mono ?_
      rintro r w3' ⟨rfl, hD3, hX3'⟩
      have HP := Lib.hid (PFed.start hD3 hX3' own)
      have hlt3 := hD3.lt
      clear hD3 hX3'
      go_wp2_with fail
      go_loopw [24, 25, 26] (fun v24 v25 v26 wr => ∃ i at_ : Nat, v26 = .int .i64 i ∧ v25 = .int .i64 at_ ∧ at_ ≤ ql ∧ i / 9 ≤ at_ ∧ PFed wK wr m f own at_ v24) (fun _ v25 v26 _ => 9 * (ql - (intOf v25).toNat) + (8 - (intOf v26).toNat % 9))
      case atStart => exact ⟨0, 0, rfl, rfl, by omega, by omega, HP.out⟩
      case round =>
        obtain ⟨i, at_, rfl, rfl, hat, hi9, hP⟩ := hrel
        have HPr := Lib.hid hP
        have HXr := Lib.hid (show Ext wK wr by obtain ⟨_, _, _, _, q⟩ := hP; exact q)
        clear hP
        have hcr := (HXK.out.trans HXr.out).cell HCell.out
        have hgr : G < wr.heap.size := Nat.lt_of_lt_of_le hgA (HXK.out.trans HXr.out).size
        by_cases hlt : at_ < ql
        · have hd : decide ((at_ : Int) < (ql : Int)) = true := by simp; omega
          obtain ⟨k, hk, hk9, hPc⟩ := piece_nat sa sn sc ss i (by omega) wr (HS.out.ext (HXA.out.trans (HXK.out.trans HXr.out)))
          have HPc := Lib.hid hPc
          clear hPc
          obtain ⟨ga, o, rfl, _⟩ := HRow.out.at_ hlt
          obtain ⟨j, hj⟩ : ∃ j, j = min (at_ + k) ql := ⟨_, rfl⟩
          have HJ := Lib.hid hj
          have HW := Lib.hid (show IntKind.i64.wrap ((at_ : Int) + (k : Int)) = (at_ : Int) + (k : Int) by rw [IntKind.wrap_i64]; omega)
          have hj1 : at_ ≤ j := by omega
          have hj2 : j ≤ ql := by omega
          have hj9 : i % 9 = 8 → at_ < j := by omega
          clear hj
          go_upto_region 18 with (fail)
          go_cut [27] (fun s27 wx => s27 = .int .i64 (j : Nat) ∧ Ext wr wx)
          case first =>
            go_region_with (go_at_call 13; refine (HPc.out _ (drew_ext wr)).mono ?_; rintro r w1 ⟨rfl, rfl⟩)
            all_goals (try go_wp2_with fail)
            all_goals (go_meet; exact ⟨by have := HJ.out; have := HW.out; congr 1; omega, drew_ext wr⟩)
          case rest =>
            obtain ⟨rfl, hXc⟩ := hcut
            have hcc := hXc.cell hcr
            have hgc : G < wc.heap.size := Nat.lt_of_lt_of_le hgr hXc.size
            have HPf := Lib.hid (piece_feed (HPr.out.ext hXc) (by omega) (by omega) (HRow.out.ext HXK.out) hlt hj1 hj2 (by omega))
            have hne : qc ≠ at_ := by omega
            have hne0 : qc ≠ 0 := by omega
            have hb1 : j ≤ qc := by omega
            clear hcr hXc hgr HPc HPr
            go_wp2_with fail
            with_reducible refine HPf.out.mono ?_
            rintro r w5 ⟨v5, rfl, got, w6, p1, hP6⟩
            have P1 := Lib.hid p1
            have HP6 := Lib.hid hP6
            have HX6 := Lib.hid (show Ext wK w6 by obtain ⟨_, _, _, _, q⟩ := hP6; exact q)
            have hc6 := (HXK.out.trans HX6.out).cell HCell.out
            have hg6 : G < w6.heap.size := Nat.lt_of_lt_of_le hgA (HXK.out.trans HX6.out).size
            have HRf := Lib.hid (HRA'.out w6 _ j qc (own.take j) (((HRow.out.head hj2).ext HXK.out).ext HX6.out) HPl.out (by omega) m f (by omega) (by omega))
            obtain ⟨b1, b2, b3, b4⟩ := behind hP6 (by omega) (by omega) (by rw [HQZ.out]; omega)
            generalize ref m f (own.take j) [] 0 [] = R at *
            obtain ⟨RL, Re, Rh, Rc⟩ := R
            simp only at b1 b2 b3 b4
            have HB1 := Lib.hid b1
            have HB2 := Lib.hid b2
            have HB3 := Lib.hid b3
            have HB4 := Lib.hid b4
            clear p1 hP6 b1 b2 b3 b4 hcc hgc HPf
            go_wp2_with (at_builtin; refine wpList_append_run rfl (.tmp 90) (.tmp 99) _ rfl _ _ _ rfl rfl P1.out ?_)
            with_reducible refine HRf.out.mono ?_
            rintro r w7 ⟨vL, rfl, hOL, hX7⟩
            have hb4 := HB4.out w7 vL hX7 hOL
            obtain ⟨aL, cL, rfl, _⟩ := hOL.rows
            have HS4 := Lib.hid hb4
            have HX7 := Lib.hid hX7
            generalize RL.length = Ll at *
            obtain ⟨W, hW⟩ : ∃ W, W = w7.alloc (.cells #[.slice aL Ll cL, .int .i64 Re, .int .i64 (Rh : Nat), .bool Rc] 38) := ⟨_, rfl⟩
            have hXW : Ext w7 W := by rw [hW]; exact (Ext.refl _).alloc _
            have hwm : W.heap[w7.heap.size]? = some (.cells #[.slice aL Ll cL, .int .i64 Re, .int .i64 (Rh : Nat), .bool Rc] 38 (0, 0)) := by rw [hW]; exact heap_alloc_new _ _
            obtain ⟨x0, x1, x2, x3, fz⟩ := blk4 hwm
            have lx := lt_of_heap hwm
            have HXW := Lib.hid hXW
            clear hX7 hb4 hXW hwm hOL hc6 hg6 HB4
            go_wp2_with fail
            rw [← hW]
            clear hW
            generalize w7.heap.size = gx at *
            go_region_held3 (fun w' => w'.cell? ⟨gx, 0, none⟩ = some (.slice aL Ll cL) ∧ w'.cell? ⟨gx, 1, none⟩ = some (.int .i64 Re) ∧ w'.cell? ⟨gx, 2, none⟩ = some (.int .i64 (Rh : Nat)) ∧ w'.cell? ⟨gx, 3, none⟩ = some (.bool Rc)) (first | exact ⟨x0, x1, x2, x3⟩ | exact keep4 (by assumption) hX13 | exact keep4 (by assumption) hX11 | assumption) (first | (go_at_call 16; refine (HS4.out _ (HXW.out.trans (drew_ext W))).mono ?_; rintro e w11 ⟨rfl, hX11⟩) | (go_at_call 17; refine (HB1.out _ (HX7.out.trans (HXW.out.trans ((drew_ext W).trans hX11)))).mono ?_; rintro e w12 ⟨rfl, rfl⟩) | (go_at_call 18; refine (HB2.out _ (HX7.out.trans (HXW.out.trans ((drew_ext W).trans hX11)))).mono ?_; rintro e w13 ⟨rfl, hX13⟩) | (go_at_call 19; refine (HB3.out _ (HX7.out.trans (HXW.out.trans ((drew_ext W).trans (hX11.trans hX13))))).mono ?_; rintro e w14 ⟨rfl, rfl⟩))
            have HP9 := Lib.hid (HP6.out.ext (HX7.out.trans (HXW.out.trans ((drew_ext W).trans (hX11.trans hX13)))))
            clear hX11 hX13
            go_wp2_with fail
            go_roundw
            case rel => exact ⟨i + 1, j, by go_num, by go_num, hj2, by omega, HP9.out⟩
            case measure => simp [intOf]; omega
        · have hd : decide ((at_ : Int) < (ql : Int)) = false := by simp; omega
          go_wp2_with fail
          go_roundw
          case rel => exact ⟨kk + 1, by go_num, by omega, HXK.out.trans HXr.out⟩
          case measure => simp [intOf]; omega
    · have hdk : decide ((kk : Int) < 2) = false := by simp; omega
      go_wp2_with fail
      refine (lives_any _).mono ?_
      rintro r wq ⟨rfl, hXq⟩
      have HXq := Lib.hid (HXA.out.trans (HXK.out.trans hXq))
      clear hXq
      go_wp2_with fail
      go_ret
      exact ⟨rfl, HXq.out⟩
end Go.Proofs.Ytpgbocdcjlcelaa
