/- mark.All and the document's All give the plain answer. -/
import Derived.Test.YtggojigbflbloaaMk9
namespace Go.Proofs.Ytggojigbflbloaa
open Go.ChangeShapes Go.WideShapes Go.ChangeAt Go.RowKit

/-- One record's fragments are put behind the others'. -/
theorem put_ans {w0 W W2 : World} {v v2 : Value} {acc : List Int} (hO : Owns W w0.heap.size 5 v (bv acc)) (hX : Ext w0 W) {zs : List Int} {size : Int} (hz : ∀ z ∈ zs, (Lit.int .u8 z).wf = true)
    (h2 : Owns W2 W.heap.size 5 v2 (bv (ans zs size).1)) (hX2 : Ext W W2) (hl : acc.length ≤ 5000000) :
    ∃ v' w', (Builtin.append_ #[28, 28] 28 #[v, v2]).run Try.prog W2 = .ok v' w' ∧ Owns w' w0.heap.size 5 v' (bv (acc ++ (ans zs size).1)) ∧ Ext w0 w' := by
  obtain ⟨a, cap, rfl, hr, hp⟩ := h2.row2 (ans_wf hz size)
  have hal := ans_len zs size
  obtain ⟨v', w', h3, h4, h5⟩ := app_row (hO.ext hX2) hr (fun e => by rcases hp with ⟨_, h⟩ | ⟨g, o, h⟩; exact h; rw [h] at e; cases e) (by rw [bv_len]; omega) (Nat.le_trans hX.size hX2.size) 28
  exact ⟨v', w', h3, by rw [bv_app]; exact h4, grown_ext h5 (hX.trans hX2) (fun g hg => (hO.lt hg).1)⟩

set_option maxRecDepth 100000 in
set_option maxHeartbeats 2000000 in
theorem all_any (sa : Option Addr) (sn sc : Nat) (ss : List Int) (a : Option Addr) (n cap : Nat) (yss : List (List Int)) (hn : n ≤ 5) (w : World) (hs : IsRow .i64 w sa sn sc ss) (h : IsRows Plain w a n cap yss) :
    Calls Try.prog 17 #[.slice sa sn sc, .slice a n cap] w fun r w' => ∃ v, r = .returned (.tuple #[v, .int .i64 (goAll ss yss 0 []).2]) ∧ Owns w' w.heap.size 5 v (bv (goAll ss yss 0 []).1) ∧ Ext w w' := by
  have hcm := h.2.2.1
  have hlc := h.2.1
  have hscm := hs.2.2.1
  have hslc := hs.2.1
  unfold maxLen at hcm hscm
  have HNE := Lib.hid h.1
  have HSE := Lib.hid hs.1
  have HR := Lib.hid h
  have HS := Lib.hid hs
  have HG := Lib.hid (show goAll ss (yss.drop 0) 0 [] = goAll ss yss 0 [] from rfl)
  generalize goAll ss yss 0 [] = G at *
  obtain ⟨gb, ge⟩ := G
  clear h hs
  go_enter Try.func17, Try.ntmps17
  go_wp2_with fail
  go_loopw [6, 14] (fun v6 v14 wr => ∃ (i : Nat) (acc : List Int), i ≤ n ∧ v14 = .int .i64 i ∧ acc.length ≤ i * 262400 ∧ goAll ss (yss.drop i) i acc = (gb, ge) ∧ Owns wr w.heap.size 5 v6 (bv acc) ∧ Ext w wr) (fun _ v14 _ => n - (intOf v14).toNat)
  case atStart => exact ⟨0, [], by omega, rfl, by simp, HG.out, Owns.nil _ _ _, Ext.refl w⟩
  case round =>
    obtain ⟨i, acc, hi, rfl, hal, hg, hO, hX⟩ := hrel
    have HGi := Lib.hid hg
    have HO := Lib.hid hO
    have HX := Lib.hid hX
    clear hg hO hX
    by_cases hlt : i < n
    · have hd : decide (i < n) = true := by simpa using hlt
      have hi0 : (0 : Int) ≤ (i : Int) := by omega
      have hi1 : (i : Int) < (n : Int) := by omega
      obtain ⟨g, o, ai, ci, rfl, q1, q2, q3⟩ := (HR.out.ext HX.out).at_ hlt
      have hgr := World.block_lt_of_cell? wr _ q1
      have HQ2 := Lib.hid q2
      have HM := Lib.hid (mark_any ai _ ci (yss.getD i []) (sizeAt ss i) wr q2 q3 (sizeAt_le HS.out.2.2.2.1 i))
      have HAL := Lib.hid (ans_len (yss.getD i []) (sizeAt ss i))
      have HP := Lib.hid (fun v2 W2 h2 hX2 => put_ans (v2 := v2) (W2 := W2) HO.out HX.out (zs := yss.getD i []) (size := sizeAt ss i) q2.2.2.2.1 h2 hX2 (by omega))
      have HGm := Lib.hid (goAll_more (ss := ss) (yss := yss) (i := i) (by rw [HNE.out]; exact hlt) acc)
      have HGb := Lib.hid (goAll_bad (ss := ss) (yss := yss) (i := i) (by rw [HNE.out]; exact hlt) acc)
      rw [HGi.out] at HGm HGb
      clear HGi
      generalize hA : ans (yss.getD i []) (sizeAt ss i) = A at *
      obtain ⟨ab, ae⟩ := A
      have HA := Lib.hid hA
      clear hA q2
      simp only at HGm HGb HM HP HAL
      generalize (yss.getD i []).length = ylen at *
      generalize yss.getD i [] = y at *
      have hsz : ∃ z, z = sizeAt ss i := ⟨_, rfl⟩
      obtain ⟨z, hz⟩ := hsz
      rcases Nat.eq_zero_or_pos sn with h0 | h0
      · have HE := Lib.hid (show sizeAt ss i = 4096 by unfold sizeAt; rw [if_pos (by rw [HSE.out]; exact h0)])
        rw [HE.out] at HM
        have hds : decide (0 < (sn : Int)) = false := by simp; omega
        have hds2 : decide (0 < sn) = false := by simp; omega
        have hds3 : sn ≤ 0 := by omega
        clear h0 hz
        go_wp2_with fail
        refine HM.out.mono ?_
        rintro r w2 ⟨v2, rfl, hO2, hX2⟩
        obtain ⟨v', w', p1, p2, p3⟩ := HP.out v2 w2 hO2 hX2
        have P1 := Lib.hid p1
        have P2 := Lib.hid p2
        have P3 := Lib.hid p3
        have X2 := Lib.hid (HX.out.trans hX2)
        clear p1 p2 p3 hO2 hX2
        by_cases he : ae = 0
        · have hde : (ae != 0) = false := by simp [he]
          go_wp2_with (at_builtin; refine wpList_append_run rfl (.tmp 38) (.tmp 39) _ rfl _ _ _ ?_ ?_ P1.out ?_)
          · rfl
          · rfl
          · go_roundw
            case rel => exact ⟨i + 1, _, by omega, by go_num, by have := HAL.out; rw [List.length_append]; omega, (HGm.out he).symm, P2.out, P3.out⟩
            case measure => simp [intOf]; omega
        · have hde : (ae != 0) = true := by simp [he]
          have hE := HGb.out he
          injection hE with hE1 hE2
          subst hE1 hE2
          go_wp2_with fail
          refine bodyPost_ret (v := .tuple #[.slice none 0 0, .int .i64 ge]) (by simp [results, Try.results17, go_sem]) rfl ⟨_, rfl, Owns.nil _ _ _, X2.out⟩
      · have hm := Nat.mod_lt i h0
        obtain ⟨g2, o2, rfl, qs⟩ := (HS.out.ext HX.out).at_ hm
        have HE := Lib.hid (show sizeAt ss i = ss.getD (i % sn) 0 by unfold sizeAt; rw [if_neg (by rw [HSE.out]; omega), HSE.out])
        rw [HE.out] at HM
        have hds : decide (0 < (sn : Int)) = true := by simp; omega
        have hdz : ((sn : Int) == 0) = false := by simp; omega
        have hj0 : (0 : Int) ≤ (i : Int) % (sn : Int) := by omega
        have hj1 : (i : Int) % (sn : Int) < (sn : Int) := by omega
        have hj2 : ((i : Int) % (sn : Int)).toNat = i % sn := by omega
        generalize ss.getD (i % sn) 0 = sz at *
        have hgr2 := World.block_lt_of_cell? wr _ qs
        clear hz h0
        go_wp2_with fail
        refine HM.out.mono ?_
        rintro r w2 ⟨v2, rfl, hO2, hX2⟩
        obtain ⟨v', w', p1, p2, p3⟩ := HP.out v2 w2 hO2 hX2
        have P1 := Lib.hid p1
        have P2 := Lib.hid p2
        have P3 := Lib.hid p3
        have X2 := Lib.hid (HX.out.trans hX2)
        clear p1 p2 p3 hO2 hX2
        by_cases he : ae = 0
        · have hde : (ae != 0) = false := by simp [he]
          go_wp2_with (at_builtin; refine wpList_append_run rfl (.tmp 38) (.tmp 39) _ rfl _ _ _ ?_ ?_ P1.out ?_)
          · rfl
          · rfl
          · go_roundw
            case rel => exact ⟨i + 1, _, by omega, by go_num, by have := HAL.out; rw [List.length_append]; omega, (HGm.out he).symm, P2.out, P3.out⟩
            case measure => simp [intOf]; omega
        · have hde : (ae != 0) = true := by simp [he]
          have hE := HGb.out he
          injection hE with hE1 hE2
          subst hE1 hE2
          go_wp2_with fail
          refine bodyPost_ret (v := .tuple #[.slice none 0 0, .int .i64 ge]) (by simp [results, Try.results17, go_sem]) rfl ⟨_, rfl, Owns.nil _ _ _, X2.out⟩
    · have hd : decide (i < n) = false := by simpa using hlt
      have hE := HGi.out
      rw [goAll_end (by rw [HNE.out]; omega)] at hE
      injection hE with hE1 hE2
      subst hE1 hE2
      go_wp2_with fail
      refine bodyPost_ret (v := .tuple #[_, .int .i64 0]) (by simp [results, Try.results17, go_sem]) rfl ⟨_, rfl, HO.out, HX.out⟩
end Go.Proofs.Ytggojigbflbloaa
