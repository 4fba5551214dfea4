/- The document's All gives the plain answer. -/
import Derived.Test.YtggojigbflbloaaMkA
namespace Go.Proofs.Ytggojigbflbloaa
open Go.ChangeShapes Go.WideShapes Go.ChangeAt Go.RowKit

set_option maxRecDepth 100000 in
set_option maxHeartbeats 2000000 in
theorem refAll_any (sa : Option Addr) (sn sc : Nat) (ss : List Int) (a : Option Addr) (n cap : Nat) (yss : List (List Int)) (hn : n ≤ 5) (w : World) (hs : IsRow .i64 w sa sn sc ss) (h : IsRows Plain w a n cap yss) :
    Calls Try.prog 18 #[.slice sa sn sc, .slice a n cap] w fun r w' => ∃ v, r = .returned (.tuple #[v, .int .i64 (goAll ss yss 0 []).2]) ∧ Owns w' w.heap.size 5 v (bv (goAll ss yss 0 []).1) ∧ Ext w w' := by
  have hcm := h.2.2.1
  have hlc := h.2.1
  have hscm := hs.2.2.1
  have hslc := hs.2.1
  unfold maxLen at hcm hscm
  have HNE := Lib.hid h.1
  have HSE := Lib.hid hs.1
  have HR := Lib.hid h
  have HS := Lib.hid hs
  have HG := Lib.hid (show goAll ss (yss.drop 0) 0 [] = goAll ss yss 0 [] from rfl)
  generalize goAll ss yss 0 [] = G at *
  obtain ⟨gb, ge⟩ := G
  clear h hs
  go_enter Try.func18, Try.ntmps18
  go_wp2_with fail
  go_loopw [6, 7] (fun v6 v7 wr => ∃ (i : Nat) (acc : List Int), i ≤ n ∧ v7 = .int .i64 i ∧ acc.length ≤ i * 262400 ∧ goAll ss (yss.drop i) i acc = (gb, ge) ∧ Owns wr w.heap.size 5 v6 (bv acc) ∧ Ext w wr) (fun _ v7 _ => n - (intOf v7).toNat)
  case atStart => exact ⟨0, [], by omega, rfl, by simp, HG.out, Owns.nil _ _ _, Ext.refl w⟩
  case round =>
    obtain ⟨i, acc, hi, rfl, hal, hg, hO, hX⟩ := hrel
    have HGi := Lib.hid hg
    have HO := Lib.hid hO
    have HX := Lib.hid hX
    clear hg hO hX
    by_cases hlt : i < n
    · have hd : decide (i < n) = true := by simpa using hlt
      have hi0 : (0 : Int) ≤ (i : Int) := by omega
      have hi1 : (i : Int) < (n : Int) := by omega
      obtain ⟨g, o, ai, ci, rfl, q1, q2, q3⟩ := (HR.out.ext HX.out).at_ hlt
      have hgr := World.block_lt_of_cell? wr _ q1
      have HQ2 := Lib.hid q2
      have HAL := Lib.hid (ans_len (yss.getD i []) (sizeAt ss i))
      have HGm := Lib.hid (goAll_more (ss := ss) (yss := yss) (i := i) (by rw [HNE.out]; exact hlt) acc)
      have HGb := Lib.hid (goAll_bad (ss := ss) (yss := yss) (i := i) (by rw [HNE.out]; exact hlt) acc)
      rw [HGi.out] at HGm HGb
      clear HGi
      have HSz := Lib.hid (fun W (hW : Ext wr W) => size_any sa sn sc ss i (by omega) W (HS.out.ext (HX.out.trans hW)))
      have HM := Lib.hid (fun W (hW : Ext wr W) => refMark_any ai _ ci (yss.getD i []) (sizeAt ss i) W (q2.ext hW) q3 (sizeAt_le HS.out.2.2.2.1 i))
      have HP := Lib.hid (fun W (hW : Ext wr W) v2 W2 h2 hX2 => put_ans (W := W) (v2 := v2) (W2 := W2) (HO.out.ext hW) (HX.out.trans hW) (zs := yss.getD i []) (size := sizeAt ss i) q2.2.2.2.1 h2 hX2 (by omega))
      generalize hA : ans (yss.getD i []) (sizeAt ss i) = A at *
      obtain ⟨ab, ae⟩ := A
      have HA := Lib.hid hA
      clear hA q2
      simp only at HGm HGb HM HP HAL
      generalize (yss.getD i []).length = ylen at *
      generalize yss.getD i [] = y at *
      generalize sizeAt ss i = z at *
      go_wp2_with fail
      go_region_with (first | (go_at_call 20; refine (HSz.out _ (drew_ext wr)).mono ?_; rintro r w1 ⟨rfl, rfl⟩) | (go_at_call 16; refine (HM.out _ (drew_ext wr)).mono ?_; rintro r w2 ⟨v2, rfl, hO2, hX2⟩))
      all_goals
        obtain ⟨v', w', p1, p2, p3⟩ := HP.out _ (drew_ext wr) v2 w2 hO2 hX2
        have P1 := Lib.hid p1
        have P2 := Lib.hid p2
        have P3 := Lib.hid p3
        have X2 := Lib.hid ((HX.out.trans (drew_ext wr)).trans hX2)
        clear p1 p2 p3 hO2 hX2
        by_cases he : ae = 0
        · have hde : (ae != 0) = false := by simp [he]
          go_wp2_with (at_builtin; refine wpList_append_run rfl (.tmp 30) (.tmp 31) _ rfl _ _ _ ?_ ?_ P1.out ?_)
          · rfl
          · rfl
          · go_roundw
            case rel => exact ⟨i + 1, _, by omega, by go_num, by have := HAL.out; rw [List.length_append]; omega, (HGm.out he).symm, P2.out, P3.out⟩
            case measure => simp [intOf]; omega
        · have hde : (ae != 0) = true := by simp [he]
          have hE := HGb.out he
          injection hE with hE1 hE2
          subst hE1 hE2
          go_wp2_with fail
          refine bodyPost_ret (v := .tuple #[.slice none 0 0, .int .i64 ge]) (by simp [results, Try.results18, go_sem]) rfl ⟨_, rfl, Owns.nil _ _ _, X2.out⟩
    · have hd : decide (i < n) = false := by simpa using hlt
      have hE := HGi.out
      rw [goAll_end (by rw [HNE.out]; omega)] at hE
      injection hE with hE1 hE2
      subst hE1 hE2
      go_wp2_with fail
      refine bodyPost_ret (v := .tuple #[_, .int .i64 0]) (by simp [results, Try.results18, go_sem]) rfl ⟨_, rfl, HO.out, HX.out⟩
end Go.Proofs.Ytggojigbflbloaa
