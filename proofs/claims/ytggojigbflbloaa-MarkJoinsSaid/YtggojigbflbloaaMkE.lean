/- The document's Good; the walk of the law MarkJoins. -/
import Derived.Test.YtggojigbflbloaaMkD
namespace Go.Proofs.Ytggojigbflbloaa
open Go.ChangeShapes Go.WideShapes Go.ChangeAt Go.RowKit

theorem IsRows.head {Q : Option Addr → Nat → Prop} {w : World} {a : Option Addr} {len cap : Nat} {yss : List (List Int)} (h : IsRows Q w a len cap yss) {j : Nat} (hj : j ≤ len) : IsRows Q w a j cap (yss.take j) := by
  obtain ⟨h1, h2, h3, h5⟩ := h
  refine ⟨by rw [List.length_take]; omega, by omega, h3, ?_⟩
  rcases h5 with h5 | ⟨g, o, e, hc⟩
  · left; omega
  · right
    refine ⟨g, o, e, fun i hi => ?_⟩
    have := hc i (by omega)
    have e : (yss.take j).getD i [] = yss.getD i [] := by simp [List.getD, hi]
    rw [e]
    exact this
/-- Records that are fit, and sizes that are fit. -/
def GoodRel (w w' : World) (v1 v2 : Value) : Prop := ∃ yss gs, OwnsRows w' w.heap.size v1 yss ∧ yss.length ≤ 5 ∧ (∀ y ∈ yss, y.length ≤ 40) ∧ Owns w' w.heap.size 3 v2 (iv gs) ∧ (∀ z ∈ gs, 1 ≤ z ∧ z ≤ 20) ∧ Ext w w'
def goodAll (ss : List Int) (i : Nat) : List Int := (ss.take i).map (fun z => 1 + arnd z 20)
theorem goodAll_succ (ss : List Int) (i : Nat) (hi : i < ss.length) : goodAll ss (i + 1) = goodAll ss i ++ [1 + arnd (ss.getD i 0) 20] := by
  unfold goodAll
  rw [take_snoc ss i 0 hi]
  simp
theorem goodAll_len (ss : List Int) (i : Nat) (hi : i ≤ ss.length) : (goodAll ss i).length = i := by unfold goodAll; simp; omega

set_option maxRecDepth 100000 in
set_option maxHeartbeats 4000000 in
theorem good_any (a : Option Addr) (n cap : Nat) (rss : List (List Int)) (sa : Option Addr) (sn sc : Nat) (ss : List Int) (w : World) (h : IsRows (fun a c => a = none → c = 0) w a n cap rss) (hs : IsRow .i64 w sa sn sc ss) :
    Calls Try.prog 19 #[.slice a n cap, .slice sa sn sc] w fun r w' => ∃ v1 v2, r = .returned (.tuple #[v1, v2]) ∧ GoodRel w w' v1 v2 := by
  have hcm := h.2.2.1
  have hlc := h.2.1
  have hscm := hs.2.2.1
  have hslc := hs.2.1
  unfold maxLen at hcm hscm
  have HNE := Lib.hid h.1
  have HSE := Lib.hid hs.1
  have HR := Lib.hid h
  have HS := Lib.hid hs
  obtain ⟨T, hT⟩ : ∃ T, T = min n 5 := ⟨_, rfl⟩
  have hT1 : T ≤ n := by omega
  have hT2 : T ≤ 5 := by omega
  have HT := Lib.hid hT
  obtain ⟨j, hj⟩ : ∃ j, j = min sn 5 := ⟨_, rfl⟩
  have hj1 : j ≤ sn := by omega
  have hj2 : j ≤ 5 := by omega
  have HJ := Lib.hid hj
  clear h hs hT hj
  go_enter Try.func19, Try.ntmps19
  go_wp2_with fail
  go_loopw [6, 7] (fun v5 v6 wr => ∃ i : Nat, i ≤ T ∧ v6 = .int .i64 i ∧ OwnsRows wr w.heap.size v5 (fewAll 40 rss i) ∧ Ext w wr) (fun _ v6 _ => T - (intOf v6).toNat)
  case atStart => exact ⟨0, by omega, rfl, OwnsRows.nil _ _, Ext.refl w⟩
  case round =>
    obtain ⟨i, hi, rfl, hO, hX⟩ := hrel
    have HO := Lib.hid hO
    have HX := Lib.hid hX
    clear hO hX
    by_cases hlt : i < T
    · have hd : decide (i < n) = true := by simp; omega
      have hd2 : decide ((i : Int) < 5) = true := by simp; omega
      have hi0 : (0 : Int) ≤ (i : Int) := by omega
      have hi1 : (i : Int) < (n : Int) := by omega
      obtain ⟨g, o, ai, ci, rfl, q1, q2, q3⟩ := (HR.out.ext HX.out).at_ (show i < n by omega)
      have hgr := World.block_lt_of_cell? wr _ q1
      have HF := Lib.hid (few_any ai _ ci (rss.getD i []) 40 (by omega) wr q2 q3)
      have HW := Lib.hid (show ∀ z ∈ (rss.getD i []).take 40, (Lit.int .u8 z).wf = true from fun z hz => q2.2.2.2.1 z (List.mem_of_mem_take hz))
      have HFS := Lib.hid (fewAll_succ 40 rss i (by rw [HNE.out]; omega))
      clear q2 q3
      generalize (rss.getD i []).length = rl at *
      generalize (rss.getD i []).take 40 = y at *
      go_wp2_with fail
      refine HF.out.mono ?_
      rintro r w2 ⟨v2, rfl, hO2, hX2⟩
      obtain ⟨v', w', p1, p2, p3⟩ := (HO.out.ext hX2).push ⟨hO2.low HX.out.size, HW.out⟩ (Nat.le_trans HX.out.size hX2.size) (by rw [fewAll_len _ _ _ (by rw [HNE.out]; omega)]; omega)
      have P1 := Lib.hid p1
      have P2 := Lib.hid p2
      have P3 := Lib.hid (p3 w (Nat.le_refl _) (HX.out.trans hX2))
      obtain ⟨a2, c2, rfl, _⟩ := hO2.row2 HW.out
      clear p1 p2 p3 hO2 hX2
      rw [← HFS.out] at P2
      go_wp2_with (at_builtin; refine wpList_append_run rfl (.tmp 20) (.tmp 26) _ rfl _ _ _ ?_ ?_ P1.out ?_)
      · rfl
      · rfl
      · go_roundw
        case rel => exact ⟨i + 1, by omega, by go_num, P2.out, P3.out⟩
        case measure => simp [intOf]; omega
    · obtain rfl : i = T := by omega
      have hall : (decide (i < n) = true ∧ decide ((i : Int) < 5) = false) ∨ decide (i < n) = false := by
        have := HT.out
        by_cases h5 : n ≤ i
        · right; simp; omega
        · left; exact ⟨by simp; omega, by simp; omega⟩
      have HYL := Lib.hid (show (fewAll 40 rss i).length ≤ 5 by rw [fewAll_len _ _ _ (by rw [HNE.out]; exact hT1)]; omega)
      have HY40 := Lib.hid (show ∀ y ∈ fewAll 40 rss i, y.length ≤ 40 from fun y hy => by
        unfold fewAll at hy
        obtain ⟨z, _, rfl⟩ := List.mem_map.1 hy
        simp; omega)
      generalize fewAll 40 rss i = yss at *
      obtain ⟨wc, rfl⟩ : ∃ wc : World, wc = wr := ⟨_, rfl⟩
      rcases hall with ⟨hd, hd2⟩ | hd
      all_goals
        go_wp2_with fail
        go_loopw [8, 9] (fun v8 v9 wq => ∃ k : Nat, k ≤ j ∧ v9 = .int .i64 k ∧ Owns wq wc.heap.size 3 v8 (iv (goodAll ss k)) ∧ Ext wc wq) (fun _ v9 _ => j - (intOf v9).toNat)
        case atStart => exact ⟨0, by omega, rfl, Owns.nil _ _ _, Ext.refl _⟩
        case round =>
          obtain ⟨k, hk, rfl, hO8, hX8⟩ := hrel
          have HO8 := Lib.hid hO8
          have HX8 := Lib.hid hX8
          clear hO8 hX8
          by_cases hkj : k < j
          · have hdk : decide (k < sn) = true := by simp; omega
            have hdk2 : decide ((k : Int) < 5) = true := by simp; omega
            have hk0 : (0 : Int) ≤ (k : Int) := by omega
            have hk1 : (k : Int) < (sn : Int) := by omega
            obtain ⟨g, o, rfl, qs⟩ := (HS.out.ext (HX.out.trans HX8.out)).at_ (show k < sn by omega)
            have hgr := World.block_lt_of_cell? _ _ qs
            have HAS := Lib.hid (goodAll_succ ss k (by rw [HSE.out]; omega))
            have hzw := wf_i64 (HS.out.2.2.2.1 (ss.getD k 0) (by simp [List.getD, HSE.out, show k < sn by omega]))
            generalize ss.getD k 0 = z at *
            have hab := arnd_bd z 20 (by omega)
            obtain ⟨v', w', p1, p2, _, p4⟩ := more HO8.out (1 + arnd z 20) (by rw [iv_len, goodAll_len _ _ (by rw [HSE.out]; omega)]; omega) HX8.out.size
            have P1 := Lib.hid p1
            have P2 := Lib.hid (show Owns w' wc.heap.size 3 v' (iv (goodAll ss (k + 1))) by rw [HAS.out]; simpa [iv] using p2)
            have P4 := Lib.hid (p4 _ (Nat.le_refl _) HX8.out)
            clear p1 p2 p4
            have HAr := Lib.hid (around_any z 20 wr (by omega) hzw.1 hzw.2)
            generalize arnd z 20 = zr at *
            go_wp2_with fail
            refine HAr.out.mono ?_
            rintro r wb ⟨rfl, rfl⟩
            go_wp2_with (at_builtin; refine wpList_append_run rfl (.tmp 38) (.tmp 45) _ rfl _ _ _ ?_ ?_ P1.out ?_)
            · rfl
            · rfl
            · go_roundw
              case rel => exact ⟨k + 1, by omega, by go_num, P2.out, P4.out⟩
              case measure => simp [intOf]; omega
          · have hall2 : (decide (k < sn) = true ∧ decide ((k : Int) < 5) = false) ∨ decide (k < sn) = false := by
              have := HJ.out
              by_cases h5 : sn ≤ k
              · right; simp; omega
              · left; exact ⟨by simp; omega, by simp; omega⟩
            have HG := Lib.hid (show ∀ z ∈ goodAll ss k, 1 ≤ z ∧ z ≤ 20 from fun z hz => by
              unfold goodAll at hz
              obtain ⟨y, _, rfl⟩ := List.mem_map.1 hz
              have := arnd_bd y 20 (by omega)
              omega)
            rcases hall2 with ⟨hd3, hd4⟩ | hd3
            all_goals
              go_wp2_with fail
              refine bodyPost_ret (v := .tuple #[_, _]) (by simp [results, Try.results19, go_sem]) rfl ⟨_, _, rfl, yss, _, HO.out.ext HX8.out, HYL.out, HY40.out, HO8.out.low HX.out.size, HG.out, HX.out.trans HX8.out⟩
end Go.Proofs.Ytggojigbflbloaa
