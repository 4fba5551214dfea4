/- The walk of the law MarkAll. -/
import Derived.Test.YtggojigbflbloaaMkC
namespace Go.Proofs.Ytggojigbflbloaa
open Go.ChangeShapes Go.WideShapes Go.ChangeAt Go.RowKit

def iv (zs : List Int) : List Value := zs.map (.int .i64)
theorem iv_len (zs : List Int) : (iv zs).length = zs.length := by simp [iv]
theorem Owns.rowI {w : World} {base : Nat} {e : TypeId} {v : Value} {zs : List Int} (h : Owns w base e v (iv zs)) (hw : ∀ z ∈ zs, (Lit.int .i64 z).wf = true) : ∃ a cap, v = .slice a zs.length cap ∧ IsRow .i64 w a zs.length cap zs := by
  rcases h.form with ⟨hv, h0⟩ | ⟨g, cap, cur, hv, hb, hn, hm, hg, hs, ht⟩
  · have hz : zs = [] := by simpa [iv] using h0
    subst hz
    exact ⟨none, 0, hv, rfl, by simp, by unfold maxLen; omega, by simp, .inl rfl⟩
  · rw [iv_len] at hv hn ht
    refine ⟨_, cap, hv, rfl, hn, hm, hw, .inr ⟨g, 0, rfl, fun i hi => ?_⟩⟩
    have h1 : (cur.toList.take zs.length)[i]? = cur[i]? := by rw [List.getElem?_take, if_pos hi]; simp
    rw [Nat.zero_add, cell_of hg i, ← h1, ht]
    simp [iv, List.getD, List.getElem?_eq_getElem hi]
theorem take_snoc {α : Type} (l : List α) (i : Nat) (d : α) (hi : i < l.length) : l.take (i + 1) = l.take i ++ [l.getD i d] := by
  rw [List.take_succ_eq_append_getElem hi]
  simp [List.getD, List.getElem?_eq_getElem hi]
def fewAll (m : Nat) (rss : List (List Int)) (i : Nat) : List (List Int) := (rss.take i).map (·.take m)
theorem fewAll_succ (m : Nat) (rss : List (List Int)) (i : Nat) (hi : i < rss.length) : fewAll m rss (i + 1) = fewAll m rss i ++ [(rss.getD i []).take m] := by
  unfold fewAll
  rw [take_snoc rss i [] hi]
  simp
theorem fewAll_len (m : Nat) (rss : List (List Int)) (i : Nat) (hi : i ≤ rss.length) : (fewAll m rss i).length = i := by unfold fewAll; simp; omega
def arAll (m : Int) (ss : List Int) (i : Nat) : List Int := (ss.take i).map (arnd · m)
theorem arAll_succ (m : Int) (ss : List Int) (i : Nat) (hi : i < ss.length) : arAll m ss (i + 1) = arAll m ss i ++ [arnd (ss.getD i 0) m] := by
  unfold arAll
  rw [take_snoc ss i 0 hi]
  simp
theorem arAll_len (m : Int) (ss : List Int) (i : Nat) (hi : i ≤ ss.length) : (arAll m ss i).length = i := by unfold arAll; simp; omega
theorem arnd_wf (n m : Int) (h0 : 0 < m) (hm : m ≤ 1000000) : (Lit.int .i64 (arnd n m)).wf = true := by
  have := arnd_bd n m h0
  simp [Lit.wf, IntKind.min, IntKind.max, IntKind.signed, IntKind.bits]
  omega

set_option maxRecDepth 100000 in
set_option maxHeartbeats 4000000 in
theorem markAll_walk (w : World) (a : Option Addr) (n cap : Nat) (rss : List (List Int)) (h : IsRows (fun a c => a = none → c = 0) w a n cap rss) (ha : a = none → cap = 0) (sa : Option Addr) (sn sc : Nat) (ss : List Int) (hs : IsRow .i64 w sa sn sc ss) (hsa : sa = none → sc = 0) :
    Calls Try.prog 6 #[.slice a n cap, .slice sa sn sc] w fun r w' => r = .returned (.bool true) ∧ Ext w w' := by
  have hcm := h.2.2.1
  have hlc := h.2.1
  have hscm := hs.2.2.1
  have hslc := hs.2.1
  unfold maxLen at hcm hscm
  have HNE := Lib.hid h.1
  have HSE := Lib.hid hs.1
  have HR := Lib.hid h
  have HS := Lib.hid hs
  obtain ⟨T, hT⟩ : ∃ T, T = min n 5 := ⟨_, rfl⟩
  have hT1 : T ≤ n := by omega
  have hT2 : T ≤ 5 := by omega
  have HT := Lib.hid hT
  obtain ⟨j, hj⟩ : ∃ j, j = min sn 4 := ⟨_, rfl⟩
  have hj1 : j ≤ sn := by omega
  have hj2 : j ≤ 4 := by omega
  have HJ := Lib.hid hj
  have HSA := Lib.hid hsa
  clear h hs ha hT hj hsa
  go_enter Try.func6, Try.ntmps6
  go_wp2_with fail
  go_loopw [5, 6] (fun v5 v6 wr => ∃ i : Nat, i ≤ T ∧ v6 = .int .i64 i ∧ OwnsRows wr w.heap.size v5 (fewAll 100 rss i) ∧ Ext w wr) (fun _ v6 _ => T - (intOf v6).toNat)
  case atStart => exact ⟨0, by omega, rfl, OwnsRows.nil _ _, Ext.refl w⟩
  case round =>
    obtain ⟨i, hi, rfl, hO, hX⟩ := hrel
    have HO := Lib.hid hO
    have HX := Lib.hid hX
    clear hO hX
    by_cases hlt : i < T
    · have hd : decide (i < n) = true := by simp; omega
      have hd2 : decide ((i : Int) < 5) = true := by simp; omega
      have hi0 : (0 : Int) ≤ (i : Int) := by omega
      have hi1 : (i : Int) < (n : Int) := by omega
      obtain ⟨g, o, ai, ci, rfl, q1, q2, q3⟩ := (HR.out.ext HX.out).at_ (show i < n by omega)
      have hgr := World.block_lt_of_cell? wr _ q1
      have HF := Lib.hid (few_any ai _ ci (rss.getD i []) 100 (by omega) wr q2 q3)
      have HW := Lib.hid (show ∀ z ∈ (rss.getD i []).take 100, (Lit.int .u8 z).wf = true from fun z hz => q2.2.2.2.1 z (List.mem_of_mem_take hz))
      have HFS := Lib.hid (fewAll_succ 100 rss i (by rw [HNE.out]; omega))
      clear q2 q3
      generalize (rss.getD i []).length = rl at *
      generalize (rss.getD i []).take 100 = y at *
      go_wp2_with fail
      refine HF.out.mono ?_
      rintro r w2 ⟨v2, rfl, hO2, hX2⟩
      obtain ⟨v', w', p1, p2, p3⟩ := (HO.out.ext hX2).push ⟨hO2.low HX.out.size, HW.out⟩ (Nat.le_trans HX.out.size hX2.size) (by rw [fewAll_len _ _ _ (by rw [HNE.out]; omega)]; omega)
      have P1 := Lib.hid p1
      have P2 := Lib.hid p2
      have P3 := Lib.hid (p3 w (Nat.le_refl _) (HX.out.trans hX2))
      obtain ⟨a2, c2, rfl, _⟩ := hO2.row2 HW.out
      clear p1 p2 p3 hO2 hX2
      rw [← HFS.out] at P2
      go_wp2_with (at_builtin; refine wpList_append_run rfl (.tmp 26) (.tmp 32) _ rfl _ _ _ ?_ ?_ P1.out ?_)
      · rfl
      · rfl
      · go_roundw
        case rel => exact ⟨i + 1, by omega, by go_num, P2.out, P3.out⟩
        case measure => simp [intOf]; omega
    · obtain rfl : i = T := by omega
      have hall : (decide (i < n) = true ∧ decide ((i : Int) < 5) = false) ∨ decide (i < n) = false := by
        have := HT.out
        by_cases h5 : n ≤ i
        · right; simp; omega
        · left; exact ⟨by simp; omega, by simp; omega⟩
      obtain ⟨yss, hy⟩ : ∃ yss, yss = fewAll 100 rss i := ⟨_, rfl⟩
      have hyl : yss.length ≤ 5 := by rw [hy, fewAll_len _ _ _ (by rw [HNE.out]; exact hT1)]; omega
      rw [← hy] at HO
      clear hy
      obtain ⟨oa, oc, hov, hOR, hOP⟩ := HO.out.rows
      subst hov
      have HOR := Lib.hid hOR
      clear hOR hOP
      rcases hall with ⟨hd, hd2⟩ | hd
      all_goals
        go_upto_region 6 with (fail)
        go_cut [7] (fun s7 wx => s7 = .slice sa j sc ∧ wx = wr)
        case first =>
          rcases (show (j = sn ∧ sn ≤ 4) ∨ (j = 4 ∧ 4 < sn) by have := HJ.out; omega) with ⟨rfl, hle⟩ | ⟨rfl, hle⟩
          · cases sa with
            | none => (have hsc0 : sc ≤ 0 := by (have := HSA.out rfl; omega)); (go_wp2_with fail; go_meet; exact ⟨by rw [show sc = 0 by omega], rfl⟩)
            | some ad => (go_wp2_with fail; go_meet; exact ⟨rfl, rfl⟩)
          · cases sa with
            | none => (have := HSA.out rfl; omega)
            | some ad => (go_wp2_with fail; go_meet; exact ⟨rfl, rfl⟩)
        case rest =>
          obtain ⟨rfl, rfl⟩ := hcut
          go_wp2_with fail
          have HSj := Lib.hid (HS.out.head hj1)
          have HSl := Lib.hid (show (ss.take j).length = j by rw [List.length_take, HSE.out]; omega)
          generalize ss.take j = sj at *
          go_loopw [8, 9] (fun v8 v9 wq => ∃ k : Nat, k ≤ j ∧ v9 = .int .i64 k ∧ Owns wq wc.heap.size 3 v8 (iv (arAll 13 sj k)) ∧ Ext wc wq) (fun _ v9 _ => j - (intOf v9).toNat)
          case atStart => exact ⟨0, by omega, rfl, Owns.nil _ _ _, Ext.refl _⟩
          case round =>
            obtain ⟨k, hk, rfl, hO8, hX8⟩ := hrel
            have HO8 := Lib.hid hO8
            have HX8 := Lib.hid hX8
            clear hO8 hX8
            by_cases hkj : k < j
            · have hdk : decide (k < j) = true := by simpa using hkj
              have hk0 : (0 : Int) ≤ (k : Int) := by omega
              have hk1 : (k : Int) < (j : Int) := by omega
              obtain ⟨g, o, rfl, qs⟩ := (HSj.out.ext (HX.out.trans HX8.out)).at_ hkj
              have hgr := World.block_lt_of_cell? _ _ qs
              have HAS := Lib.hid (arAll_succ 13 sj k (by rw [HSl.out]; exact hkj))
              have hzw := wf_i64 (HSj.out.2.2.2.1 (sj.getD k 0) (by simp [List.getD, HSl.out, hkj]))
              generalize sj.getD k 0 = z at *
              obtain ⟨v', w', p1, p2, _, p4⟩ := more HO8.out (arnd z 13) (by rw [iv_len, arAll_len _ _ _ (by rw [HSl.out]; exact hk)]; omega) HX8.out.size
              have P1 := Lib.hid p1
              have P2 := Lib.hid (show Owns w' wc.heap.size 3 v' (iv (arAll 13 sj (k + 1))) by rw [HAS.out]; simpa [iv] using p2)
              have P4 := Lib.hid (p4 _ (Nat.le_refl _) HX8.out)
              clear p1 p2 p4
              go_wp2_with fail
              refine (around_any z 13 _ (by omega) hzw.1 hzw.2).mono ?_
              rintro r wb ⟨rfl, rfl⟩
              go_wp2_with (at_builtin; refine wpList_append_run rfl (.tmp 45) (.tmp 51) _ rfl _ _ _ ?_ ?_ P1.out ?_)
              · rfl
              · rfl
              · go_roundw
                case rel => exact ⟨k + 1, by omega, by go_num, P2.out, P4.out⟩
                case measure => simp [intOf]; omega
            · have hdk : decide (k < j) = false := by simpa using hkj
              obtain ⟨sb, sbc, hsv, hSB⟩ := HO8.out.rowI (fun z hz => by
                unfold arAll at hz
                obtain ⟨y, _, rfl⟩ := List.mem_map.1 hz
                exact arnd_wf y 13 (by omega) (by omega))
              generalize arAll 13 sj k = sm at *
              subst hsv
              have HSB := Lib.hid hSB
              clear hSB
              go_wp2_with fail
              obtain ⟨W, hW⟩ : ∃ W, W = wr.alloc (.cells #[.slice sa j sc, .slice sb sm.length sbc, .slice none 0 0] 23) := ⟨_, rfl⟩
              have hXW : Ext wr W := by rw [hW]; exact (Ext.refl wr).alloc _
              have hgW : wr.heap.size < W.heap.size := by rw [hW]; simp
              have H3 := Lib.hid (show ∀ t, t < 3 → ∃ ta tn tc ts, W.cell? ⟨wr.heap.size, t, none⟩ = some (.slice ta tn tc) ∧ IsRow .i64 W ta tn tc ts from fun t ht => by
                match t, ht with
                | 0, _ => exact ⟨sa, j, sc, sj, by rw [hW]; (simp only [World.cell?, heap_alloc_new]; rfl), HSj.out.ext (HX.out.trans (HX8.out.trans hXW))⟩
                | 1, _ => exact ⟨sb, sm.length, sbc, sm, by rw [hW]; (simp only [World.cell?, heap_alloc_new]; rfl), HSB.out.ext hXW⟩
                | 2, _ => exact ⟨none, 0, 0, [], by rw [hW]; (simp only [World.cell?, heap_alloc_new]; rfl), rfl, by omega, by unfold maxLen; omega, by simp, .inl rfl⟩)
              have HXW := Lib.hid (HX8.out.trans hXW)
              rw [← hW]
              clear hW hXW
              obtain ⟨wo, rfl⟩ : ∃ wo : World, wo = wr := ⟨_, rfl⟩
              go_loopw [11] (fun v11 wq => ∃ t : Nat, t ≤ 3 ∧ v11 = .int .i64 t ∧ Ext W wq) (fun v11 _ => 3 - (intOf v11).toNat)
              case atStart => exact ⟨0, by omega, rfl, Ext.refl _⟩
              case round =>
                obtain ⟨t, ht, rfl, hXt⟩ := hrel
                have HXt := Lib.hid hXt
                clear hXt
                by_cases ht3 : t < 3
                · have hdt : decide ((t : Int) < 3) = true := by simp; omega
                  have ht0 : (0 : Int) ≤ (t : Int) := by omega
                  have ht1 : (t : Int) < 3 := by omega
                  obtain ⟨ta, tn, tc, ts, q1, q2⟩ := H3.out t ht3
                  have q1' := HXt.out.cell q1
                  have hgt : wo.heap.size < wr.heap.size := Nat.lt_of_lt_of_le hgW HXt.out.size
                  have HA1 := Lib.hid (all_any ta tn tc ts oa yss.length oc yss hyl wr (q2.ext HXt.out) (HOR.out.ext (HXW.out.trans HXt.out)))
                  have HA2 := Lib.hid (fun V (hV : Ext wr V) => refAll_any ta tn tc ts oa yss.length oc yss hyl V (q2.ext (HXt.out.trans hV)) (HOR.out.ext (HXW.out.trans (HXt.out.trans hV))))
                  generalize goAll ts yss 0 [] = G at *
                  obtain ⟨gb, ge⟩ := G
                  clear q1 q2
                  go_wp2_with fail
                  refine HA1.out.mono ?_
                  rintro r w2 ⟨v2, rfl, hO2, hX2⟩
                  have q2 := hX2.cell q1'
                  have hg2 : wo.heap.size < w2.heap.size := Nat.lt_of_lt_of_le hgt hX2.size
                  have HO2 := Lib.hid hO2
                  have HX2 := Lib.hid hX2
                  clear hO2 hX2
                  go_wp2_with fail
                  refine (HA2.out _ HX2.out).mono ?_
                  rintro r w3 ⟨v3, rfl, hO3, hX3⟩
                  have s2 := (HO2.out.ext hX3).str
                  have s3 := hO3.str
                  have HX3 := Lib.hid (HXt.out.trans (HX2.out.trans hX3))
                  clear hO3 hX3
                  go_wp2_with fail
                  go_roundw
                  case rel => exact ⟨t + 1, by omega, by go_num, HX3.out⟩
                  case measure => simp [intOf]; omega
                · have hdt : decide ((t : Int) < 3) = false := by simp; omega
                  go_wp2_with fail
                  refine (lives_any _).mono ?_
                  rintro r w7 ⟨rfl, hx7⟩
                  go_wp2_with fail
                  go_ret
                  exact ⟨rfl, HX.out.trans (HXW.out.trans (HXt.out.trans hx7))⟩
end Go.Proofs.Ytggojigbflbloaa
