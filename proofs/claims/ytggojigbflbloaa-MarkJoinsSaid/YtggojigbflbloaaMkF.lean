/- The walk of the law MarkJoins. -/
import Derived.Test.YtggojigbflbloaaMkE
namespace Go.Proofs.Ytggojigbflbloaa
open Go.ChangeShapes Go.WideShapes Go.ChangeAt Go.RowKit

def catAll (ss : List Int) (yss : List (List Int)) (k : Nat) : List Int := (List.range k).flatMap fun i => (ans (yss.getD i []) (sizeAt ss i)).1
theorem catAll_succ (ss : List Int) (yss : List (List Int)) (k : Nat) : catAll ss yss (k + 1) = catAll ss yss k ++ (ans (yss.getD k []) (sizeAt ss k)).1 := by simp [catAll, List.range_succ]
theorem catAll_len (ss : List Int) (yss : List (List Int)) (k : Nat) : (catAll ss yss k).length ≤ k * 262400 := by
  induction k with
  | zero => simp [catAll]
  | succ k ih =>
    rw [catAll_succ, List.length_append]
    have := ans_len (yss.getD k []) (sizeAt ss k)
    omega
theorem ans_good {y : List Int} (hy : y.length ≤ 40) {s : Int} (h1 : 1 ≤ s) : (ans y s).2 = 0 := by
  unfold ans
  have hc : cnt y.length s.toNat ≤ 64 := by
    unfold cnt
    split
    · omega
    · refine Nat.div_le_of_le_mul ?_
      have : 1 * 64 ≤ s.toNat * 64 := Nat.mul_le_mul_right _ (by omega)
      omega
  rw [if_neg (by omega), if_neg (by omega), if_neg (by omega)]
theorem sizeAt_good {ss : List Int} (h : ∀ z ∈ ss, 1 ≤ z ∧ z ≤ 20) (i : Nat) : 1 ≤ sizeAt ss i := by
  unfold sizeAt
  split
  · omega
  · next h0 =>
    have hl := Nat.mod_lt i (show 0 < ss.length by omega)
    simp only [List.getD_eq_getElem?_getD, List.getElem?_eq_getElem hl, Option.getD_some]
    exact (h _ (List.getElem_mem hl)).1
theorem goAll_good {ss : List Int} {yss : List (List Int)} (hs : ∀ z ∈ ss, 1 ≤ z ∧ z ≤ 20) (hy : ∀ y ∈ yss, y.length ≤ 40) : ∀ (m i : Nat), i + m = yss.length → goAll ss (yss.drop i) i (catAll ss yss i) = (catAll ss yss yss.length, 0) := by
  intro m
  induction m with
  | zero =>
    intro i hi
    rw [goAll_end (by omega), show i = yss.length by omega]
  | succ m ih =>
    intro i hi
    have hlt : i < yss.length := by omega
    have h0 : (ans (yss.getD i []) (sizeAt ss i)).2 = 0 := ans_good (by
      simp only [List.getD_eq_getElem?_getD, List.getElem?_eq_getElem hlt, Option.getD_some]
      exact hy _ (List.getElem_mem hlt)) (sizeAt_good hs i)
    rw [goAll_more hlt _ h0, ← catAll_succ]
    exact ih (i + 1) (by omega)
theorem str_app (a b : List Int) : strOfNums a ++ strOfNums b = strOfNums (a ++ b) := by
  unfold strOfNums
  apply ByteArray.ext
  simp
theorem str_size (a : List Int) : (strOfNums a).size = a.length := by simp [strOfNums, ByteArray.size]

set_option maxRecDepth 100000 in
set_option maxHeartbeats 4000000 in
theorem markJoins_walk (w : World) (a : Option Addr) (n cap : Nat) (rss : List (List Int)) (h : IsRows (fun a c => a = none → c = 0) w a n cap rss) (ha : a = none → cap = 0) (sa : Option Addr) (sn sc : Nat) (ss : List Int) (hs : IsRow .i64 w sa sn sc ss) (_hsa : sa = none → sc = 0) :
    Calls Try.prog 7 #[.slice a n cap, .slice sa sn sc] w fun r w' => r = .returned (.bool true) ∧ Ext w w' := by
  have hcm := h.2.2.1
  have hlc := h.2.1
  unfold maxLen at hcm
  obtain ⟨j, hj⟩ : ∃ j, j = min n 4 := ⟨_, rfl⟩
  have hj1 : j ≤ n := by omega
  have hj2 : j ≤ 4 := by omega
  have HJ := Lib.hid hj
  have HA := Lib.hid ha
  have HGd := Lib.hid (good_any a j cap (rss.take j) sa sn sc ss w (h.head hj1) hs)
  clear h hs hj ha
  go_enter Try.func7, Try.ntmps7
  go_upto_region 1 with (fail)
  go_cut [5, 6] (fun s5 s6 wx => GoodRel w wx s5 s6)
  case first =>
    rcases (show (j = n ∧ n ≤ 4) ∨ (j = 4 ∧ 4 < n) by have := HJ.out; omega) with ⟨rfl, hle⟩ | ⟨rfl, hle⟩
    · cases a with
      | none =>
        have hc0 : cap ≤ 0 := by (have := HA.out rfl; omega)
        obtain rfl : cap = 0 := by omega
        obtain rfl : j = 0 := by omega
        go_wp2_with fail
        with_reducible refine HGd.out.mono ?_
        rintro r w2 ⟨v1, v2, rfl, hG⟩
        go_wp2_with fail
        go_meet
        exact hG
      | some ad =>
        go_wp2_with fail
        with_reducible refine HGd.out.mono ?_
        rintro r w2 ⟨v1, v2, rfl, hG⟩
        go_wp2_with fail
        go_meet
        exact hG
    · cases a with
      | none => (have := HA.out rfl; omega)
      | some ad =>
        go_wp2_with fail
        with_reducible refine HGd.out.mono ?_
        rintro r w2 ⟨v1, v2, rfl, hG⟩
        go_wp2_with fail
        go_meet
        exact hG
  case rest =>
    obtain ⟨yss, gs, hO5, hyl, hy40, hO6, hg, hX⟩ := hcut
    obtain ⟨oa, oc, hov, hOR, _⟩ := hO5.rows
    obtain ⟨ga, gc, hgv, hGR⟩ := hO6.rowI (fun z hz => by
      have := hg z hz
      simp [Lit.wf, IntKind.min, IntKind.max, IntKind.signed, IntKind.bits]
      omega)
    subst hov hgv
    have hocm := hOR.2.2.1
    have holc := hOR.2.1
    unfold maxLen at hocm
    have HX := Lib.hid hX
    have HOR := Lib.hid hOR
    have HGR := Lib.hid hGR
    have HG := Lib.hid (show goAll gs yss 0 [] = (catAll gs yss yss.length, 0) from goAll_good hg hy40 yss.length 0 (by omega))
    have HOK := Lib.hid (show ∀ i, i < yss.length → (ans (yss.getD i []) (sizeAt gs i)).2 = 0 from fun i hi => ans_good (by
      simp only [List.getD_eq_getElem?_getD, List.getElem?_eq_getElem hi, Option.getD_some]
      exact hy40 _ (List.getElem_mem hi)) (sizeAt_good hg i))
    have HAll := Lib.hid (all_any ga gs.length gc gs oa yss.length oc yss hyl wc HGR.out HOR.out)
    rw [HG.out] at HAll
    clear hX hOR hGR hO5 hO6 hg hy40
    go_wp2_with fail
    refine HAll.out.mono ?_
    rintro r w2 ⟨v2, rfl, hO2, hX2⟩
    have HO2 := Lib.hid hO2
    have HX2 := Lib.hid hX2
    clear hO2 hX2
    go_wp2_with fail
    go_loopw [9, 10] (fun v9 v10 wr => ∃ i : Nat, i ≤ yss.length ∧ v10 = .int .i64 i ∧ v9 = .string (strOfNums (catAll gs yss i)) ∧ Ext w2 wr) (fun _ v10 _ => yss.length - (intOf v10).toNat)
    case atStart => exact ⟨0, by omega, rfl, rfl, Ext.refl _⟩
    case round =>
      obtain ⟨i, hi, rfl, rfl, hXr⟩ := hrel
      have HXr := Lib.hid hXr
      clear hXr
      by_cases hlt : i < yss.length
      · have hd : decide (i < yss.length) = true := by simpa using hlt
        have hi0 : (0 : Int) ≤ (i : Int) := by omega
        have hi1 : (i : Int) < (yss.length : Int) := by omega
        obtain ⟨g, o, ai, ci, rfl, q1, q2, q3⟩ := (HOR.out.ext (HX2.out.trans HXr.out)).at_ hlt
        have hgr := World.block_lt_of_cell? wr _ q1
        have HSz := Lib.hid (fun W (hW : Ext wr W) => size_any ga gs.length gc gs i (by omega) W (HGR.out.ext (HX2.out.trans (HXr.out.trans hW))))
        have HM := Lib.hid (fun W (hW : Ext wr W) => mark_any ai _ ci (yss.getD i []) (sizeAt gs i) W (q2.ext hW) q3 (sizeAt_le HGR.out.2.2.2.1 i))
        have HCS := Lib.hid (catAll_succ gs yss i)
        have HAL := Lib.hid (ans_len (yss.getD i []) (sizeAt gs i))
        have HCL := Lib.hid (catAll_len gs yss i)
        have h0 := HOK.out i hlt
        generalize hA : ans (yss.getD i []) (sizeAt gs i) = A at *
        obtain ⟨ab, ae⟩ := A
        simp only at h0
        subst h0
        clear hA q2
        simp only at HM HCS HAL
        generalize (yss.getD i []).length = ylen at *
        generalize yss.getD i [] = y at *
        generalize sizeAt gs i = z at *
        have hs1 : (strOfNums (catAll gs yss i)).size ≤ 1400000 := by rw [str_size]; have := HCL.out; omega
        have hs2 : (strOfNums ab).size ≤ 1400000 := by rw [str_size]; have := HAL.out; omega
        have HSA := Lib.hid (str_app (catAll gs yss i) ab)
        generalize catAll gs yss i = ca at *
        go_wp2_with fail
        go_region_with (first | (go_at_call 20; refine (HSz.out _ (drew_ext wr)).mono ?_; rintro r w1 ⟨rfl, rfl⟩) | (go_at_call 15; refine (HM.out _ (drew_ext wr)).mono ?_; rintro r w3 ⟨v3, rfl, hO3, hX3⟩))
        all_goals
          have s3 := hO3.str
          have X3 := Lib.hid (HXr.out.trans ((drew_ext wr).trans hX3))
          clear hO3 hX3
          go_wp2_with fail
          go_roundw
          case rel => exact ⟨i + 1, by omega, by go_num, by rw [HCS.out, HSA.out], X3.out⟩
          case measure => simp [intOf]; omega
      · have hd : decide (i < yss.length) = false := by simpa using hlt
        obtain rfl : i = yss.length := by omega
        have s2 := (HO2.out.ext HXr.out).str
        go_wp2_with fail
        refine (lives_any _).mono ?_
        rintro r w7 ⟨rfl, hx7⟩
        go_wp2_with fail
        go_ret
        exact ⟨rfl, HX.out.trans (HX2.out.trans (HXr.out.trans hx7))⟩
end Go.Proofs.Ytggojigbflbloaa
