/- The walk of the law MarkHas. -/
import Derived.Test.YtggojigbflbloaaXr
import Derived.Test.YtggojigbflbloaaMk8
namespace Go.Proofs.Ytggojigbflbloaa
open Go.ChangeShapes Go.WideShapes Go.ChangeAt Go.RowKit

/-- What is left of a record's fragments, from the i'th on. -/
def left (zs : List Int) (s i : Nat) : List Int := (List.range' i (cnt zs.length s - i)).flatMap (part zs s)
theorem left_zero (zs : List Int) (s : Nat) : left zs s 0 = fr zs s (cnt zs.length s) := by simp [left, fr, List.range_eq_range']
theorem left_step (zs : List Int) (s i : Nat) (hi : i < cnt zs.length s) : left zs s i = be4 (hdr zs.length s i) ++ ((zs.drop (i * s)).take (szAt zs.length s i)) ++ left zs s (i + 1) := by
  unfold left
  obtain ⟨m, hm⟩ : ∃ m, cnt zs.length s - i = m + 1 := ⟨cnt zs.length s - i - 1, by omega⟩
  rw [hm, show cnt zs.length s - (i + 1) = m by omega, List.range'_succ, List.flatMap_cons]
  rfl
theorem left_end (zs : List Int) (s i : Nat) (hi : cnt zs.length s ≤ i) : left zs s i = [] := by
  unfold left
  rw [show cnt zs.length s - i = 0 by omega]
  rfl
theorem left_wf {zs : List Int} (hz : ∀ z ∈ zs, (Lit.int .u8 z).wf = true) (hn : zs.length ≤ 4096) (s i : Nat) : ∀ z ∈ left zs s i, (Lit.int .u8 z).wf = true := by
  intro z hm
  simp only [left, List.mem_flatMap, part, List.mem_append] at hm
  obtain ⟨i, _, h | h⟩ := hm
  · have hb := hdr_bd zs.length s i hn
    exact be4_wf _ hb.1 hb.2 z h
  · exact hz z (List.mem_of_mem_drop (List.mem_of_mem_take h))
theorem val_be4 (n : Int) (h0 : 0 ≤ n) (h1 : n < 4294967296) : val (be4 n) = n := by
  simp only [val, be4, List.foldl_cons, List.foldl_nil]
  omega
theorem flat_len (zs : List Int) (hn : zs.length ≤ 4096) (s : Nat) : ∀ l : List Nat, (l.flatMap (part zs s)).length ≤ l.length * 4100
  | [] => by simp
  | i :: l => by
    have ih := flat_len zs hn s l
    rw [List.flatMap_cons, List.length_append]
    simp only [part, be4, List.length_append, List.length_cons, List.length_nil, List.length_take, List.length_drop]
    omega
theorem left_len (zs : List Int) (hn : zs.length ≤ 4096) (s i : Nat) (hc : cnt zs.length s ≤ 64) : (left zs s i).length ≤ 262400 := by
  have := flat_len zs hn s (List.range' i (cnt zs.length s - i))
  rw [List.length_range'] at this
  unfold left
  omega
def slLen : Value → Nat
  | .slice _ n _ => n
  | _ => 0
theorem szAt_len (zs : List Int) (s i : Nat) : ((zs.drop (i * s)).take (szAt zs.length s i)).length = szAt zs.length s i := by
  rw [List.length_take, List.length_drop]
  unfold szAt
  omega
/-- How the i'th fragment's head, size and rest stand in what is left. -/
theorem left_facts (zs : List Int) (s i : Nat) (hi : i < cnt zs.length s) : (left zs s i).take 4 = be4 (hdr zs.length s i) ∧ ((left zs s i).drop 4).take (szAt zs.length s i) = (zs.drop (i * s)).take (szAt zs.length s i) ∧
    (left zs s i).drop (4 + szAt zs.length s i) = left zs s (i + 1) ∧ 4 + szAt zs.length s i ≤ (left zs s i).length := by
  have hl := szAt_len zs s i
  rw [left_step zs s i hi]
  generalize (zs.drop (i * s)).take (szAt zs.length s i) = m at *
  generalize hdr zs.length s i = h at *
  refine ⟨by simp [be4], ?_, ?_, ?_⟩
  · have e : (be4 h ++ m ++ left zs s (i + 1)).drop 4 = m ++ left zs s (i + 1) := by simp [be4]
    rw [e, ← hl, List.take_left]
  · rw [← List.drop_drop]
    have e : (be4 h ++ m ++ left zs s (i + 1)).drop 4 = m ++ left zs s (i + 1) := by simp [be4]
    rw [e, ← hl, List.drop_left]
  · simp [be4]; omega
theorem take_more (zs : List Int) (s i : Nat) : zs.take (i * s) ++ (zs.drop (i * s)).take (szAt zs.length s i) = zs.take ((i + 1) * s) := by
  rw [← List.take_add]
  by_cases h : i * s + s ≤ zs.length
  · congr 1; unfold szAt; rw [Nat.add_mul]; omega
  · rw [List.take_of_length_le (by unfold szAt; omega), List.take_of_length_le (by rw [Nat.add_mul]; omega)]

set_option maxRecDepth 100000 in
set_option maxHeartbeats 4000000 in
theorem markHas_walk (w : World) (a : Option Addr) (n cap : Nat) (zs : List Int) (h : IsRow .u8 w a n cap zs) (ha : a = none → cap = 0) (size : Int) (w1 : (Lit.int .i64 size).wf = true) :
    Calls Try.prog 8 #[.slice a n cap, .int .i64 size] w fun r w' => r = .returned (.bool true) ∧ Ext w w' := by
  have hz : ∀ z ∈ zs.take 60, (Lit.int .u8 z).wf = true := fun z hz => h.2.2.2.1 z (List.mem_of_mem_take hz)
  have hyl : (zs.take 60).length ≤ 60 := by rw [List.length_take]; omega
  have HF := Lib.hid (few_any a n cap zs 60 (by omega) w h ha)
  generalize zs.take 60 = ys at *
  have HZ := Lib.hid hz
  obtain ⟨s0, hs0, hb⟩ := around_nat size 20 (by omega) w1
  have HB := Lib.hid hb
  clear h ha hz hb w1
  go_enter Try.func8, Try.ntmps8
  go_wp2_with fail
  refine HF.out.mono ?_
  rintro r wf ⟨v, rfl, hO, hX⟩
  obtain ⟨oa, oc, rfl, hR, hP⟩ := hO.row2 HZ.out
  have HO := Lib.hid hO
  have HX := Lib.hid hX
  obtain ⟨s, hsE⟩ : ∃ s : Nat, s = 1 + s0 := ⟨_, rfl⟩
  have hs1 : 1 ≤ s := by omega
  have hs20 : s ≤ 20 := by omega
  have hc64 : cnt ys.length s ≤ 64 := by
    unfold cnt
    split
    · omega
    · refine Nat.div_le_of_le_mul ?_
      have : 1 * 64 ≤ s * 64 := Nat.mul_le_mul_right _ hs1
      omega
  have HM := Lib.hid (mark_ok oa ys.length oc ys s hs1 (by omega) (by omega) hc64 wf hR hP)
  have HSE := Lib.hid (show (1 : Int) + (s0 : Int) = (s : Int) by omega)
  clear hO hX hR hP hsE
  go_wp2_with fail
  refine (HB.out _).mono ?_
  rintro r wb ⟨rfl, rfl⟩
  go_wp2_with fail
  rw [HSE.out]
  with_reducible refine HM.out.mono ?_
  rintro r ws ⟨v, rfl, hO2, hX2⟩
  rw [← left_zero] at hO2
  obtain ⟨ba, bc, rfl, hBR, hBP⟩ := hO2.row2 (left_wf HZ.out (by omega) s 0)
  have HX2 := Lib.hid hX2
  have HBR := Lib.hid hBR
  have HBP := Lib.hid hBP
  have hcp := cnt_pos ys.length s hs1
  clear hO2 hX2 hBR hBP
  go_wp2_with fail
  go_loopw [7, 9, 10] (fun v7 v9 v10 wr => ∃ (i cap' : Nat) (a' : Option Addr), i ≤ cnt ys.length s ∧ v7 = .slice a' (left ys s i).length cap' ∧ IsRow .u8 ws a' (left ys s i).length cap' (left ys s i) ∧ Plain a' cap' ∧ v10 = .bool (decide (i = cnt ys.length s)) ∧ Owns wr ws.heap.size 5 v9 (bv (ys.take (i * s))) ∧ Ext ws wr) (fun v7 _ _ _ => slLen v7)
  case atStart =>
    refine ⟨0, bc, ba, by omega, rfl, HBR.out, HBP.out, ?_, by simpa [bv] using Owns.nil _ _ _, Ext.refl ws⟩
    rw [show decide (0 = cnt ys.length s) = false by simp; omega]
  case round =>
    obtain ⟨i, cap', a', hi, rfl, hR, hP, rfl, hO9, hXr⟩ := hrel
    have HO9 := Lib.hid hO9
    have HXr := Lib.hid hXr
    have hcm := hR.2.2.1
    have hlc := hR.2.1
    unfold maxLen at hcm
    have HR := Lib.hid hR
    have HP := Lib.hid hP
    clear hO9 hXr hR hP
    by_cases hlt : i < cnt ys.length s
    · have hdn : decide (i = cnt ys.length s) = false := by simp; omega
      rw [hdn]
      obtain ⟨f1, f2, f3, f4⟩ := left_facts ys s i hlt
      have hhb := hdr_bd ys.length s i (by omega)
      have HV := Lib.hid (show val ((left ys s i).take 4) = hdr ys.length s i by rw [f1]; exact val_be4 _ hhb.1 hhb.2)
      have HRd := Lib.hid (read_any a' _ cap' (left ys s i) (by have := left_len ys (by omega) s i hc64; omega) wr (HR.out.ext HXr.out) (fun e => by rcases HP.out with ⟨_, h⟩ | ⟨g, o, h⟩; exact h; rw [h] at e; cases e))
      have HU := Lib.hid (fun g W (hW : RdW W g 0 (left ys s i)) => by
        have := u32r_ok g (left ys s i) (by omega) W hW
        rw [HV.out] at this
        exact this)
      have HTM := Lib.hid (take_more ys s i)
      have hks : szAt ys.length s i ≤ s := by unfold szAt; omega
      have hkl := szAt_len ys s i
      have HHD := Lib.hid (show hdr ys.length s i = szAt ys.length s i + (if i + 1 = cnt ys.length s then 2147483648 else 0) from rfl)
      have HNL := Lib.hid (show i + 1 < cnt ys.length s → szAt ys.length s i = s from fun h => by
        have := (cnt_iff ys.length s (i + 1) hs1).1 h
        unfold szAt
        rw [Nat.add_mul] at this
        omega)
      have HL3 := Lib.hid (congrArg List.length f3)
      have HF2 := Lib.hid f2
      have HF3 := Lib.hid f3
      obtain ⟨g0, o0, rfl⟩ : ∃ g o, a' = some ⟨g, o, none⟩ := by
        rcases HP.out with ⟨_, h⟩ | h
        · omega
        · exact h
      rw [← HF2.out] at HTM
      clear f1 f2 f3 hkl HV hhb
      rw [List.length_drop] at HL3
      generalize szAt ys.length s i = k at *
      generalize hdr ys.length s i = hv at *
      have HL := Lib.hid (show left ys s i = left ys s i from rfl)
      generalize hLe : (left ys s i).length = ln at *
      have HLe := Lib.hid hLe
      clear hLe HL
      go_wp2_with fail
      refine HRd.out.mono ?_
      rintro r w2 ⟨g, rfl, hRd, hgge, hX2⟩
      have HG := Lib.hid (HU.out g w2 hRd)
      have HX2 := Lib.hid hX2
      clear hRd hX2
      go_wp2_with fail
      refine HG.out.mono ?_
      rintro r w3 ⟨rfl, _, hu3⟩
      have hx3 : Ext wr w3 := hu3.ext HX2.out (fun b hb => by simp at hb; omega)
      have HX3 := Lib.hid (HXr.out.trans hx3)
      have HO3 := Lib.hid (HO9.out.ext hx3)
      have hPl : ∃ A, (A = if cap' = 4 then some (⟨g0, o0, none⟩ : Addr) else some ⟨g0, o0 + 4, none⟩) ∧ IsRow .u8 ws A k (cap' - 4) (((left ys s i).drop 4).take k) := by
        refine ⟨_, rfl, ?_⟩
        have := (HR.out.cut (j := 4) (by omega) (if cap' = 4 then some (⟨g0, o0, none⟩ : Addr) else some ⟨g0, o0 + 4, none⟩) (fun h => by rw [if_neg (by omega)])).head (j := k) (by omega)
        exact this
      obtain ⟨A, hA, hAR⟩ := hPl
      obtain ⟨v', w', p1, p2, p3⟩ := app_row HO3.out (c := cap' - 4) (hAR.ext HX3.out) (fun e => by rw [hA] at e; split at e <;> cases e) (by rw [bv_len, List.length_take]; omega) (by have := HX3.out.size; omega) 28
      rw [← bv_app, HTM.out] at p2
      have P1 := Lib.hid p1
      have P2 := Lib.hid p2
      have P3 := Lib.hid (grown_ext p3 HX3.out (fun g hg => (HO3.out.lt hg).1))
      have HR2 := Lib.hid (HR.out.cut (j := 4 + k) f4 (if cap' = 4 + k then some (⟨g0, o0, none⟩ : Addr) else some ⟨g0, o0 + (4 + k), none⟩) (fun h => by rw [if_neg (by omega)]))
      rw [HF3.out] at HR2
      clear hu3 hx3 hAR p1 p2 p3
      subst hA
      have hd3 : decide (3 < (ln : Int)) = true := by simp; omega
      have hds : decide (s < k) = false := by simp; omega
      have hdl : decide ((ln : Int) < 4 + (k : Int)) = false := by simp; omega
      by_cases hlast : i + 1 = cnt ys.length s
      · have hE := HHD.out
        rw [if_pos hlast] at hE
        have hmod : hv % 2147483648 = (k : Int) := by omega
        have hge : decide (2147483648 ≤ hv) = true := by simp; omega
        have hv0 : 0 ≤ hv := by omega
        clear hE
        have hdn2 : decide (i + 1 = cnt ys.length s) = true := by simp [hlast]
        by_cases hc4 : cap' = 4
        · have hk0 : k = 0 := by omega
          rw [if_pos hc4] at P1
          have hcl : cap' ≤ 4 := by omega
          have hck : cap' = 4 + k := by omega
          rw [if_pos hck] at HR2
          have hcz : cap' - 4 = 0 := by omega
          rw [hcz] at P1
          have HK0 := Lib.hid hk0
          have HCK := Lib.hid hck
          subst hk0
          subst hc4
          clear hck hcz
          go_wp2_with (at_builtin; refine wpList_append_run rfl (.tmp 63) (.tmp 67) _ rfl _ _ _ ?_ ?_ P1.out ?_)
          · rfl
          · go_simp <;> omega
          · go_roundw
            case rel => exact ⟨i + 1, 0, some ⟨g0, o0, none⟩, by omega, by rw [← HL3.out, show ln - (4 + 0) = 0 by omega], by rw [← HL3.out]; simpa using HR2.out, .inr ⟨_, _, rfl⟩, by rw [hdn2], P2.out, P3.out⟩
            case measure => show 0 < ln; omega
        · rw [if_neg hc4] at P1
          by_cases hck : cap' = 4 + k
          · rw [if_pos hck] at HR2
            subst hck
            go_wp2_with (at_builtin; refine wpList_append_run rfl (.tmp 63) (.tmp 67) _ rfl _ _ _ ?_ ?_ P1.out ?_)
            · rfl
            · go_simp <;> omega
            · go_roundw
              case rel => exact ⟨i + 1, _, _, by omega, by rw [← HL3.out], by rw [← HL3.out]; exact HR2.out, .inr ⟨_, _, rfl⟩, by rw [hdn2], P2.out, P3.out⟩
              case measure => show ln - (4 + k) < ln; omega
          · rw [if_neg hck] at HR2
            go_wp2_with (at_builtin; refine wpList_append_run rfl (.tmp 63) (.tmp 67) _ rfl _ _ _ ?_ ?_ P1.out ?_)
            · rfl
            · go_simp <;> omega
            · go_roundw
              case rel => exact ⟨i + 1, _, _, by omega, by rw [← HL3.out], by rw [← HL3.out]; exact HR2.out, .inr ⟨_, _, rfl⟩, by rw [hdn2], P2.out, P3.out⟩
              case measure => show ln - (4 + k) < ln; omega
      · have hE := HHD.out
        rw [if_neg hlast, Int.add_zero] at hE
        have hmod : hv % 2147483648 = (k : Int) := by omega
        have hge : decide (2147483648 ≤ hv) = false := by simp; omega
        have hv0 : 0 ≤ hv := by omega
        have hdn2 : decide (i + 1 = cnt ys.length s) = false := by simp [hlast]
        have hks2 : ((k : Int) != (s : Int)) = false := by have := HNL.out (by omega); simp [this]
        have hks3 : (k != s) = false := by have := HNL.out (by omega); simp [this]
        clear hE
        by_cases hc4 : cap' = 4
        · have := HNL.out (by omega)
          omega
        · rw [if_neg hc4] at P1
          by_cases hck : cap' = 4 + k
          · rw [if_pos hck] at HR2
            subst hck
            go_wp2_with (at_builtin; refine wpList_append_run rfl (.tmp 63) (.tmp 67) _ rfl _ _ _ ?_ ?_ P1.out ?_)
            · rfl
            · go_simp <;> omega
            · go_roundw
              case rel => exact ⟨i + 1, _, _, by omega, by rw [← HL3.out], by rw [← HL3.out]; exact HR2.out, .inr ⟨_, _, rfl⟩, by rw [hdn2], P2.out, P3.out⟩
              case measure => show ln - (4 + k) < ln; omega
          · rw [if_neg hck] at HR2
            go_wp2_with (at_builtin; refine wpList_append_run rfl (.tmp 63) (.tmp 67) _ rfl _ _ _ ?_ ?_ P1.out ?_)
            · rfl
            · go_simp <;> omega
            · go_roundw
              case rel => exact ⟨i + 1, _, _, by omega, by rw [← HL3.out], by rw [← HL3.out]; exact HR2.out, .inr ⟨_, _, rfl⟩, by rw [hdn2], P2.out, P3.out⟩
              case measure => show ln - (4 + k) < ln; omega
    · obtain rfl : i = cnt ys.length s := by omega
      have hdn : decide (cnt ys.length s = cnt ys.length s) = true := by simp
      rw [hdn]
      have HL := Lib.hid (show (left ys s (cnt ys.length s)).length = 0 by rw [left_end _ _ _ (Nat.le_refl _)]; rfl)
      rw [HL.out]
      have hE : ys.take (cnt ys.length s * s) = ys := List.take_of_length_le (by have := sum_all ys.length s hs1; omega)
      have s9 := HO9.out.str
      rw [hE] at s9
      have s5 := (HO.out.ext (HX2.out.trans HXr.out)).str
      clear hE hdn
      go_wp2_with fail
      refine (lives_any _).mono ?_
      rintro r w7 ⟨rfl, hx7⟩
      go_wp2_with fail
      go_ret
      exact ⟨rfl, HX.out.trans (HX2.out.trans (HXr.out.trans hx7))⟩
end Go.Proofs.Ytggojigbflbloaa
