/- The document's Mark, Size, All, Good, and Few. -/
import Derived.Test.YtpgbocdcjlcelaaDe1
namespace Go.Proofs.Ytpgbocdcjlcelaa
open Go.ChangeShapes Go.WideShapes Go.ChangeAt Go.RowKit
theorem refMark_any (a : Option Addr) (n cap : Nat) (zs : List Int) (size : Int) (w : World) (h : IsRow .u8 w a n cap zs) (ha : Plain a cap) (hs : size ≤ 9223372036854775807) :
    Calls Try.prog 21 #[.slice a n cap, .int .i64 size] w fun r w' => ∃ v, r = .returned (.tuple #[v, .int .i64 (ans zs size).2]) ∧ Owns w' w.heap.size 5 v (bv (ans zs size).1) ∧ Ext w w' := by
  have hl := h.1
  have hcm := h.2.2.1
  have hlc := h.2.1
  unfold maxLen at hcm
  by_cases h1 : size < 1
  · have e : ans zs size = ([], 1) := by unfold ans; rw [if_pos h1]
    have HE := Lib.hid e
    have hd : decide (size < 1) = true := by simpa using h1
    clear h e ha
    rw [HE.out]
    go_enter Try.func21, Try.ntmps21
    go_wp2
    refine bodyPost_ret (v := .tuple #[.slice none 0 0, .int .i64 1]) (by simp [results, Try.results21, go_sem]) rfl ⟨_, rfl, Owns.nil _ _ _, Ext.refl w⟩
  · have hd : decide (size < 1) = false := by simpa using h1
    by_cases h2 : 4096 < n
    · have e : ans zs size = ([], 4) := by unfold ans; rw [if_neg h1, if_pos (by omega)]
      have HE := Lib.hid e
      have hd2 : decide (4096 < (n : Int)) = true := by simp; omega
      clear h e ha
      rw [HE.out]
      go_enter Try.func21, Try.ntmps21
      go_wp2
      refine bodyPost_ret (v := .tuple #[.slice none 0 0, .int .i64 4]) (by simp [results, Try.results21, go_sem]) rfl ⟨_, rfl, Owns.nil _ _ _, Ext.refl w⟩
    · have hd2 : decide (4096 < (n : Int)) = false := by simp; omega
      obtain ⟨s, rfl⟩ := Int.eq_ofNat_of_zero_le (show 0 ≤ size by omega)
      by_cases h3 : 64 < cnt n s
      · have e : ans zs (s : Int) = ([], 5) := by unfold ans; rw [if_neg h1, if_neg (by omega), if_pos (by rw [hl, Int.toNat_natCast]; exact h3)]
        have HE := Lib.hid e
        have hd3 : decide (64 < (cnt n s : Int)) = true := by simp; omega
        have hcp := cnt_pos n s (by omega)
        clear h e ha
        rw [HE.out]
        go_enter Try.func21, Try.ntmps21
        go_wp2_with fail
        refine (refSizes_any n s (by omega) (by omega) (by omega) w).mono ?_
        rintro r ws ⟨vS, rfl, hvs, hxs⟩
        obtain ⟨gs, cs, rfl, hcs1, hcs2, hgs, hcell⟩ := vals_row hvs hcp
        have HXS := Lib.hid hxs
        clear hvs hxs hcell
        go_wp2
        refine bodyPost_ret (v := .tuple #[.slice none 0 0, .int .i64 5]) (by simp [results, Try.results21, go_sem]) rfl ⟨_, rfl, Owns.nil _ _ _, HXS.out⟩
      · have e : ans zs (s : Int) = (fr zs s (cnt n s), 0) := by unfold ans; rw [if_neg h1, if_neg (by omega), if_neg (by rw [hl, Int.toNat_natCast]; exact h3), hl, Int.toNat_natCast]
        rw [e]
        exact refMark_ok a n cap zs s (by omega) (by omega) (by omega) (by omega) w h ha
/-- A row of the call's own, its address plain. -/
theorem Owns.row2 {w : World} {base : Nat} {e : TypeId} {v : Value} {zs : List Int} (h : Owns w base e v (bv zs)) (hw : ∀ z ∈ zs, (Lit.int .u8 z).wf = true) : ∃ a cap, v = .slice a zs.length cap ∧ IsRow .u8 w a zs.length cap zs ∧ Plain a cap := by
  obtain ⟨a, cap, hv, hr⟩ := h.row hw
  refine ⟨a, cap, hv, hr, ?_⟩
  rcases h.form with ⟨hv2, _⟩ | ⟨g, c, cur, hv2, _⟩
  · rw [hv] at hv2; injection hv2 with h1 h2 h3; exact .inl ⟨h1, h3⟩
  · rw [hv] at hv2; injection hv2 with h1 h2 h3; exact .inr ⟨g, 0, h1⟩
/-- The first so many bytes, in memory of their own. -/
theorem few_any (a : Option Addr) (n cap : Nat) (zs : List Int) (m : Nat) (hm : m ≤ 1000000) (w : World) (h : IsRow .u8 w a n cap zs) (ha : a = none → cap = 0) :
    Calls Try.prog 10 #[.slice a n cap, .int .i64 m] w fun r w' => ∃ v, r = .returned v ∧ Owns w' w.heap.size 5 v (bv (zs.take m)) ∧ Ext w w' := by
  have hcm := h.2.2.1
  have hlc := h.2.1
  have hl := h.1
  unfold maxLen at hcm
  obtain ⟨j, hj⟩ : ∃ j, j = min n m := ⟨_, rfl⟩
  obtain ⟨v', w', h1, h2, h3⟩ := app_row (Owns.nil w w.heap.size 5) (h.head (j := j) (by omega)) ha (by simp; omega) (Nat.le_refl _) 22
  have H1 := Lib.hid h1
  have H2 := Lib.hid (show Owns w' w.heap.size 5 v' (bv (zs.take m)) by
    have e : zs.take j = zs.take m := by
      rw [hj, ← hl]
      by_cases hx : zs.length ≤ m
      · rw [Nat.min_eq_left hx, List.take_length, List.take_of_length_le hx]
      · rw [Nat.min_eq_right (by omega)]
    rw [e] at h2
    exact h2)
  have H3 := Lib.hid (grown_ext h3 (Ext.refl w) (fun g hg => by simp [Value.ownBlock] at hg))
  clear h h1 h2 h3 hl
  cases a with
  | none =>
    have hc0 : cap ≤ 0 := by have := ha rfl; omega
    clear ha
    by_cases hmn : m < n
    · omega
    · go_enter Try.func10, Try.ntmps10
      go_wp2_with (at_builtin; refine wpList_append_run rfl (.tmp 6) (.tmp 12) _ rfl _ _ _ ?_ ?_ H1.out ?_)
      · rfl
      · go_simp <;> omega
      · go_ret
        exact ⟨_, rfl, H2.out, H3.out⟩
  | some ad =>
    clear ha
    by_cases hmn : m < n
    · obtain rfl : j = m := by omega
      clear hj
      go_enter Try.func10, Try.ntmps10
      go_wp2_with (at_builtin; refine wpList_append_run rfl (.tmp 6) (.tmp 12) _ rfl _ _ _ ?_ ?_ H1.out ?_)
      · rfl
      · go_simp <;> omega
      · go_ret
        exact ⟨_, rfl, H2.out, H3.out⟩
    · obtain rfl : j = n := by omega
      clear hj
      go_enter Try.func10, Try.ntmps10
      go_wp2_with (at_builtin; refine wpList_append_run rfl (.tmp 6) (.tmp 12) _ rfl _ _ _ ?_ ?_ H1.out ?_)
      · rfl
      · go_simp <;> omega
      · go_ret
        exact ⟨_, rfl, H2.out, H3.out⟩
theorem drew_ext (w : World) : Ext w w.drew := (Ext.refl w).drew
def two (a b : Int) (i : Nat) : Int := if i = 0 then a else b
theorem two_bd {a b : Int} {i : Nat} (ha : a ≤ 9223372036854775807) (hb : b ≤ 9223372036854775807) : two a b i ≤ 9223372036854775807 := by unfold two; split <;> assumption
theorem IsRow.of_trod2 {H : Type} {enc : TypeId × Value → H} {P : Program} {W : World} {t e : TypeId} {k : IntKind} {a : Option Addr} {len cap : Nat} {d : DataW H} {p : List MemPlace}
    (ht : P.underlying t = some (.slice e)) (he : P.underlying e = some (.int k)) (hc : P.cellsOf e = 1)
    (h : DataW.Trod enc P W 0 (fun _ => true) true t (.slice a len cap) d p) : ∃ zs, IsRow k W a len cap zs ∧ (a = none → cap = 0) := by
  obtain ⟨zs, hz⟩ := IsRow.of_trod ht he hc h
  refine ⟨zs, hz, fun e => ?_⟩
  obtain ⟨fuel, hf⟩ := h
  rcases open_ints ht he hc hf with ⟨hcs, _⟩ | ⟨x, l, c, zs, hcs, _⟩
  · simp [Value.cells] at hcs
    exact hcs.2.2
  · simp [Value.cells] at hcs
    rw [e] at hcs
    cases hcs.1
/-- The slice value (a, len, cap) holds slices that hold yss; Q is told of each one's address. -/
def IsRows (Q : Option Addr → Nat → Prop) (w : World) (a : Option Addr) (len cap : Nat) (yss : List (List Int)) : Prop :=
  yss.length = len ∧ len ≤ cap ∧ cap ≤ maxLen ∧ (len = 0 ∨ ∃ g o, a = some ⟨g, o, none⟩ ∧ ∀ i, i < len → ∃ ai ci, w.cell? ⟨g, o + i, none⟩ = some (.slice ai (yss.getD i []).length ci) ∧ IsRow .u8 w ai (yss.getD i []).length ci (yss.getD i []) ∧ Q ai ci)
theorem IsRows.ext {Q : Option Addr → Nat → Prop} {w w' : World} {a : Option Addr} {len cap : Nat} {yss : List (List Int)} (h : IsRows Q w a len cap yss) (hx : Ext w w') : IsRows Q w' a len cap yss := by
  obtain ⟨h1, h2, h3, h5⟩ := h
  refine ⟨h1, h2, h3, ?_⟩
  rcases h5 with h5 | ⟨g, o, h6, h7⟩
  · exact .inl h5
  · refine .inr ⟨g, o, h6, fun i hi => ?_⟩
    obtain ⟨ai, ci, q1, q2, q3⟩ := h7 i hi
    exact ⟨ai, ci, hx.cell q1, q2.ext hx, q3⟩
theorem IsRows.at_ {Q : Option Addr → Nat → Prop} {w : World} {a : Option Addr} {len cap : Nat} {yss : List (List Int)} (h : IsRows Q w a len cap yss) {i : Nat} (hi : i < len) :
    ∃ g o ai ci, a = some ⟨g, o, none⟩ ∧ w.cell? ⟨g, o + i, none⟩ = some (.slice ai (yss.getD i []).length ci) ∧ IsRow .u8 w ai (yss.getD i []).length ci (yss.getD i []) ∧ Q ai ci := by
  rcases h.2.2.2 with h5 | ⟨g, o, h6, h7⟩
  · omega
  · obtain ⟨ai, ci, q1, q2, q3⟩ := h7 i hi
    exact ⟨g, o, ai, ci, h6, q1, q2, q3⟩
/-- The size by which the i'th is cut. -/
def sizeAt (ss : List Int) (i : Nat) : Int := if ss.length = 0 then 4096 else ss.getD (i % ss.length) 0
theorem sizeAt_le {ss : List Int} (h : ∀ z ∈ ss, (Lit.int .i64 z).wf = true) (i : Nat) : sizeAt ss i ≤ 9223372036854775807 := by
  unfold sizeAt
  split
  · omega
  · next h0 =>
    have hl := Nat.mod_lt i (show 0 < ss.length by omega)
    simp only [List.getD_eq_getElem?_getD, List.getElem?_eq_getElem hl, Option.getD_some]
    exact (wf_i64 (h _ (List.getElem_mem hl))).2
/-- All records' fragments, from the i'th on, behind acc. -/
def goAll (ss : List Int) : List (List Int) → Nat → List Int → List Int × Int
  | [], _, acc => (acc, 0)
  | y :: ys, i, acc => if (ans y (sizeAt ss i)).2 = 0 then goAll ss ys (i + 1) (acc ++ (ans y (sizeAt ss i)).1) else ([], (ans y (sizeAt ss i)).2)
theorem goAll_more {ss : List Int} {yss : List (List Int)} {i : Nat} (hi : i < yss.length) (acc : List Int) (h : (ans (yss.getD i []) (sizeAt ss i)).2 = 0) :
    goAll ss (yss.drop i) i acc = goAll ss (yss.drop (i + 1)) (i + 1) (acc ++ (ans (yss.getD i []) (sizeAt ss i)).1) := by
  rw [List.drop_eq_getElem_cons hi]
  simp only [List.getD_eq_getElem?_getD, List.getElem?_eq_getElem hi, Option.getD_some] at h ⊢
  rw [goAll, if_pos h]
theorem goAll_bad {ss : List Int} {yss : List (List Int)} {i : Nat} (hi : i < yss.length) (acc : List Int) (h : (ans (yss.getD i []) (sizeAt ss i)).2 ≠ 0) :
    goAll ss (yss.drop i) i acc = ([], (ans (yss.getD i []) (sizeAt ss i)).2) := by
  rw [List.drop_eq_getElem_cons hi]
  simp only [List.getD_eq_getElem?_getD, List.getElem?_eq_getElem hi, Option.getD_some] at h ⊢
  rw [goAll, if_neg h]
theorem goAll_end {ss : List Int} {yss : List (List Int)} {i : Nat} (hi : yss.length ≤ i) (acc : List Int) : goAll ss (yss.drop i) i acc = (acc, 0) := by
  rw [List.drop_eq_nil_of_le hi, goAll]
theorem ans_wf {zs : List Int} (hz : ∀ z ∈ zs, (Lit.int .u8 z).wf = true) (size : Int) : ∀ z ∈ (ans zs size).1, (Lit.int .u8 z).wf = true := by
  unfold ans
  split
  · simp
  · split
    · simp
    · split
      · simp
      · exact fr_wf hz (by omega) _ _
theorem ans_len (zs : List Int) (size : Int) : (ans zs size).1.length ≤ 262400 := by
  unfold ans
  split
  · simp
  · split
    · simp
    · split
      · simp
      · have := fr_len zs (by omega) size.toNat (cnt zs.length size.toNat)
        simp only
        omega
theorem size_any (a : Option Addr) (n cap : Nat) (ss : List Int) (i : Nat) (hi : i ≤ 1000000) (w : World) (h : IsRow .i64 w a n cap ss) :
    Calls Try.prog 22 #[.slice a n cap, .int .i64 i] w fun r w' => r = .returned (.int .i64 (sizeAt ss i)) ∧ w = w' := by
  have hl := h.1
  have hcm := h.2.2.1
  have hlc := h.2.1
  unfold maxLen at hcm
  rcases Nat.eq_zero_or_pos n with h0 | h0
  · have HE := Lib.hid (show sizeAt ss i = 4096 by unfold sizeAt; rw [if_pos (by omega)])
    have hd : ((n : Int) == 0) = true := by simp; omega
    clear h h0 hl
    go_enter Try.func22, Try.ntmps22
    go_wp2
    go_ret
    exact ⟨ret_int HE.out.symm, rfl⟩
  · have hm := Nat.mod_lt i h0
    have HE := Lib.hid (show sizeAt ss i = ss.getD (i % n) 0 by unfold sizeAt; rw [if_neg (by omega), hl])
    have hd : ((n : Int) == 0) = false := by simp; omega
    obtain ⟨g, o, rfl, hc⟩ := h.at_ hm
    rw [← HE.out] at hc
    have hi0 : (0 : Int) ≤ (i : Int) % (n : Int) := by omega
    have hi1 : (i : Int) % (n : Int) < (n : Int) := by omega
    have hi2 : ((i : Int) % (n : Int)).toNat = i % n := by omega
    clear h hl
    go_enter Try.func22, Try.ntmps22
    go_wp2
    go_ret
    exact ⟨rfl, rfl⟩
/-- One record's fragments are put behind the others'. -/
theorem put_ans {w0 W W2 : World} {v v2 : Value} {acc : List Int} (hO : Owns W w0.heap.size 5 v (bv acc)) (hX : Ext w0 W) {zs : List Int} {size : Int} (hz : ∀ z ∈ zs, (Lit.int .u8 z).wf = true)
    (h2 : Owns W2 W.heap.size 5 v2 (bv (ans zs size).1)) (hX2 : Ext W W2) (hl : acc.length ≤ 5000000) :
    ∃ v' w', (Builtin.append_ #[22, 22] 22 #[v, v2]).run Try.prog W2 = .ok v' w' ∧ Owns w' w0.heap.size 5 v' (bv (acc ++ (ans zs size).1)) ∧ Ext w0 w' := by
  obtain ⟨a, cap, rfl, hr, hp⟩ := h2.row2 (ans_wf hz size)
  have hal := ans_len zs size
  obtain ⟨v', w', h3, h4, h5⟩ := app_row (hO.ext hX2) hr (fun e => by rcases hp with ⟨_, h⟩ | ⟨g, o, h⟩; exact h; rw [h] at e; cases e) (by rw [bv_len]; omega) (Nat.le_trans hX.size hX2.size) 22
  exact ⟨v', w', h3, by rw [bv_app]; exact h4, grown_ext h5 (hX.trans hX2) (fun g hg => (hO.lt hg).1)⟩
set_option maxRecDepth 100000 in
set_option maxHeartbeats 2000000 in
theorem refAll_any (sa : Option Addr) (sn sc : Nat) (ss : List Int) (a : Option Addr) (n cap : Nat) (yss : List (List Int)) (hn : n ≤ 5) (w : World) (hs : IsRow .i64 w sa sn sc ss) (h : IsRows Plain w a n cap yss) :
    Calls Try.prog 9 #[.slice sa sn sc, .slice a n cap] w fun r w' => ∃ v, r = .returned (.tuple #[v, .int .i64 (goAll ss yss 0 []).2]) ∧ Owns w' w.heap.size 5 v (bv (goAll ss yss 0 []).1) ∧ Ext w w' := by
  have hcm := h.2.2.1
  have hlc := h.2.1
  have hscm := hs.2.2.1
  have hslc := hs.2.1
  unfold maxLen at hcm hscm
  have HNE := Lib.hid h.1
  have HSE := Lib.hid hs.1
  have HR := Lib.hid h
  have HS := Lib.hid hs
  have HG := Lib.hid (show goAll ss (yss.drop 0) 0 [] = goAll ss yss 0 [] from rfl)
  generalize goAll ss yss 0 [] = G at *
  obtain ⟨gb, ge⟩ := G
  clear h hs
  go_enter Try.func9, Try.ntmps9
  go_wp2_with fail
  go_loopw [6, 7] (fun v6 v7 wr => ∃ (i : Nat) (acc : List Int), i ≤ n ∧ v7 = .int .i64 i ∧ acc.length ≤ i * 262400 ∧ goAll ss (yss.drop i) i acc = (gb, ge) ∧ Owns wr w.heap.size 5 v6 (bv acc) ∧ Ext w wr) (fun _ v7 _ => n - (intOf v7).toNat)
  case atStart => exact ⟨0, [], by omega, rfl, by simp, HG.out, Owns.nil _ _ _, Ext.refl w⟩
  case round =>
    obtain ⟨i, acc, hi, rfl, hal, hg, hO, hX⟩ := hrel
    have HGi := Lib.hid hg
    have HO := Lib.hid hO
    have HX := Lib.hid hX
    clear hg hO hX
    by_cases hlt : i < n
    · have hd : decide (i < n) = true := by simpa using hlt
      have hi0 : (0 : Int) ≤ (i : Int) := by omega
      have hi1 : (i : Int) < (n : Int) := by omega
      obtain ⟨g, o, ai, ci, rfl, q1, q2, q3⟩ := (HR.out.ext HX.out).at_ hlt
      have hgr := World.block_lt_of_cell? wr _ q1
      have HQ2 := Lib.hid q2
      have HAL := Lib.hid (ans_len (yss.getD i []) (sizeAt ss i))
      have HGm := Lib.hid (goAll_more (ss := ss) (yss := yss) (i := i) (by rw [HNE.out]; exact hlt) acc)
      have HGb := Lib.hid (goAll_bad (ss := ss) (yss := yss) (i := i) (by rw [HNE.out]; exact hlt) acc)
      rw [HGi.out] at HGm HGb
      clear HGi
      have HSz := Lib.hid (fun W (hW : Ext wr W) => size_any sa sn sc ss i (by omega) W (HS.out.ext (HX.out.trans hW)))
      have HM := Lib.hid (fun W (hW : Ext wr W) => refMark_any ai _ ci (yss.getD i []) (sizeAt ss i) W (q2.ext hW) q3 (sizeAt_le HS.out.2.2.2.1 i))
      have HP := Lib.hid (fun W (hW : Ext wr W) v2 W2 h2 hX2 => put_ans (W := W) (v2 := v2) (W2 := W2) (HO.out.ext hW) (HX.out.trans hW) (zs := yss.getD i []) (size := sizeAt ss i) q2.2.2.2.1 h2 hX2 (by omega))
      generalize hA : ans (yss.getD i []) (sizeAt ss i) = A at *
      obtain ⟨ab, ae⟩ := A
      have HA := Lib.hid hA
      clear hA q2
      simp only at HGm HGb HM HP HAL
      generalize (yss.getD i []).length = ylen at *
      generalize yss.getD i [] = y at *
      generalize sizeAt ss i = z at *
      go_wp2_with fail
      go_region_with (first | (go_at_call 22; refine (HSz.out _ (drew_ext wr)).mono ?_; rintro r w1 ⟨rfl, rfl⟩) | (go_at_call 21; refine (HM.out _ (drew_ext wr)).mono ?_; rintro r w2 ⟨v2, rfl, hO2, hX2⟩))
      all_goals
        obtain ⟨v', w', p1, p2, p3⟩ := HP.out _ (drew_ext wr) v2 w2 hO2 hX2
        have P1 := Lib.hid p1
        have P2 := Lib.hid p2
        have P3 := Lib.hid p3
        have X2 := Lib.hid ((HX.out.trans (drew_ext wr)).trans hX2)
        clear p1 p2 p3 hO2 hX2
        by_cases he : ae = 0
        · have hde : (ae != 0) = false := by simp [he]
          go_wp2_with (at_builtin; refine wpList_append_run rfl (.tmp 30) (.tmp 31) _ rfl _ _ _ ?_ ?_ P1.out ?_)
          · rfl
          · rfl
          · go_roundw
            case rel => exact ⟨i + 1, _, by omega, by go_num, by have := HAL.out; rw [List.length_append]; omega, (HGm.out he).symm, P2.out, P3.out⟩
            case measure => simp [intOf]; omega
        · have hde : (ae != 0) = true := by simp [he]
          have hE := HGb.out he
          injection hE with hE1 hE2
          subst hE1 hE2
          go_wp2_with fail
          refine bodyPost_ret (v := .tuple #[.slice none 0 0, .int .i64 ge]) (by simp [results, Try.results9, go_sem]) rfl ⟨_, rfl, Owns.nil _ _ _, X2.out⟩
    · have hd : decide (i < n) = false := by simpa using hlt
      have hE := HGi.out
      rw [goAll_end (by rw [HNE.out]; omega)] at hE
      injection hE with hE1 hE2
      subst hE1 hE2
      go_wp2_with fail
      refine bodyPost_ret (v := .tuple #[_, .int .i64 0]) (by simp [results, Try.results9, go_sem]) rfl ⟨_, rfl, HO.out, HX.out⟩
end Go.Proofs.Ytpgbocdcjlcelaa
