/- The walk of the law DemarkErrors. -/
import Derived.Test.YtpgbocdcjlcelaaDeF
namespace Go.Proofs.Ytpgbocdcjlcelaa
open Go.ChangeShapes Go.WideShapes Go.ChangeAt Go.RowKit

def bad1 : List Int := [0, 0, 0, 41, 1, 2]
def bad2 : List Int := [0, 0, 0, 0, 0, 0, 0, 0, 0, 0, 0, 0]
theorem feed_bad1 (need : Nat) (ends : Bool) (L : List (List Int)) : feed 40 2 bad1 (⟨0, [], [], 0, need, ends, 0⟩, L) = (⟨2, [], [], 0, need, ends, 4⟩, L) := by kernel_rfl
theorem feed_bad2 (need : Nat) (ends : Bool) (L : List (List Int)) : feed 40 2 bad2 (⟨0, [], [], 0, need, ends, 0⟩, L) = (⟨2, [], [], 0, 0, false, 5⟩, L) := by kernel_rfl
theorem getD_size (i : Nat) : sizeAt [] i = 4096 := by simp [sizeAt]
/-- What is fed ahead of the error. -/
theorem feed_err1 {yss : List (List Int)} (hy : ∀ y ∈ yss, y.length ≤ 40) : ∃ need ends, feed 40 2 (catAll [] yss yss.length ++ bad1) (St.new, []) = (⟨2, [], [], 0, need, ends, 4⟩, yss) := by
  obtain ⟨n1, e1, h1⟩ := feed_cat 40 2 (gs := []) (by simp) hy (by omega) (fun i => by rw [getD_size]; have := getD_le hy i; exact Nat.le_trans (Nat.le_of_eq (cnt_one (yss.getD i []).length (by omega))) (by omega)) 0 false [] yss.length (Nat.le_refl _) bad1
  exact ⟨n1, e1, by rw [show St.new = ⟨0, [], [], 0, 0, false, 0⟩ from rfl, h1, feed_bad1]; simp⟩
theorem feed_err2 {yss : List (List Int)} (hy : ∀ y ∈ yss, y.length ≤ 40) : ∃ need ends, feed 40 2 (catAll [] yss yss.length ++ bad2) (St.new, []) = (⟨2, [], [], 0, need, ends, 5⟩, yss) := by
  obtain ⟨n1, e1, h1⟩ := feed_cat 40 2 (gs := []) (by simp) hy (by omega) (fun i => by rw [getD_size]; have := getD_le hy i; exact Nat.le_trans (Nat.le_of_eq (cnt_one (yss.getD i []).length (by omega))) (by omega)) 0 false [] yss.length (Nat.le_refl _) bad2
  exact ⟨0, false, by rw [show St.new = ⟨0, [], [], 0, 0, false, 0⟩ from rfl, h1, feed_bad2]; simp⟩
theorem Each.sub {R S : Value → List Int → Prop} {xs : List Value} {ys : List (List Int)} (h : Each R xs ys) (hs : ∀ x y, R x y → S x y) : Each S xs ys := h.mono hs
theorem own_row_len {yss : List (List Int)} (hl : yss.length ≤ 5) (hy : ∀ y ∈ yss, y.length ≤ 40) {gs : List Int} (hg : ∀ z ∈ gs, 1 ≤ z ∧ z ≤ 20) : (catAll gs yss yss.length).length ≤ 1000 := by
  have := cat_len hg hy yss.length
  omega
/-- What is fed: the row's bytes, and some more behind them. -/
theorem feed_arg {w : World} {a : Option Addr} {n cap : Nat} {own : List Int} (h : IsRow .u8 w a n cap own) (hp : Plain a cap) (hl : own.length ≤ 1000) :
    Calls Try.prog 10 #[.slice a n cap, .int .i64 1000] w fun r w' => ∃ v, r = .returned v ∧ Owns w' w.heap.size 5 v (bv own) ∧ Ext w w' := by
  have := few_any a n cap own 1000 (by omega) w h (by rcases hp with ⟨_, h⟩ | ⟨_, _, h⟩; (exact fun _ => h); (intro e; rw [e] at h; cases h))
  rw [List.take_of_length_le hl] at this
  exact this
set_option maxRecDepth 100000 in
set_option maxHeartbeats 8000000 in
theorem demarkErrors_walk (w : World) (a : Option Addr) (n cap : Nat) (rss : List (List Int)) (h : IsRows (fun a c => a = none → c = 0) w a n cap rss) (ha : a = none → cap = 0) (full : Bool) (ma : Option Addr) (mn mc : Nat) (mss : List (List Int)) (hm : IsRows (fun a c => a = none → c = 0) w ma mn mc mss) (_hma : ma = none → mc = 0) :
    Calls Try.prog 6 #[.slice a n cap, .bool full, .slice ma mn mc] w fun r w' => r = .returned (.bool true) ∧ Ext w w' := by
  have hcm := h.2.2.1
  have hlc := h.2.1
  have hmcm := hm.2.2.1
  have hmlc := hm.2.1
  unfold maxLen at hcm hmcm
  obtain ⟨j, hj⟩ : ∃ j, j = min n 3 := ⟨_, rfl⟩
  have hj1 : j ≤ n := by omega
  have hj2 : j ≤ 3 := by omega
  have HJ := Lib.hid hj
  have HA := Lib.hid ha
  have HGd := Lib.hid (good_any a j cap (rss.take j) none 0 0 [] w (h.head hj1) ⟨rfl, by omega, by unfold maxLen; omega, by simp, .inl rfl⟩)
  have HMs := Lib.hid hm
  clear h hj ha hm
  go_enter Try.func6, Try.ntmps6
  go_upto_region 1 with (fail)
  go_cut [7, 8] (fun s5 s6 wx => GoodRel w wx s5 s6)
  case first =>
    rcases (show (j = n ∧ n ≤ 3) ∨ (j = 3 ∧ 3 < n) by have := HJ.out; omega) with ⟨rfl, hle⟩ | ⟨rfl, hle⟩
    · cases a with
      | none =>
        have hc0 : cap ≤ 0 := by (have := HA.out rfl; omega)
        obtain rfl : cap = 0 := by omega
        obtain rfl : j = 0 := by omega
        go_wp2_with fail
        with_reducible refine HGd.out.mono ?_
        rintro r w2 ⟨v1, v2, rfl, hG⟩
        go_wp2_with fail
        go_meet
        exact hG
      | some ad =>
        go_wp2_with fail
        with_reducible refine HGd.out.mono ?_
        rintro r w2 ⟨v1, v2, rfl, hG⟩
        go_wp2_with fail
        go_meet
        exact hG
    · cases a with
      | none => (have := HA.out rfl; omega)
      | some ad =>
        go_wp2_with fail
        with_reducible refine HGd.out.mono ?_
        rintro r w2 ⟨v1, v2, rfl, hG⟩
        go_wp2_with fail
        go_meet
        exact hG
  case rest =>
    obtain ⟨yss, gs, hO7, hyl, hy40, _, _, hX⟩ := hcut
    have HO7 := Lib.hid hO7
    have HX := Lib.hid hX
    have HY := Lib.hid hy40
    have HAll := Lib.hid (all_good hO7 hyl hy40 (sa := none) (sn := 0) (sc := 0) (gs := []) ⟨rfl, by omega, by unfold maxLen; omega, by simp, .inl rfl⟩ (by simp))
    have HWf := Lib.hid (cat_wf (gs := []) hO7.wf yss.length)
    have hln := own_row_len hyl hy40 (gs := []) (by simp)
    have HF1 := Lib.hid (feed_err1 hy40)
    have HF2 := Lib.hid (feed_err2 hy40)
    clear hO7 hX hy40 HGd HA HJ
    generalize catAll [] yss yss.length = own at *
    go_wp2_with fail
    refine HAll.out.mono ?_
    rintro r w2 ⟨vo, rfl, hOo, hX2⟩
    obtain ⟨oa, oc, rfl, hor, hop⟩ := hOo.row2 HWf.out
    have HOr := Lib.hid hor
    have HOp := Lib.hid hop
    have HX2 := Lib.hid hX2
    clear hOo hor hop hX2 HAll
    go_wp2_with fail
    refine (new_ok 40 2 (by omega) (by omega) (by omega) w2).mono ?_
    rintro r w3 ⟨rfl, hD3, hX3⟩
    have HD3 := Lib.hid hD3
    have HX3 := Lib.hid hX3
    have hlt3 := hD3.lt
    clear hD3 hX3
    cases full with
    | false =>
      have HBr := Lib.hid (const_row w3 bad1 (by decide) (by decide) (0, 0))
      have HXB := Lib.hid (show Ext w3 (w3.alloc (.cells (bv bad1).toArray 5)) from (Ext.refl w3).alloc _)
      obtain ⟨nd, en, hfe⟩ := HF1.out
      have HFe := Lib.hid hfe
      clear HF1 HF2 hfe
      go_wp2_with fail
      refine (feed_arg (HOr.out.ext (HX3.out.trans HXB.out)) HOp.out hln).mono ?_
      rintro r w5 ⟨v5, rfl, hO5, hX5⟩
      obtain ⟨v6, w6, p1, p2, p3⟩ := app_row hO5 (c := 6) (HBr.out.ext hX5) (fun e => by cases e) (by rw [bv_len]; simp [bad1]; omega) hX5.size 22
      have hX6 : Ext w3 w6 := grown_ext p3 (HXB.out.trans hX5) (fun g hg => Nat.le_trans HXB.out.size (hO5.lt hg).1)
      rw [← bv_app] at p2
      have hwf6 : ∀ z ∈ own ++ bad1, (Lit.int .u8 z).wf = true := fun z hz => by
        rcases List.mem_append.1 hz with hz | hz
        · exact HWf.out z hz
        · exact (show ∀ z ∈ bad1, (Lit.int .u8 z).wf = true by decide) z hz
      obtain ⟨a6, c6, rfl, hr6, hp6⟩ := p2.row2 hwf6
      have hfar : ∀ ga o, a6 = some ⟨ga, o, none⟩ → ga ∉ foot w2.heap.size (.slice none 0 0) (.slice none 0 0) := fun ga o e => by
        subst e
        have h1 := (p2.lt (g := ga) rfl).1
        exact new_apart HD3.out (Nat.le_trans HXB.out.size h1)
      have hl6 : (own ++ bad1).length ≤ 5000 := by rw [List.length_append]; simp [bad1]; omega
      have HFd := Lib.hid (feed_any (HD3.out.ext hX6) (Inv.new 40 2) (by have := hX6.size; omega) (by omega) (by omega) a6 _ c6 _ hr6 hfar hl6)
      rw [HFe.out] at HFd
      have P1 := Lib.hid p1
      have HX6 := Lib.hid (HX3.out.trans hX6)
      clear hO5 p1 p2 p3 hr6 hp6 hfar hX6 hX5 hwf6
      generalize (own ++ bad1).length = l6 at *
      go_wp2_with (at_builtin; refine wpList_append_run rfl (.tmp 49) (.tmp 50) _ rfl _ _ _ ?_ ?_ P1.out ?_)
      · rfl
      · rfl
      with_reducible refine HFd.out.mono ?_
      rintro r w7 ⟨v7, rfl, vn7, vr7, hD7, hT7, hU7, hF7, _⟩
      have hX7 : Ext w2 w7 := hU7.ext HX6.out (fun k hk => (HD3.out.foot_low hk).1)
      have HD7 := Lib.hid hD7
      have HX7 := Lib.hid hX7
      have HSB := Lib.hid (sameBytes_own hT7.owns (HO7.out.ext (HX2.out.trans hX7)) (show yss.length ≤ 100000 by omega))
      clear hD7 hT7 hU7 hF7 hX7 HFd
      go_wp2_with fail
      with_reducible refine HSB.out.mono ?_
      rintro r w8 ⟨rfl, hX8⟩
      have HD8 := Lib.hid (HD7.out.ext hX8)
      have HX8 := Lib.hid (HX7.out.trans hX8)
      clear hX8 HSB HD7
      go_wp2_with fail
      refine (errno_any HD8.out).mono ?_
      rintro r wb ⟨rfl, rfl⟩
      go_wp2_with fail
      refine (held_any HD8.out (by simp) (by simp)).mono ?_
      rintro r w9 ⟨rfl, hX9⟩
      have HD9 := Lib.hid (HD8.out.ext hX9)
      have HX9 := Lib.hid (HX8.out.trans hX9)
      clear hX9 HD8
      go_wp2_with fail
      refine (clean_any HD9.out (by simp) (by simp)).mono ?_
      rintro r wb ⟨rfl, rfl⟩
      have HXw := Lib.hid (HX.out.trans (HX2.out.trans HX9.out))
      have HG2 := Lib.hid (good_any ma mn mc mss none 0 0 [] w9 (HMs.out.ext HXw.out) ⟨rfl, by omega, by unfold maxLen; omega, by simp, .inl rfl⟩)
      go_wp2_with fail
      refine HG2.out.mono ?_
      rintro r wg ⟨k1, k2, rfl, kss, ks, hK1, hkl, hk40, hK2, hkg, hXg⟩
      obtain ⟨sa, sc, rfl, hsr⟩ := hK2.rowI (fun z hz => by
        have := hkg z hz
        simp [Lit.wf, IntKind.min, IntKind.max, IntKind.signed, IntKind.bits]
        omega)
      have HAl := Lib.hid (all_good hK1 hkl hk40 hsr hkg)
      have HWf2 := Lib.hid (cat_wf (gs := ks) hK1.wf kss.length)
      have hln2 := own_row_len hkl hk40 hkg
      have HD10 := Lib.hid (HD9.out.ext hXg)
      have HXg := Lib.hid (HX9.out.trans hXg)
      have hslc := hsr.2.1
      have hscm := hsr.2.2.1
      unfold maxLen at hscm
      generalize catAll ks kss kss.length = next at *
      clear hK1 hk40 hK2 hkg hXg hsr HG2 HD9
      generalize ks.length = ksl at *
      go_wp2_with fail
      with_reducible refine HAl.out.mono ?_
      rintro r wn ⟨vx, rfl, hOx, hXn⟩
      obtain ⟨xa, xc, rfl, hxr, hxp⟩ := hOx.row2 HWf2.out
      have hfar : ∀ ga o, xa = some ⟨ga, o, none⟩ → ga ∉ foot w2.heap.size vn7 vr7 := fun ga o e => by
        subst e
        have h1 := (hOx.lt (g := ga) rfl).1
        exact new_apart HD10.out h1
      have HFd := Lib.hid (feed_any (HD10.out.ext hXn) (show Inv 40 2 ⟨2, [], [], 0, nd, en, 4⟩ by simp [Inv]) (by have := HXg.out.size; have := hXn.size; omega) (by omega) (by omega) xa _ xc _ hxr hfar (by omega))
      rw [feed_forget 40 2 next _ [] rfl] at HFd
      have HXn := Lib.hid (HXg.out.trans hXn)
      have HD11 := Lib.hid (HD10.out.ext hXn)
      have hxlc := hxr.2.1
      have hxcm := hxr.2.2.1
      unfold maxLen at hxcm
      clear hOx hXn hxr hxp hfar HAl HD10
      generalize next.length = nl at *
      go_wp2_with fail
      with_reducible refine HFd.out.mono ?_
      rintro r wz ⟨vz, rfl, vnz, vrz, hDz, hTz, hUz, hFz, _⟩
      obtain ⟨za, zc, rfl, _, _⟩ := hTz.owns.rows
      have hXz : Ext w2 wz := hUz.ext HXn.out (fun k hk => (HD11.out.foot_low hk).1)
      have HDz := Lib.hid hDz
      have HXz := Lib.hid hXz
      clear hDz hTz hUz hFz hXz HFd
      go_wp2_with fail
      refine (errno_any HDz.out).mono ?_
      rintro r wb ⟨rfl, rfl⟩
      go_wp2_with fail
      refine (held_any HDz.out (by simp) (by simp)).mono ?_
      rintro r wy ⟨rfl, hXy⟩
      have HXy := Lib.hid (HXz.out.trans hXy)
      clear hXy
      go_wp2_with fail
      refine (lives_any _).mono ?_
      rintro r wq ⟨rfl, hXq⟩
      have HXq := Lib.hid (HX.out.trans (HX2.out.trans (HXy.out.trans hXq)))
      clear hXq
      go_wp2_with fail
      go_ret
      exact ⟨rfl, HXq.out⟩
    | true =>
      have HBr := Lib.hid (const_row (w3.alloc (.cells (bv bad1).toArray 5)) bad2 (by decide) (by decide) (0, 0))
      rw [show (w3.alloc (.cells (bv bad1).toArray 5)).heap.size = w3.heap.size + 1 by simp] at HBr
      have HXB := Lib.hid (show Ext w3 ((w3.alloc (.cells (bv bad1).toArray 5)).alloc (.cells (bv bad2).toArray 5)) from ((Ext.refl w3).alloc _).alloc _)
      obtain ⟨nd, en, hfe⟩ := HF2.out
      have HFe := Lib.hid hfe
      clear HF1 HF2 hfe
      go_wp2_with fail
      refine (feed_arg (HOr.out.ext (HX3.out.trans HXB.out)) HOp.out hln).mono ?_
      rintro r w5 ⟨v5, rfl, hO5, hX5⟩
      obtain ⟨v6, w6, p1, p2, p3⟩ := app_row hO5 (c := 12) (HBr.out.ext hX5) (fun e => by cases e) (by rw [bv_len]; simp [bad2]; omega) hX5.size 22
      have hX6 : Ext w3 w6 := grown_ext p3 (HXB.out.trans hX5) (fun g hg => Nat.le_trans HXB.out.size (hO5.lt hg).1)
      rw [← bv_app] at p2
      have hwf6 : ∀ z ∈ own ++ bad2, (Lit.int .u8 z).wf = true := fun z hz => by
        rcases List.mem_append.1 hz with hz | hz
        · exact HWf.out z hz
        · exact (show ∀ z ∈ bad2, (Lit.int .u8 z).wf = true by decide) z hz
      obtain ⟨a6, c6, rfl, hr6, hp6⟩ := p2.row2 hwf6
      have hfar : ∀ ga o, a6 = some ⟨ga, o, none⟩ → ga ∉ foot w2.heap.size (.slice none 0 0) (.slice none 0 0) := fun ga o e => by
        subst e
        have h1 := (p2.lt (g := ga) rfl).1
        exact new_apart HD3.out (Nat.le_trans HXB.out.size h1)
      have hl6 : (own ++ bad2).length ≤ 5000 := by rw [List.length_append]; simp [bad2]; omega
      have HFd := Lib.hid (feed_any (HD3.out.ext hX6) (Inv.new 40 2) (by have := hX6.size; omega) (by omega) (by omega) a6 _ c6 _ hr6 hfar hl6)
      rw [HFe.out] at HFd
      have P1 := Lib.hid p1
      have HX6 := Lib.hid (HX3.out.trans hX6)
      clear hO5 p1 p2 p3 hr6 hp6 hfar hX6 hX5 hwf6
      generalize (own ++ bad2).length = l6 at *
      go_wp2_with (at_builtin; refine wpList_append_run rfl (.tmp 49) (.tmp 50) _ rfl _ _ _ ?_ ?_ P1.out ?_)
      · rfl
      · rfl
      with_reducible refine HFd.out.mono ?_
      rintro r w7 ⟨v7, rfl, vn7, vr7, hD7, hT7, hU7, hF7, _⟩
      have hX7 : Ext w2 w7 := hU7.ext HX6.out (fun k hk => (HD3.out.foot_low hk).1)
      have HD7 := Lib.hid hD7
      have HX7 := Lib.hid hX7
      have HSB := Lib.hid (sameBytes_own hT7.owns (HO7.out.ext (HX2.out.trans hX7)) (show yss.length ≤ 100000 by omega))
      clear hD7 hT7 hU7 hF7 hX7 HFd
      go_wp2_with fail
      with_reducible refine HSB.out.mono ?_
      rintro r w8 ⟨rfl, hX8⟩
      have HD8 := Lib.hid (HD7.out.ext hX8)
      have HX8 := Lib.hid (HX7.out.trans hX8)
      clear hX8 HSB HD7
      go_wp2_with fail
      refine (errno_any HD8.out).mono ?_
      rintro r wb ⟨rfl, rfl⟩
      go_wp2_with fail
      refine (held_any HD8.out (by simp) (by simp)).mono ?_
      rintro r w9 ⟨rfl, hX9⟩
      have HD9 := Lib.hid (HD8.out.ext hX9)
      have HX9 := Lib.hid (HX8.out.trans hX9)
      clear hX9 HD8
      go_wp2_with fail
      refine (clean_any HD9.out (by simp) (by simp)).mono ?_
      rintro r wb ⟨rfl, rfl⟩
      have HXw := Lib.hid (HX.out.trans (HX2.out.trans HX9.out))
      have HG2 := Lib.hid (good_any ma mn mc mss none 0 0 [] w9 (HMs.out.ext HXw.out) ⟨rfl, by omega, by unfold maxLen; omega, by simp, .inl rfl⟩)
      go_wp2_with fail
      refine HG2.out.mono ?_
      rintro r wg ⟨k1, k2, rfl, kss, ks, hK1, hkl, hk40, hK2, hkg, hXg⟩
      obtain ⟨sa, sc, rfl, hsr⟩ := hK2.rowI (fun z hz => by
        have := hkg z hz
        simp [Lit.wf, IntKind.min, IntKind.max, IntKind.signed, IntKind.bits]
        omega)
      have HAl := Lib.hid (all_good hK1 hkl hk40 hsr hkg)
      have HWf2 := Lib.hid (cat_wf (gs := ks) hK1.wf kss.length)
      have hln2 := own_row_len hkl hk40 hkg
      have HD10 := Lib.hid (HD9.out.ext hXg)
      have HXg := Lib.hid (HX9.out.trans hXg)
      have hslc := hsr.2.1
      have hscm := hsr.2.2.1
      unfold maxLen at hscm
      generalize catAll ks kss kss.length = next at *
      clear hK1 hk40 hK2 hkg hXg hsr HG2 HD9
      generalize ks.length = ksl at *
      go_wp2_with fail
      with_reducible refine HAl.out.mono ?_
      rintro r wn ⟨vx, rfl, hOx, hXn⟩
      obtain ⟨xa, xc, rfl, hxr, hxp⟩ := hOx.row2 HWf2.out
      have hfar : ∀ ga o, xa = some ⟨ga, o, none⟩ → ga ∉ foot w2.heap.size vn7 vr7 := fun ga o e => by
        subst e
        have h1 := (hOx.lt (g := ga) rfl).1
        exact new_apart HD10.out h1
      have HFd := Lib.hid (feed_any (HD10.out.ext hXn) (show Inv 40 2 ⟨2, [], [], 0, nd, en, 5⟩ by simp [Inv]) (by have := HXg.out.size; have := hXn.size; omega) (by omega) (by omega) xa _ xc _ hxr hfar (by omega))
      rw [feed_forget 40 2 next _ [] rfl] at HFd
      have HXn := Lib.hid (HXg.out.trans hXn)
      have HD11 := Lib.hid (HD10.out.ext hXn)
      have hxlc := hxr.2.1
      have hxcm := hxr.2.2.1
      unfold maxLen at hxcm
      clear hOx hXn hxr hxp hfar HAl HD10
      generalize next.length = nl at *
      go_wp2_with fail
      with_reducible refine HFd.out.mono ?_
      rintro r wz ⟨vz, rfl, vnz, vrz, hDz, hTz, hUz, hFz, _⟩
      obtain ⟨za, zc, rfl, _, _⟩ := hTz.owns.rows
      have hXz : Ext w2 wz := hUz.ext HXn.out (fun k hk => (HD11.out.foot_low hk).1)
      have HDz := Lib.hid hDz
      have HXz := Lib.hid hXz
      clear hDz hTz hUz hFz hXz HFd
      go_wp2_with fail
      refine (errno_any HDz.out).mono ?_
      rintro r wb ⟨rfl, rfl⟩
      go_wp2_with fail
      refine (held_any HDz.out (by simp) (by simp)).mono ?_
      rintro r wy ⟨rfl, hXy⟩
      have HXy := Lib.hid (HXz.out.trans hXy)
      clear hXy
      go_wp2_with fail
      refine (lives_any _).mono ?_
      rintro r wq ⟨rfl, hXq⟩
      have HXq := Lib.hid (HX.out.trans (HX2.out.trans (HXy.out.trans hXq)))
      clear hXq
      go_wp2_with fail
      go_ret
      exact ⟨rfl, HXq.out⟩
end Go.Proofs.Ytpgbocdcjlcelaa
