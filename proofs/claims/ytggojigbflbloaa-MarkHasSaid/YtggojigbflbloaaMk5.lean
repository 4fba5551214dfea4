/- A record's fragments or the error: the plain answer; mark.Mark and the document's Mark give it. -/
import Derived.Test.YtggojigbflbloaaMk4
namespace Go.Proofs.Ytggojigbflbloaa
open Go.ChangeShapes Go.WideShapes Go.ChangeAt Go.RowKit

/-- The bytes and the error's number. -/
def ans (zs : List Int) (size : Int) : List Int × Int :=
  if size < 1 then ([], 1) else if 4096 < zs.length then ([], 4) else if 64 < cnt zs.length size.toNat then ([], 5) else (fr zs size.toNat (cnt zs.length size.toNat), 0)
/-- The address is none or a plain one. -/
def Plain (a : Option Addr) (cap : Nat) : Prop := (a = none ∧ cap = 0) ∨ ∃ g o, a = some ⟨g, o, none⟩

section
variable (a : Option Addr) (n cap : Nat) (zs : List Int) (size : Int) (w : World)
theorem mark_any (h : IsRow .u8 w a n cap zs) (ha : Plain a cap) (hs : size ≤ 9223372036854775807) :
    Calls Try.prog 15 #[.slice a n cap, .int .i64 size] w fun r w' => ∃ v, r = .returned (.tuple #[v, .int .i64 (ans zs size).2]) ∧ Owns w' w.heap.size 5 v (bv (ans zs size).1) ∧ Ext w w' := by
  have hl := h.1
  have hcm := h.2.2.1
  have hlc := h.2.1
  unfold maxLen at hcm
  by_cases h1 : size < 1
  · have e : ans zs size = ([], 1) := by unfold ans; rw [if_pos h1]
    have HE := Lib.hid e
    have hd : decide (size < 1) = true := by simpa using h1
    clear h e ha
    rw [HE.out]
    go_enter Try.func15, Try.ntmps15
    go_wp2
    refine bodyPost_ret (v := .tuple #[.slice none 0 0, .int .i64 1]) (by simp [results, Try.results15, go_sem]) rfl ⟨_, rfl, Owns.nil _ _ _, Ext.refl w⟩
  · have hd : decide (size < 1) = false := by simpa using h1
    by_cases h2 : 4096 < n
    · have e : ans zs size = ([], 4) := by unfold ans; rw [if_neg h1, if_pos (by omega)]
      have HE := Lib.hid e
      have hd2 : decide (4096 < (n : Int)) = true := by simp; omega
      clear h e ha
      rw [HE.out]
      go_enter Try.func15, Try.ntmps15
      go_wp2
      refine bodyPost_ret (v := .tuple #[.slice none 0 0, .int .i64 4]) (by simp [results, Try.results15, go_sem]) rfl ⟨_, rfl, Owns.nil _ _ _, Ext.refl w⟩
    · have hd2 : decide (4096 < (n : Int)) = false := by simp; omega
      obtain ⟨s, rfl⟩ := Int.eq_ofNat_of_zero_le (show 0 ≤ size by omega)
      by_cases h3 : 64 < cnt n s
      · have e : ans zs (s : Int) = ([], 5) := by unfold ans; rw [if_neg h1, if_neg (by omega), if_pos (by rw [hl, Int.toNat_natCast]; exact h3)]
        have HE := Lib.hid e
        have hd3 : decide (64 < (cnt n s : Int)) = true := by simp; omega
        clear h e ha
        rw [HE.out]
        go_enter Try.func15, Try.ntmps15
        go_wp2_with fail
        refine (count_any n s (by omega) (by omega) w).mono ?_
        rintro r wb ⟨rfl, rfl⟩
        go_wp2
        refine bodyPost_ret (v := .tuple #[.slice none 0 0, .int .i64 5]) (by simp [results, Try.results15, go_sem]) rfl ⟨_, rfl, Owns.nil _ _ _, Ext.refl w⟩
      · have e : ans zs (s : Int) = (fr zs s (cnt n s), 0) := by unfold ans; rw [if_neg h1, if_neg (by omega), if_neg (by rw [hl, Int.toNat_natCast]; exact h3), hl, Int.toNat_natCast]
        rw [e]
        exact mark_ok a n cap zs s (by omega) (by omega) (by omega) (by omega) w h ha
end

theorem refU32_any (n : Int) (hn0 : 0 ≤ n) (hn1 : n < 4294967296) (w : World) :
    Calls Try.prog 25 #[.int .u32 n] w fun r w' => r = .returned (.slice (some ⟨w.heap.size, 0, none⟩) 4 4) ∧ w' = w.alloc (.cells #[.int .u8 (n / 16777216), .int .u8 (n / 65536 % 256), .int .u8 (n / 256 % 256), .int .u8 (n % 256)] 5) := by
  go_enter Try.func25, Try.ntmps25
  go_wp2
  go_ret
  exact ⟨rfl, rfl⟩
theorem be4_row (n : Int) (hn0 : 0 ≤ n) (hn1 : n < 4294967296) (w : World) : IsRow .u8 (w.alloc (.cells #[.int .u8 (n / 16777216), .int .u8 (n / 65536 % 256), .int .u8 (n / 256 % 256), .int .u8 (n % 256)] 5)) (some ⟨w.heap.size, 0, none⟩) 4 4 (be4 n) := by
  refine ⟨rfl, by omega, by unfold maxLen; omega, be4_wf n hn0 hn1, .inr ⟨w.heap.size, 0, rfl, fun i hi => ?_⟩⟩
  match i, hi with
  | 0, _ => (simp only [World.cell?, heap_alloc_new]; rfl)
  | 1, _ => (simp only [World.cell?, heap_alloc_new]; rfl)
  | 2, _ => (simp only [World.cell?, heap_alloc_new]; rfl)
  | 3, _ => (simp only [World.cell?, heap_alloc_new]; rfl)

set_option maxRecDepth 100000 in
set_option maxHeartbeats 2000000 in
theorem refMark_ok (a : Option Addr) (n cap : Nat) (zs : List Int) (s : Nat) (hs : 1 ≤ s) (hs2 : s ≤ 9223372036854775807) (hn : n ≤ 4096) (hc : cnt n s ≤ 64) (w : World) (h : IsRow .u8 w a n cap zs) (ha : Plain a cap) :
    Calls Try.prog 16 #[.slice a n cap, .int .i64 s] w fun r w' => ∃ v, r = .returned (.tuple #[v, .int .i64 0]) ∧ Owns w' w.heap.size 5 v (bv (fr zs s (cnt n s))) ∧ Ext w w' := by
  have hd1 : decide ((s : Int) < 1) = false := by simp; omega
  have hd2 : decide (4096 < (n : Int)) = false := by simp; omega
  have hd3 : decide (64 < (cnt n s : Int)) = false := by simp; omega
  have hcm := h.2.2.1
  have hlc := h.2.1
  have hcp := cnt_pos n s hs
  unfold maxLen at hcm
  have HNE := Lib.hid h.1
  have H := Lib.hid h
  clear h
  go_enter Try.func16, Try.ntmps16
  go_wp2_with fail
  refine (refSizes_any n s hs hs2 hn w).mono ?_
  rintro r ws ⟨vS, rfl, hvs, hxs⟩
  obtain ⟨gs, cs, rfl, hcs1, hcs2, hgs, hcell⟩ := vals_row hvs hcp
  unfold maxLen at hcs2
  have HS := Lib.hid hcell
  have HXS := Lib.hid hxs
  have H0 := Lib.hid (H.out.ext hxs)
  clear hvs hxs hcell
  go_wp2_with fail
  go_loopw [7, 8, 9] (fun v7 v8 v9 wr => ∃ i : Nat, i ≤ cnt n s ∧ v9 = .int .i64 i ∧ v8 = .int .i64 ((min n (i * s) : Nat) : Int) ∧ Owns wr ws.heap.size 5 v7 (bv (fr zs s i)) ∧ Ext ws wr) (fun _ _ v9 _ => cnt n s - (intOf v9).toNat)
  case atStart => exact ⟨0, by omega, rfl, by simp, Owns.nil _ _ _, Ext.refl ws⟩
  case round =>
    obtain ⟨i, hi, rfl, rfl, hO, hX⟩ := hrel
    have HO := Lib.hid hO
    have HX := Lib.hid hX
    clear hO hX
    by_cases hlt : i < cnt n s
    · have hd : decide (i < cnt n s) = true := by simpa using hlt
      have hi0 : (0 : Int) ≤ (i : Int) := by omega
      have hi1 : (i : Int) < (cnt n s : Int) := by omega
      have q0 := HX.out.cell (HS.out i hlt)
      have hgr : gs < wr.heap.size := Nat.lt_of_lt_of_le hgs HX.out.size
      have HF := Lib.hid (fr_succ zs s i)
      have hti : i * s ≤ n := by rcases (cnt_iff n s i hs).1 hlt with h | h; (subst h; omega); omega
      have hkm : szAt n s i ≤ n - i * s := by unfold szAt; omega
      have hb := hdr_bd n s i hn
      have HST := Lib.hid (sum_step n s i)
      have hmin : min n (i * s) = i * s := by omega
      rw [hmin] at HST
      rw [hmin]
      have hz : ∀ z ∈ zs, (Lit.int .u8 z).wf = true := H.out.2.2.2.1
      have hl : zs.length ≤ 4096 := by rw [HNE.out]; exact hn
      have hfl := fr_len zs hl s i
      rw [HNE.out] at HF
      have hR2 : ∃ A, (A = if cap = i * s then a else a.map fun ad => ⟨ad.block, ad.off + i * s, none⟩) ∧ IsRow .u8 ws A (szAt n s i) (cap - i * s) ((zs.drop (i * s)).take (szAt n s i)) ∧ (A = none → cap - i * s = 0) := by
        refine ⟨_, rfl, ?_, ?_⟩
        · rcases ha with ⟨rfl, rfl⟩ | ⟨g, o, rfl⟩
          · have hn0 : n = 0 := by omega
            have hz0 : zs = [] := List.eq_nil_of_length_eq_zero (by rw [HNE.out]; exact hn0)
            have hk0 : szAt n s i = 0 := by omega
            rw [hk0, hz0]
            simp
            exact ⟨rfl, by omega, by unfold maxLen; omega, by simp, .inl rfl⟩
          · exact (H0.out.cut hti _ (fun hlt => by rw [if_neg (by omega)]; rfl)).head hkm
        · rcases ha with ⟨rfl, rfl⟩ | ⟨g, o, rfl⟩
          · intro _; omega
          · intro e
            split at e <;> simp at e
      obtain ⟨A, hAE, hA1, hA2⟩ := hR2
      have HAE := Lib.hid hAE
      have HA1 := Lib.hid hA1
      have HA2 := Lib.hid hA2
      clear hAE hA1 hA2
      have HPost := Lib.hid (show ∀ w2, w2 = wr.alloc (.cells #[.int .u8 (hdr n s i / 16777216), .int .u8 (hdr n s i / 65536 % 256), .int .u8 (hdr n s i / 256 % 256), .int .u8 (hdr n s i % 256)] 5) →
          ∃ v' w3 v'' w4, (Builtin.append_ #[28, 28] 28 #[_, .slice (some ⟨wr.heap.size, 0, none⟩) 4 4]).run Try.prog w2 = .ok v' w3 ∧ Ext ws w3 ∧ (Builtin.append_ #[28, 28] 28 #[v', .slice A (szAt n s i) (cap - i * s)]).run Try.prog w3 = .ok v'' w4 ∧ Owns w4 ws.heap.size 5 v'' (bv (fr zs s (i + 1))) ∧ Ext ws w4 from by
        rintro w2 rfl
        have hx2 : Ext wr (wr.alloc (.cells #[.int .u8 (hdr n s i / 16777216), .int .u8 (hdr n s i / 65536 % 256), .int .u8 (hdr n s i / 256 % 256), .int .u8 (hdr n s i % 256)] 5)) := (Ext.refl wr).alloc _
        obtain ⟨v', w3, h1, h2, h3⟩ := app_row (c := 4) (HO.out.ext hx2) (be4_row (hdr n s i) hb.1 hb.2 wr) (fun e => by cases e) (by rw [bv_len]; omega) (Nat.le_trans HX.out.size hx2.size) 28
        have x3 : Ext ws w3 := grown_ext h3 (HX.out.trans hx2) (fun g hg => (HO.out.lt hg).1)
        obtain ⟨v'', w4, h4, h5, h6⟩ := app_row (c := cap - i * s) h2 (HA1.out.ext x3) HA2.out (by rw [List.length_append, bv_len, bv_len]; simp [be4]; omega) x3.size 28
        refine ⟨v', w3, v'', w4, h1, x3, h4, ?_, grown_ext h6 x3 (fun g hg => (h2.lt hg).1)⟩
        rw [HF.out, bv_app, bv_app]
        exact h5)
      have HHD := Lib.hid (show hdr n s i = szAt n s i + (if i + 1 = cnt n s then 2147483648 else 0) from rfl)
      have HB := Lib.hid hb
      have HSi := Lib.hid (HS.out i hlt)
      clear hb hz hl hfl hmin
      generalize szAt n s i = k at *
      generalize i * s = t at *
      have hk4 : k ≤ 4096 := by omega
      by_cases hlast : i + 1 = cnt n s
      · have hdl : ((i : Int) == (cnt n s : Int) - 1) = true := by simp; omega
        have hE : hdr n s i = (k : Int) + 2147483648 := by rw [HHD.out, if_pos hlast]
        have hb' : 0 ≤ (k : Int) + 2147483648 ∧ (k : Int) + 2147483648 < 4294967296 := by omega
        rw [hE] at HPost
        clear hE
        go_wp2_with fail
        refine (refU32_any _ hb'.1 hb'.2 _).mono ?_
        rintro r w2 ⟨rfl, h2⟩
        obtain ⟨v', w3, v'', w4, p1, p2, p3, p4, p5⟩ := HPost.out w2 h2
        have P1 := Lib.hid p1
        have P3 := Lib.hid p3
        have P4 := Lib.hid p4
        have P5 := Lib.hid p5
        have c3 := p2.cell HSi.out
        have c4 := p5.cell HSi.out
        have z3 : gs < w3.heap.size := Nat.lt_of_lt_of_le hgs p2.size
        have z4 : gs < w4.heap.size := Nat.lt_of_lt_of_le hgs p5.size
        clear p1 p2 p3 p4 p5 HPost h2 q0
        rcases ha with ⟨rfl, hcap⟩ | ⟨g, o, rfl⟩
        · have hA : A = none := by have := HAE.out; simpa using this
          subst hA
          have hc0 : cap ≤ 0 := by omega
          have b1 : t + k ≤ cap := by omega
          have b2 : t ≤ t + k := by omega
          clear hcap
          go_wp2_with (first | (at_builtin; refine wpList_append_run rfl (.tmp 41) (.tmp 43) _ rfl _ _ _ rfl rfl P1.out ?_) | (at_builtin; refine wpList_append_run rfl (.tmp 45) (.tmp 54) _ rfl _ _ _ rfl ?_ P3.out ?_))
          · go_simp <;> omega
          · go_roundw
            case rel => exact ⟨i + 1, by omega, by go_num, by rw [← HST.out]; go_num, P4.out, P5.out⟩
            case measure => simp [intOf]; omega
        · have hA := HAE.out
          simp only [Option.map_some] at hA
          subst hA
          have b1 : t + k ≤ cap := by omega
          have b2 : t ≤ t + k := by omega
          by_cases hct : cap = t
          · subst hct
            rw [if_pos rfl, Nat.sub_self] at P3
            go_wp2_with (first | (at_builtin; refine wpList_append_run rfl (.tmp 41) (.tmp 43) _ rfl _ _ _ rfl rfl P1.out ?_) | (at_builtin; refine wpList_append_run rfl (.tmp 45) (.tmp 54) _ rfl _ _ _ rfl ?_ P3.out ?_))
            · go_simp <;> omega
            · go_roundw
              case rel => exact ⟨i + 1, by omega, by go_num, by rw [← HST.out]; go_num, P4.out, P5.out⟩
              case measure => simp [intOf]; omega
          · rw [if_neg hct] at P3
            go_wp2_with (first | (at_builtin; refine wpList_append_run rfl (.tmp 41) (.tmp 43) _ rfl _ _ _ rfl rfl P1.out ?_) | (at_builtin; refine wpList_append_run rfl (.tmp 45) (.tmp 54) _ rfl _ _ _ rfl ?_ P3.out ?_))
            · go_simp <;> omega
            · go_roundw
              case rel => exact ⟨i + 1, by omega, by go_num, by rw [← HST.out]; go_num, P4.out, P5.out⟩
              case measure => simp [intOf]; omega
      · have hdl : ((i : Int) == (cnt n s : Int) - 1) = false := by simp; omega
        have hE : hdr n s i = (k : Int) := by rw [HHD.out, if_neg hlast, Int.add_zero]
        have hb' : 0 ≤ (k : Int) ∧ (k : Int) < 4294967296 := by omega
        rw [hE] at HPost
        clear hE
        go_wp2_with fail
        refine (refU32_any _ hb'.1 hb'.2 _).mono ?_
        rintro r w2 ⟨rfl, h2⟩
        obtain ⟨v', w3, v'', w4, p1, p2, p3, p4, p5⟩ := HPost.out w2 h2
        have P1 := Lib.hid p1
        have P3 := Lib.hid p3
        have P4 := Lib.hid p4
        have P5 := Lib.hid p5
        have c3 := p2.cell HSi.out
        have c4 := p5.cell HSi.out
        have z3 : gs < w3.heap.size := Nat.lt_of_lt_of_le hgs p2.size
        have z4 : gs < w4.heap.size := Nat.lt_of_lt_of_le hgs p5.size
        clear p1 p2 p3 p4 p5 HPost h2 q0
        rcases ha with ⟨rfl, hcap⟩ | ⟨g, o, rfl⟩
        · have hA : A = none := by have := HAE.out; simpa using this
          subst hA
          have hc0 : cap ≤ 0 := by omega
          have b1 : t + k ≤ cap := by omega
          have b2 : t ≤ t + k := by omega
          clear hcap
          go_wp2_with (first | (at_builtin; refine wpList_append_run rfl (.tmp 41) (.tmp 43) _ rfl _ _ _ rfl rfl P1.out ?_) | (at_builtin; refine wpList_append_run rfl (.tmp 45) (.tmp 54) _ rfl _ _ _ rfl ?_ P3.out ?_))
          · go_simp <;> omega
          · go_roundw
            case rel => exact ⟨i + 1, by omega, by go_num, by rw [← HST.out]; go_num, P4.out, P5.out⟩
            case measure => simp [intOf]; omega
        · have hA := HAE.out
          simp only [Option.map_some] at hA
          subst hA
          have b1 : t + k ≤ cap := by omega
          have b2 : t ≤ t + k := by omega
          by_cases hct : cap = t
          · subst hct
            rw [if_pos rfl, Nat.sub_self] at P3
            go_wp2_with (first | (at_builtin; refine wpList_append_run rfl (.tmp 41) (.tmp 43) _ rfl _ _ _ rfl rfl P1.out ?_) | (at_builtin; refine wpList_append_run rfl (.tmp 45) (.tmp 54) _ rfl _ _ _ rfl ?_ P3.out ?_))
            · go_simp <;> omega
            · go_roundw
              case rel => exact ⟨i + 1, by omega, by go_num, by rw [← HST.out]; go_num, P4.out, P5.out⟩
              case measure => simp [intOf]; omega
          · rw [if_neg hct] at P3
            go_wp2_with (first | (at_builtin; refine wpList_append_run rfl (.tmp 41) (.tmp 43) _ rfl _ _ _ rfl rfl P1.out ?_) | (at_builtin; refine wpList_append_run rfl (.tmp 45) (.tmp 54) _ rfl _ _ _ rfl ?_ P3.out ?_))
            · go_simp <;> omega
            · go_roundw
              case rel => exact ⟨i + 1, by omega, by go_num, by rw [← HST.out]; go_num, P4.out, P5.out⟩
              case measure => simp [intOf]; omega
    · have hd : decide (i < cnt n s) = false := by simpa using hlt
      obtain rfl : i = cnt n s := by omega
      go_wp2_with fail
      refine bodyPost_ret (v := .tuple #[_, .int .i64 0]) (by simp [results, Try.results16, go_sem]) rfl ⟨_, rfl, HO.out.low HXS.out.size, HXS.out.trans HX.out⟩
end Go.Proofs.Ytggojigbflbloaa
