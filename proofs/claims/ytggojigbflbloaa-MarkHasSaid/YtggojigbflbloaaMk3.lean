/- A record's fragments: the plain list, and the walk of mark.Mark. -/
import Derived.Test.YtggojigbflbloaaMk1
import Derived.Test.YtggojigbflbloaaMk2
import Derived.Deep.RegionLaw
import Derived.Deep.AppendLies
import Derived.Deep.Upon
namespace Go.Proofs.Ytggojigbflbloaa
open Go.ChangeShapes Go.WideShapes Go.ChangeAt Go.RowKit

def hdr (n s i : Nat) : Int := szAt n s i + (if i + 1 = cnt n s then 2147483648 else 0)
def part (zs : List Int) (s i : Nat) : List Int := be4 (hdr zs.length s i) ++ ((zs.drop (i * s)).take (szAt zs.length s i))
def fr (zs : List Int) (s k : Nat) : List Int := (List.range k).flatMap (part zs s)
theorem fr_succ (zs : List Int) (s k : Nat) : fr zs s (k + 1) = (fr zs s k ++ be4 (hdr zs.length s k)) ++ ((zs.drop (k * s)).take (szAt zs.length s k)) := by simp [fr, List.range_succ, part, List.append_assoc]
theorem hdr_bd (n s i : Nat) (hn : n ≤ 4096) : 0 ≤ hdr n s i ∧ hdr n s i < 4294967296 := by
  have : szAt n s i ≤ n := by unfold szAt; omega
  unfold hdr
  split <;> omega
theorem fr_wf {zs : List Int} (hz : ∀ z ∈ zs, (Lit.int .u8 z).wf = true) (hn : zs.length ≤ 4096) (s k : Nat) : ∀ z ∈ fr zs s k, (Lit.int .u8 z).wf = true := by
  intro z hm
  simp only [fr, List.mem_flatMap, List.mem_range, part, List.mem_append] at hm
  obtain ⟨i, _, h | h⟩ := hm
  · have hb := hdr_bd zs.length s i hn
    exact be4_wf _ hb.1 hb.2 z h
  · exact hz z (List.mem_of_mem_drop (List.mem_of_mem_take h))
theorem fr_len (zs : List Int) (hn : zs.length ≤ 4096) (s k : Nat) : (fr zs s k).length ≤ k * 4100 := by
  induction k with
  | zero => simp [fr]
  | succ k ih =>
    rw [fr_succ]
    simp only [List.length_append, List.length_take, List.length_drop, be4, List.length_cons, List.length_nil]
    omega
theorem Owns.low {w : World} {base b' : Nat} {e : TypeId} {v : Value} {xs : List Value} (h : Owns w base e v xs) (hb : b' ≤ base) : Owns w b' e v xs := by
  refine ⟨h.1, ?_⟩
  rcases h.2 with hn | ⟨g, cap, cur, hv, hb2, rest⟩
  · exact .inl hn
  · exact .inr ⟨g, cap, cur, hv, by omega, rest⟩
/-- What came in is appended to a row of the call's own. -/
theorem app_row {w : World} {base : Nat} {v : Value} {xs : List Value} (h : Owns w base 5 v xs) {a : Option Addr} {len cap c : Nat} {ys : List Int} (hy : IsRow .u8 w a len cap ys) (ha : a = none → c = 0) (hl : xs.length + len ≤ 10000000) (hb : base ≤ w.heap.size) (ty : TypeId) :
    ∃ v' w', (Builtin.append_ #[28, 28] ty #[v, .slice a len c]).run Try.prog w = .ok v' w' ∧ Owns w' base 5 v' (xs ++ bv ys) ∧ w.grownBy w' v.ownBlock := by
  obtain ⟨i0, hi, hz0, hz1, hz2⟩ := info_parts infoU8
  rcases Nat.eq_zero_or_pos len with h0 | h0
  · have hz : ys = [] := List.eq_nil_of_length_eq_zero (by have := hy.1; omega)
    subst hz
    subst h0
    have hS : Src Try.prog i0.size 28 (.slice a 0 c) 0 [] w := by
      cases a with
      | none => exact Src.ofNil w Try.underlying28 c
      | some ad => exact Src.ofSlice w Try.underlying28 ad 0 c [] (by simp) (fun j u hj => by simp at hj) (by simp)
    have hv : ∃ A n cp, v = .slice A n cp ∧ n ≤ cp := by
      rcases h.form with ⟨hv, _⟩ | ⟨g, cp, cur, hv, _, hn, _⟩
      · exact ⟨_, _, _, hv, by omega⟩
      · exact ⟨_, _, _, hv, hn⟩
    obtain ⟨A, n, cp, rfl, hle⟩ := hv
    refine ⟨_, _, run_append_nothing w 28 28 ty 5 i0 Try.underlying28 hi A n cp hle _ hS, by simpa [bv] using h, ⟨rfl, rfl, rfl, Nat.le_refl _, fun _ _ _ => rfl⟩⟩
  · rcases hy.2.2.2.2 with hx | ⟨g, o, rfl, hc⟩
    · omega
    · obtain ⟨v', w', h1, h2, h3, _⟩ := run_append_own_at (P := Try.prog) w base 28 ty 5 i0 _ 1 1 Try.underlying28 hi hz0 hz1 hz2 rfl (by decide) v xs.length xs h ⟨g, o, none⟩ len c (bv ys) (by rw [bv_len, hy.1]; omega)
        (fun j u hj => by
          have hj' : j < ys.length := by have := (List.getElem?_eq_some_iff.1 hj).1; rwa [bv_len] at this
          rw [Go.WideShapes.add_plain, hc j (by have := hy.1; omega), ← hj]
          simp [bv, List.getD, List.getElem?_eq_getElem hj']) (by
          intro u hu
          obtain ⟨z, _, rfl⟩ := List.mem_map.1 hu
          rfl) (by unfold maxLen; omega) (by omega) hb
      refine ⟨v', w', h1, ?_, h3⟩
      unfold Owns
      rw [List.length_append, bv_len, hy.1]
      exact h2
theorem step_append_run {P : Program} {ops : Array Oper} {o : Oper} {a : Act} {w w' : World} {K : Act → World → Prop} {Q : Exit → Act → World → Prop} {E : Prop}
    (hg : o.guard = none) (s x : Operand) (ats : Array TypeId) (hop : o.op = Op.call { callee := Callee.builtin Builtin.append, args := #[s, x], argTypes := ats })
    (v y v' : Value) (hs : a.eval s = v) (hx : a.eval x = y) (hrun : (Builtin.append_ ats o.type #[v, y]).run P w = .ok v' w') (hK : K (a.put o.dst v') w') :
    if Region.wanted o (yielded ops a.tmps) = true then Oper.wp P o a w K Q else E := by
  have hw : Region.wanted o (yielded ops a.tmps) = true := by simp [Region.wanted, hg]
  rw [if_pos hw]
  unfold Oper.wp
  simp [execOp, hop, resolve, invoke, builtin, hs, hx, hrun, Result.andThen]
  exact hK
theorem vals_row {w : World} {n s k b : Nat} {v : Value} (h : Owns w b 3 v (vals n s k)) (hk0 : 1 ≤ k) : ∃ g cap, v = .slice (some ⟨g, 0, none⟩) k cap ∧ k ≤ cap ∧ cap ≤ maxLen ∧ g < w.heap.size ∧ ∀ i, i < k → w.cell? ⟨g, i, none⟩ = some (.int .i64 (szAt n s i)) := by
  rcases h.form with ⟨_, h0⟩ | ⟨g, cap, cur, hv, hb, hn, hm, hg, hs, ht⟩
  · have := congrArg List.length h0; rw [vals_len] at this; simp at this; omega
  · rw [vals_len] at hv hn
    refine ⟨g, cap, hv, hn, hm, lt_of_heap hg, fun i hi => ?_⟩
    obtain ⟨g', cap', hv', _, _, _, _, hc, _⟩ := h.cell (i := i) (by rw [vals_len]; exact hi)
    rw [vals_at] at hc
    rw [hv, vals_len] at hv'
    injection hv' with hv' _ _
    injection hv' with hv'
    injection hv' with hv' _ _
    rw [hv']
    exact hc

/-- What is left of a record, when its first k bytes are cut off. -/
theorem IsRow.cut {k : IntKind} {w : World} {g o len cap : Nat} {zs : List Int} (h : IsRow k w (some ⟨g, o, none⟩) len cap zs) {j : Nat} (hj : j ≤ len) (A : Option Addr) (hA : j < len → A = some ⟨g, o + j, none⟩) : IsRow k w A (len - j) (cap - j) (zs.drop j) := by
  obtain ⟨h1, h2, h3, h4, h5⟩ := h
  refine ⟨by rw [List.length_drop]; omega, by omega, by omega, fun z hz => h4 z (List.mem_of_mem_drop hz), ?_⟩
  rcases Nat.lt_or_ge j len with hlt | hge
  · right
    refine ⟨g, o + j, hA hlt, fun i hi => ?_⟩
    rcases h5 with h5 | ⟨g', o', e, hc⟩
    · omega
    · injection e with e
      injection e with e1 e2 _
      subst e1 e2
      rw [show o + j + i = o + (j + i) by omega, hc _ (by omega)]
      simp [List.getD, List.getElem?_drop]
  · left; omega
theorem IsRow.head {k : IntKind} {w : World} {a : Option Addr} {len cap : Nat} {zs : List Int} (h : IsRow k w a len cap zs) {j : Nat} (hj : j ≤ len) : IsRow k w a j cap (zs.take j) := by
  obtain ⟨h1, h2, h3, h4, h5⟩ := h
  refine ⟨by rw [List.length_take]; omega, by omega, h3, fun z hz => h4 z (List.mem_of_mem_take hz), ?_⟩
  rcases h5 with h5 | ⟨g, o, e, hc⟩
  · left; omega
  · right
    refine ⟨g, o, e, fun i hi => ?_⟩
    rw [hc i (by omega)]
    simp [List.getD, hi]

theorem u32_app {ws W : World} {u : Value} {xs ys : List Int} (hO : Owns W ws.heap.size 5 u (bv xs)) (hX : Ext ws W) (hw : ∀ z ∈ xs, (Lit.int .u8 z).wf = true) (hxl : xs.length ≤ 1000000) (n : Int) (hn0 : 0 ≤ n) (hn1 : n < 4294967296)
    {A : Option Addr} {k cap c : Nat} (hy : IsRow .u8 ws A k cap ys) (hA : A = none → c = 0) (hk : k ≤ 4096) :
    Calls Try.prog 24 #[u, .int .u32 n] W fun r w2 => ∃ v, r = .returned v ∧ ∃ v' w3, (Builtin.append_ #[28, 28] 28 #[v, .slice A k c]).run Try.prog w2 = .ok v' w3 ∧ Owns w3 ws.heap.size 5 v' (bv ((xs ++ be4 n) ++ ys)) ∧ Ext ws w3 := by
  refine (u32_own hO hw n hn0 hn1 hxl).mono ?_
  rintro r w2 ⟨v, rfl, h1, h2⟩
  have h1' := h1.low hX.size
  obtain ⟨v', w3, h3, h4, h5⟩ := app_row h1' (hy.ext (hX.trans h2)) hA (by rw [bv_len, List.length_append]; simp [be4]; omega) (Nat.le_trans hX.size h2.size) 28
  exact ⟨v, rfl, v', w3, h3, by rw [bv_app]; exact h4, grown_ext h5 (hX.trans h2) (fun g hg => (h1'.lt hg).1)⟩

theorem or_last (k : Nat) (hk : k ≤ 4096) : bits .or .u32 (k : Int) 2147483648 = (k : Int) + 2147483648 := by
  have h1 : bits .or .u32 (k : Int) 2147483648 = IntKind.u32.wrap ((BitVec.ofInt 32 (k : Int) ||| BitVec.ofInt 32 2147483648).toNat : Nat) := rfl
  have h2 : (BitVec.ofInt 32 (k : Int)).toNat = k := by rw [BitVec.toNat_ofInt]; simp; omega
  have h3 : (BitVec.ofInt 32 2147483648).toNat = 2147483648 := by decide
  have h4 : k ||| 2147483648 = 2147483648 + k := by
    have := Nat.two_pow_add_eq_or_of_lt (i := 31) (b := k) (by omega) 1
    rw [Nat.or_comm]
    simpa using this.symm
  rw [h1, BitVec.toNat_or, h2, h3, h4]
  simp [IntKind.wrap, IntKind.signed, IntKind.bits]
  omega

set_option maxRecDepth 100000 in
set_option maxHeartbeats 2000000 in
theorem mark_ok (a : Option Addr) (n cap : Nat) (zs : List Int) (s : Nat) (hs : 1 ≤ s) (hs2 : s ≤ 9223372036854775807) (hn : n ≤ 4096) (hc : cnt n s ≤ 64) (w : World) (h : IsRow .u8 w a n cap zs) (ha : (a = none ∧ cap = 0) ∨ ∃ g o, a = some ⟨g, o, none⟩) :
    Calls Try.prog 15 #[.slice a n cap, .int .i64 s] w fun r w' => ∃ v, r = .returned (.tuple #[v, .int .i64 0]) ∧ Owns w' w.heap.size 5 v (bv (fr zs s (cnt n s))) ∧ Ext w w' := by
  have hd1 : decide ((s : Int) < 1) = false := by simp; omega
  have hd2 : decide (4096 < (n : Int)) = false := by simp; omega
  have hd3 : decide (64 < (cnt n s : Int)) = false := by simp; omega
  have hcm := h.2.2.1
  have hlc := h.2.1
  have hcp := cnt_pos n s hs
  unfold maxLen at hcm
  have HNE := Lib.hid h.1
  have H := Lib.hid h
  clear h
  go_enter Try.func15, Try.ntmps15
  go_wp2_with fail
  refine (count_any n s hs (by omega) w).mono ?_
  rintro r wb ⟨rfl, rfl⟩
  go_wp2_with fail
  refine (sizes_any n s hs hs2 hn w).mono ?_
  rintro r ws ⟨vS, rfl, hvs, hxs⟩
  obtain ⟨gs, cs, rfl, hcs1, hcs2, hgs, hcell⟩ := vals_row hvs hcp
  unfold maxLen at hcs2
  have HS := Lib.hid hcell
  have HXS := Lib.hid hxs
  have H0 := Lib.hid (H.out.ext hxs)
  clear hvs hxs hcell
  go_wp2_with fail
  go_loopw [0, 6, 30] (fun v0 v6 v30 wr => ∃ (i cap' : Nat) (a' : Option Addr), i ≤ cnt n s ∧ v30 = .int .i64 i ∧ v0 = .slice a' (n - i * s) cap' ∧ IsRow .u8 ws a' (n - i * s) cap' (zs.drop (i * s)) ∧ ((a' = none ∧ cap' = 0) ∨ ∃ g o, a' = some ⟨g, o, none⟩) ∧ Owns wr ws.heap.size 5 v6 (bv (fr zs s i)) ∧ Ext ws wr) (fun _ _ v30 _ => cnt n s - (intOf v30).toNat)
  case atStart => exact ⟨0, cap, a, by omega, rfl, by simp, by simpa [HNE.out] using H0.out, ha, Owns.nil _ _ _, Ext.refl ws⟩
  case round =>
    obtain ⟨i, cap', a', hi, rfl, rfl, hR, ha', hO, hX⟩ := hrel
    have HR := Lib.hid hR
    have HO := Lib.hid hO
    have HX := Lib.hid hX
    clear hO hX hR
    by_cases hlt : i < cnt n s
    · have hd : decide (i < cnt n s) = true := by simpa using hlt
      have hi0 : (0 : Int) ≤ (i : Int) := by omega
      have hi1 : (i : Int) < (cnt n s : Int) := by omega
      have q0 := HX.out.cell (HS.out i hlt)
      have hgr : gs < wr.heap.size := Nat.lt_of_lt_of_le hgs HX.out.size
      have HF := Lib.hid (fr_succ zs s i)
      have hkm : szAt n s i ≤ n - i * s := by unfold szAt; omega
      have HM := Lib.hid (show n - i * s - szAt n s i = n - (i + 1) * s by unfold szAt; rw [Nat.add_mul]; omega)
      have HD := Lib.hid (show (zs.drop (i * s)).drop (szAt n s i) = zs.drop ((i + 1) * s) by
        rw [List.drop_drop]
        by_cases hls : s ≤ n - i * s
        · congr 1; unfold szAt; rw [Nat.add_mul]; omega
        · have hl := HNE.out
          rw [List.drop_eq_nil_of_le (by unfold szAt; omega), List.drop_eq_nil_of_le (by rw [Nat.add_mul]; omega)])
      have HC := Lib.hid (show ∀ W, Ext wr W → Calls Try.prog 24 #[_, .int .u32 (hdr n s i)] W fun r w2 => ∃ v, r = .returned v ∧ ∃ v' w3, (Builtin.append_ #[28, 28] 28 #[v, .slice a' (szAt n s i) cap']).run Try.prog w2 = .ok v' w3 ∧ Owns w3 ws.heap.size 5 v' (bv (fr zs s (i + 1))) ∧ Ext ws w3 from
        fun W hW => by
          have hz : ∀ z ∈ zs, (Lit.int .u8 z).wf = true := H.out.2.2.2.1
          have hl : zs.length ≤ 4096 := by rw [HNE.out]; exact hn
          have hb := hdr_bd n s i hn
          rw [HF.out, HNE.out]
          exact u32_app (HO.out.ext hW) (HX.out.trans hW) (fr_wf hz hl s i) (by have := fr_len zs hl s i; omega) _ hb.1 hb.2 (HR.out.head hkm) (fun e => by rcases ha' with ⟨_, h⟩ | ⟨g, o, h⟩; exact h; rw [h] at e; cases e) (by omega))
      have hle : n - i * s ≤ 4096 := by omega
      have HHD := Lib.hid (show hdr n s i = szAt n s i + (if i + 1 = cnt n s then 2147483648 else 0) from rfl)
      generalize szAt n s i = k at *
      generalize n - i * s = m at *
      have hor := or_last k (by omega)
      by_cases hlast : i + 1 = cnt n s
      · have hdl : ((i : Int) == (cnt n s : Int) - 1) = true := by simp; omega
        rw [HHD.out, if_pos hlast] at HC
        rcases ha' with ⟨rfl, rfl⟩ | ⟨g, o, rfl⟩
        · have hm0 : m = 0 := by have := HR.out.2.1; omega
          have hk0 : k = 0 := by omega
          subst hm0 hk0
          go_wp2_with fail
          go_region_law (first | (refine step_append_run rfl (.tmp 48) (.tmp 51) _ rfl _ _ _ rfl rfl (by assumption) ?_) | (go_simp; go_at_call 24; refine (HC.out _ (by first | exact (Ext.refl _).drew | exact Ext.refl _)).mono ?_; rintro r w2 ⟨v, rfl, v', w3, h1, h2, h3⟩))
          all_goals
            have H1 := Lib.hid h1
            have H2 := Lib.hid h2
            have H3 := Lib.hid h3
            clear h1 h2 h3
            go_wp2_with fail
            go_roundw
            case rel => exact ⟨i + 1, 0, none, by omega, by go_num, by rw [← HM.out], by rw [← HM.out, ← HD.out]; exact HR.out, .inl ⟨rfl, rfl⟩, H2.out, H3.out⟩
            case measure => simp [intOf]; omega
        · have hmc := HR.out.2.1
          have hcx := HR.out.2.2.1
          unfold maxLen at hcx
          have hkc : k ≤ cap' := by omega
          go_wp2_with fail
          go_region_law (first | (refine step_append_run rfl (.tmp 48) (.tmp 51) _ rfl _ _ _ rfl rfl (by assumption) ?_) | (go_simp; go_at_call 24; refine (HC.out _ (by first | exact (Ext.refl _).drew | exact Ext.refl _)).mono ?_; rintro r w2 ⟨v, rfl, v', w3, h1, h2, h3⟩))
          all_goals
            have H1 := Lib.hid h1
            have H2 := Lib.hid h2
            have H3 := Lib.hid h3
            clear h1 h2 h3
            go_wp2_with fail
            go_roundw
            case rel => exact ⟨i + 1, cap' - k, _, by omega, by go_num, by rw [← HM.out], by rw [← HM.out, ← HD.out]; exact HR.out.cut hkm _ (fun hlt => if_neg (by omega)), by by_cases e : cap' = k; exact .inr ⟨g, o, if_pos e⟩; exact .inr ⟨g, o + k, if_neg e⟩, H2.out, H3.out⟩
            case measure => simp [intOf]; omega
      · have hdl : ((i : Int) == (cnt n s : Int) - 1) = false := by simp; omega
        rw [HHD.out, if_neg hlast, Int.add_zero] at HC
        rcases ha' with ⟨rfl, rfl⟩ | ⟨g, o, rfl⟩
        · have hm0 : m = 0 := by have := HR.out.2.1; omega
          have hk0 : k = 0 := by omega
          subst hm0 hk0
          go_wp2_with fail
          go_region_law (first | (refine step_append_run rfl (.tmp 48) (.tmp 51) _ rfl _ _ _ rfl rfl (by assumption) ?_) | (go_simp; go_at_call 24; refine (HC.out _ (by first | exact (Ext.refl _).drew | exact Ext.refl _)).mono ?_; rintro r w2 ⟨v, rfl, v', w3, h1, h2, h3⟩))
          all_goals
            have H1 := Lib.hid h1
            have H2 := Lib.hid h2
            have H3 := Lib.hid h3
            clear h1 h2 h3
            go_wp2_with fail
            go_roundw
            case rel => exact ⟨i + 1, 0, none, by omega, by go_num, by rw [← HM.out], by rw [← HM.out, ← HD.out]; exact HR.out, .inl ⟨rfl, rfl⟩, H2.out, H3.out⟩
            case measure => simp [intOf]; omega
        · have hmc := HR.out.2.1
          have hcx := HR.out.2.2.1
          unfold maxLen at hcx
          have hkc : k ≤ cap' := by omega
          go_wp2_with fail
          go_region_law (first | (refine step_append_run rfl (.tmp 48) (.tmp 51) _ rfl _ _ _ rfl rfl (by assumption) ?_) | (go_simp; go_at_call 24; refine (HC.out _ (by first | exact (Ext.refl _).drew | exact Ext.refl _)).mono ?_; rintro r w2 ⟨v, rfl, v', w3, h1, h2, h3⟩))
          all_goals
            have H1 := Lib.hid h1
            have H2 := Lib.hid h2
            have H3 := Lib.hid h3
            clear h1 h2 h3
            go_wp2_with fail
            go_roundw
            case rel => exact ⟨i + 1, cap' - k, _, by omega, by go_num, by rw [← HM.out], by rw [← HM.out, ← HD.out]; exact HR.out.cut hkm _ (fun hlt => if_neg (by omega)), by by_cases e : cap' = k; exact .inr ⟨g, o, if_pos e⟩; exact .inr ⟨g, o + k, if_neg e⟩, H2.out, H3.out⟩
            case measure => simp [intOf]; omega
    · have hd : decide (i < cnt n s) = false := by simpa using hlt
      obtain rfl : i = cnt n s := by omega
      go_wp2_with fail
      refine bodyPost_ret (v := .tuple #[_, .int .i64 0]) (by simp [results, Try.results15, go_sem]) rfl ⟨_, rfl, HO.out.low HXS.out.size, HXS.out.trans HX.out⟩
end Go.Proofs.Ytggojigbflbloaa
