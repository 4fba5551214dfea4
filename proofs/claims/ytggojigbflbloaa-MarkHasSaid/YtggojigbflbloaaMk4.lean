/- Bytes as strings; the walks of lives and of the law MarkSizes. -/
import Derived.Test.YtggojigbflbloaaMk3
import Derived.Laws.BytesArg
import Derived.Lib.SlBytesConst
namespace Go.Proofs.Ytggojigbflbloaa
open Go.ChangeShapes Go.WideShapes Go.ChangeAt Go.RowKit

theorem around_any (n m : Int) (w : World) (hm : 0 < m) (hn : -9223372036854775808 ≤ n) (hn2 : n ≤ 9223372036854775807) :
    Calls Try.prog 9 #[.int .i64 n, .int .i64 m] w fun r w' => r = .returned (.int .i64 (arnd n m)) ∧ w = w' := by
  by_cases h : n < 0
  · have H := Lib.hid (arnd_neg n m h)
    go_enter Try.func9, Try.ntmps9
    go_wp2
    go_ret
    exact ⟨ret_int H.out.symm, rfl⟩
  · have H := Lib.hid (arnd_pos n m h)
    go_enter Try.func9, Try.ntmps9
    go_wp2
    go_ret
    exact ⟨ret_int H.out.symm, rfl⟩
/-- The same, its answer a natural number. -/
theorem around_nat (n : Int) (m : Nat) (hm : 0 < m) (hw : (Lit.int .i64 n).wf = true) : ∃ k : Nat, k < m ∧ ∀ W, Calls Try.prog 9 #[.int .i64 n, .int .i64 m] W fun r w' => r = .returned (.int .i64 k) ∧ W = w' := by
  have hn : -9223372036854775808 ≤ n ∧ n ≤ 9223372036854775807 := by simpa [Lit.wf, IntKind.min, IntKind.max, IntKind.signed, IntKind.bits] using hw
  have hab := arnd_bd n m (by omega)
  obtain ⟨k, hk⟩ := Int.eq_ofNat_of_zero_le hab.1
  exact ⟨k, by omega, fun W => (around_any n m W (by omega) hn.1 hn.2).mono fun r w' h => by rw [← hk]; exact h⟩
/-- A row of the call's own as a string. -/
theorem Owns.str {w : World} {base : Nat} {e : TypeId} {v : Value} {zs : List Int} (h : Owns w base e v (bv zs)) : (convert 28 9 v).run Try.prog w = .ok (.string (strOfNums zs)) w := by
  rcases h.form with ⟨rfl, h0⟩ | ⟨g, cap, cur, rfl, hb, hn, hm, hg, hs, ht⟩
  · have hz : zs = [] := by simpa [bv] using h0
    subst hz
    exact run_convert_bytes_nil w 28 5 Try.underlying28 Try.underlying5 0 0 9 Try.underlying9
  · rw [bv_len] at ht ⊢
    refine run_convert_bytes_arg w 28 5 Try.underlying28 Try.underlying5 g 0 zs.length cap zs rfl (fun i hi => ?_) 9 Try.underlying9
    have h1 : (cur.toList.take zs.length)[i]? = cur[i]? := by rw [List.getElem?_take, if_pos hi]; simp
    rw [Nat.zero_add, cell_of hg i, ← h1, ht]
    simp [bv, List.getD, List.getElem?_eq_getElem hi]

theorem abc : strOfNums (fr [97, 98, 99] 2 (cnt 3 2)) = ⟨#[0, 0, 0, 2, 97, 98, 128, 0, 0, 1, 99]⟩ := by rfl
set_option maxHeartbeats 1000000 in
theorem lives_any (w : World) : Calls Try.prog 13 #[] w fun r w' => r = .returned (.bool true) ∧ Ext w w' := by
  have hrow : IsRow .u8 (w.alloc (.cells #[.int .u8 97, .int .u8 98, .int .u8 99] 5 (3, 4))) (some ⟨w.heap.size, 0, none⟩) 3 3 [97, 98, 99] := by
    refine ⟨rfl, by omega, by unfold maxLen; omega, by decide, .inr ⟨w.heap.size, 0, rfl, fun i hi => ?_⟩⟩
    match i, hi with
    | 0, _ => (simp only [World.cell?, heap_alloc_new]; rfl)
    | 1, _ => (simp only [World.cell?, heap_alloc_new]; rfl)
    | 2, _ => (simp only [World.cell?, heap_alloc_new]; rfl)
  have HR := Lib.hid hrow
  clear hrow
  have hcv := Go.Lib.run_convert_bytes_const (P := Try.prog) w 28 5 #[.int .u8 97, .int .u8 98, .int .u8 99] 3 3 Try.underlying28 Try.underlying5
  go_enter Try.func13, Try.ntmps13
  go_wp2_with fail
  refine (mark_ok _ 3 3 [97, 98, 99] 2 (by omega) (by omega) (by omega) (by decide) _ HR.out (.inr ⟨_, _, rfl⟩)).mono ?_
  rintro r w1 ⟨v, rfl, hO, hx⟩
  have hs := hO.str
  rw [abc] at hs
  have X := Lib.hid (((Ext.refl w).alloc _).trans hx)
  clear hO hx
  go_wp2_with fail
  go_ret
  exact ⟨rfl, X.out⟩

/-- The sum of the first i sizes. -/
theorem sum_step (n s i : Nat) : min n (i * s) + szAt n s i = min n ((i + 1) * s) := by unfold szAt; rw [Nat.add_mul]; omega
theorem sum_all (n s : Nat) (hs : 1 ≤ s) : min n (cnt n s * s) = n := by
  have h := cnt_iff n s (cnt n s) hs
  have h0 := cnt_pos n s hs
  have : ¬ cnt n s * s < n := fun h1 => by have := h.2 (.inr h1); omega
  omega

set_option maxRecDepth 100000 in
set_option maxHeartbeats 2000000 in
theorem markSizes_walk (n : Int) (w0 : (Lit.int .i64 n).wf = true) (size : Int) (w1 : (Lit.int .i64 size).wf = true) (w : World) :
    Calls Try.prog 3 #[.int .i64 n, .int .i64 size] w fun r w' => r = .returned (.bool true) ∧ Ext w w' := by
  obtain ⟨k, hk, ha⟩ := around_nat n 4097 (by omega) w0
  have HA := Lib.hid ha
  obtain ⟨s0, hs0, hb⟩ := around_nat size 100 (by omega) w1
  have HB := Lib.hid hb
  have hsz : -9223372036854775808 ≤ size ∧ size ≤ 9223372036854775807 := wf_i64 w1
  obtain ⟨S, hS1, hS2⟩ : ∃ S : Nat, 1 ≤ S ∧ (S : Int) = max size 1 := ⟨(max size 1).toNat, by omega, by omega⟩
  obtain ⟨s, hsE⟩ : ∃ s : Nat, s = 1 + s0 := ⟨_, rfl⟩
  have HSE := Lib.hid hsE
  clear ha hb w0 w1
  go_enter Try.func3, Try.ntmps3
  go_wp2_with fail
  refine (HA.out _).mono ?_
  rintro r wb ⟨rfl, rfl⟩
  go_wp2_with fail
  refine (HB.out _).mono ?_
  rintro r wb ⟨rfl, rfl⟩
  go_wp2_with fail
  have e1 : (1 : Int) + (s0 : Int) = (s : Int) := by omega
  rw [e1]
  clear hsE e1
  have hs1 : 1 ≤ s := by have := HSE.out; omega
  refine (sizes_any k s hs1 (by have := HSE.out; omega) (by omega) w).mono ?_
  rintro r w1 ⟨vS, rfl, hvs, hxs⟩
  have hcp := cnt_pos k s hs1
  have hcl := cnt_le k s hs1 (by omega)
  obtain ⟨gs, cs, hvE, hcs1, hcs2, hgs, hcell⟩ := vals_row hvs hcp
  unfold maxLen at hcs2
  have HVS := Lib.hid hvs
  subst hvE
  have HS := Lib.hid hcell
  have HX := Lib.hid hxs
  clear hvs hxs hcell
  go_wp2_with fail
  go_loop [8, 9] (fun v8 v9 => ∃ i : Nat, i ≤ cnt k s ∧ v9 = .int .i64 i ∧ v8 = .int .i64 ((min k (i * s) : Nat) : Int)) (fun _ v9 => cnt k s - (intOf v9).toNat)
  case atStart => exact ⟨0, by omega, rfl, by simp⟩
  case round =>
    obtain ⟨i, hi, rfl, rfl⟩ := hrel
    by_cases hlt : i < cnt k s
    · have hd : decide (i < cnt k s) = true := by simpa using hlt
      have hi0 : (0 : Int) ≤ (i : Int) := by omega
      have hi1 : (i : Int) < (cnt k s : Int) := by omega
      have q0 := HS.out i hlt
      have HSt := Lib.hid (sum_step k s i)
      have hm1 : min k (i * s) ≤ 4096 := by omega
      have hm2 : szAt k s i ≤ 4096 := by unfold szAt; omega
      generalize min k (i * s) = t at *
      generalize szAt k s i = z at *
      go_wp2_with fail
      go_round
      case rel => exact ⟨i + 1, by omega, by go_num, by rw [← HSt.out]; go_num⟩
      case measure => simp [intOf]; omega
    · have hd : decide (i < cnt k s) = false := by simpa using hlt
      obtain rfl : i = cnt k s := by omega
      rw [sum_all k s hs1]
      go_wp2_with fail
      refine (refSizes_any k s hs1 (by have := HSE.out; omega) (by omega) _).mono ?_
      rintro r w2 ⟨v2, rfl, hv2, hx2⟩
      have V1 := Lib.hid (HVS.out.ext hx2)
      have V2 := Lib.hid hv2
      have X2 := Lib.hid (HX.out.trans hx2)
      clear hv2 hx2
      go_wp2_with fail
      refine (same_yes k s (cnt k s) (by omega) _ _ _ _ _ V1.out V2.out hcp).mono ?_
      rintro r w3 ⟨rfl, hx3⟩
      have X3 := Lib.hid (X2.out.trans hx3)
      clear hx3
      have hcS := cnt_pos k S hS1
      have hlS := cnt_le k S hS1 (by omega)
      have hSz : S ≤ 9223372036854775807 := by omega
      by_cases h1 : size < 1
      · have hE : (S : Int) = 1 := by omega
        have hE' : S = 1 := by omega
        subst hE'
        clear hS2 hE
        go_wp2_with fail
        refine (sizes_any k 1 (by omega) (by omega) (by omega) _).mono ?_
        rintro r w4 ⟨v4, rfl, hv4, hx4⟩
        have V4 := Lib.hid hv4
        have X4 := Lib.hid (X3.out.trans hx4)
        clear hv4 hx4
        go_wp2_with fail
        refine (refSizes_any k 1 (by omega) (by omega) (by omega) _).mono ?_
        rintro r w5 ⟨v5, rfl, hv5, hx5⟩
        have V5 := Lib.hid hv5
        have V4' := Lib.hid (V4.out.ext hx5)
        have X5 := Lib.hid (X4.out.trans hx5)
        clear hv5 hx5
        go_wp2_with fail
        refine (same_yes k 1 (cnt k 1) (by omega) _ _ _ _ _ V4'.out V5.out hcS).mono ?_
        rintro r w6 ⟨rfl, hx6⟩
        have X6 := Lib.hid (X5.out.trans hx6)
        clear hx6
        go_wp2_with fail
        refine (lives_any _).mono ?_
        rintro r w7 ⟨rfl, hx7⟩
        go_wp2_with fail
        go_ret
        exact ⟨rfl, X6.out.trans hx7⟩
      · have hE : size = (S : Int) := by omega
        subst hE
        clear hS2
        go_wp2_with fail
        refine (sizes_any k S (by omega) (by omega) (by omega) _).mono ?_
        rintro r w4 ⟨v4, rfl, hv4, hx4⟩
        have V4 := Lib.hid hv4
        have X4 := Lib.hid (X3.out.trans hx4)
        clear hv4 hx4
        go_wp2_with fail
        refine (refSizes_any k S (by omega) (by omega) (by omega) _).mono ?_
        rintro r w5 ⟨v5, rfl, hv5, hx5⟩
        have V5 := Lib.hid hv5
        have V4' := Lib.hid (V4.out.ext hx5)
        have X5 := Lib.hid (X4.out.trans hx5)
        clear hv5 hx5
        go_wp2_with fail
        refine (same_yes k S (cnt k S) (by omega) _ _ _ _ _ V4'.out V5.out hcS).mono ?_
        rintro r w6 ⟨rfl, hx6⟩
        have X6 := Lib.hid (X5.out.trans hx6)
        clear hx6
        go_wp2_with fail
        refine (lives_any _).mono ?_
        rintro r w7 ⟨rfl, hx7⟩
        go_wp2_with fail
        go_ret
        exact ⟨rfl, X6.out.trans hx7⟩
end Go.Proofs.Ytggojigbflbloaa
