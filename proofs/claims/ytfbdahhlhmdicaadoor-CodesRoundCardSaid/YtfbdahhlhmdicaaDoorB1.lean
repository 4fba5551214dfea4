/- The walk of the law CodesRound. -/
import Derived.Test.YtfbdahhlhmdicaaDoorA8
import Derived.Test.YtfbdahhlhmdicaaDoorA5
namespace Go.Proofs.YtfbdahhlhmdicaaDoor
open Go.ChangeShapes Go.WideShapes Go.ChangeAt Go.RowKit

theorem AllRel.form2 {w w1 : World} {v : Value} (h : AllRel w 19 v w1) : ∃ g cap, v = .slice (some ⟨g, 0, none⟩) 19 cap ∧ w.heap.size ≤ g ∧ 19 ≤ cap ∧ cap ≤ 9223372036854775807 ∧ g < w1.heap.size ∧
    ∀ k, k < 19 → w1.cell? ⟨g, k, none⟩ = some (.int .i64 (rowAt k).e) := by
  rcases h.1.2 with ⟨_, h0⟩ | ⟨g, cap, cur, hv, hb, hg, hn, hm, hs, ht⟩
  · cases h0
  · refine ⟨g, cap, hv, hb, hn, hm, (Array.getElem?_eq_some_iff.1 hg).1, fun k hk => ?_⟩
    have h1 : (cur.toList.take (19 * 1))[k]? = cur[k]? := by
      rw [List.getElem?_take, if_pos (by omega)]; simp
    simp only [World.cell?, hg]
    have hl : k < errs.length := hk
    have h2 : cur[k]? = some (.int .i64 (rowAt k).e) := by
      rw [← h1, ht, List.take_of_length_le (by decide), List.getElem?_map, List.getElem?_eq_getElem hl, ← err_at k hk]
      simp [hl]
    simpa using h2

/-- What the functions tell of the row i's own number, status and code. -/
theorem self_calls (i : Nat) (hi : i < 19) (wr : World) (ht : TabW wr) :
    (∀ W, Ext wr W → Calls Tryd.prog 9 #[.int .i64 (rowAt i).e] W fun r w' => r = .returned (.int .u32 (rowAt i).s) ∧ Ext W w') ∧
    (∀ W, Ext wr W → Calls Tryd.prog 16 #[.int .u32 (rowAt i).s] W fun r w' => r = .returned (.int .i64 (rowAt i).e) ∧ Ext W w') ∧
    (∀ W, Ext wr W → Calls Tryd.prog 11 #[.int .i64 (rowAt i).e] W fun r w' => r = .returned (.int .i64 (i : Nat)) ∧ Ext W w') ∧
    (∀ W, Ext wr W → Calls Tryd.prog 18 #[.int .i64 (i : Nat)] W fun r w' => r = .returned (.int .i64 (rowAt i).e) ∧ Ext W w') ∧
    (∀ W, Ext wr W → Calls Tryd.prog 13 #[.int .i64 (rowAt i).e] W fun r w' => r = .returned (.string ⟨(rowAt i).t.toArray⟩) ∧ Ext W w') := by
  refine ⟨fun W h => ?_, fun W h => ?_, fun W h => ?_, fun W h => ?_, fun W h => ?_⟩
  · have := status_any (rowAt i).e W (ht.ext h); rw [byE_self i hi] at this; exact this
  · have := fromStatus_any (rowAt i).s W (ht.ext h); rw [byS_self i hi] at this; exact this
  · have := code_any (rowAt i).e W (ht.ext h); rw [byE_self i hi, code_at i hi] at this; exact this
  · have := fromCode_any i W (ht.ext h); rw [byC_in i hi] at this; exact this
  · have := text_any (rowAt i).e W (ht.ext h); rw [byE_self i hi] at this; exact this
theorem differ (i : Nat) (hi : i < 19) (j : Nat) (hj : j < 19) : ((rowAt i).t == (rowAt j).t) = ((rowAt i).e == (rowAt j).e) ∧ ((rowAt i).s == (rowAt j).s) = ((rowAt i).e == (rowAt j).e) :=
  (show ∀ i, i < 19 → ∀ j, j < 19 → ((rowAt i).t == (rowAt j).t) = ((rowAt i).e == (rowAt j).e) ∧ ((rowAt i).s == (rowAt j).s) = ((rowAt i).e == (rowAt j).e) by decide +kernel) i hi j hj

set_option maxHeartbeats 2000000 in
theorem codesRound_walk (a : Int) (w0 : (Lit.int .i64 a).wf = true) (b : Int) (w1 : (Lit.int .i64 b).wf = true) (w : World) (ht : TabW w) :
    Calls Tryd.prog 7 #[.int .i64 a, .int .i64 b] w fun r w' => r = .returned (.bool true) ∧ Ext w w' := by
  have hxa : -9223372036854775808 ≤ a ∧ a ≤ 9223372036854775807 := by simpa [Lit.wf, IntKind.min, IntKind.max, IntKind.signed, IntKind.bits] using w0
  have hxb : -9223372036854775808 ≤ b ∧ b ≤ 9223372036854775807 := by simpa [Lit.wf, IntKind.min, IntKind.max, IntKind.signed, IntKind.bits] using w1
  have HT := Lib.hid ht
  have hab := arnd_bd a 19 (by omega)
  obtain ⟨i, hi⟩ := Int.eq_ofNat_of_zero_le hab.1
  have hi19 : i < 19 := by omega
  have HA := Lib.hid (show ∀ W, Calls Tryd.prog 8 #[.int .i64 a, .int .i64 19] W fun r w' => r = .returned (.int .i64 (i : Nat)) ∧ W = w' from
    fun W => (around_any a 19 W (by omega) hxa.1 hxa.2).mono fun r w' h => by rw [← hi]; exact h)
  have hbb := arnd_bd b 19 (by omega)
  obtain ⟨j, hj⟩ := Int.eq_ofNat_of_zero_le hbb.1
  have hj19 : j < 19 := by omega
  have HB := Lib.hid (show ∀ W, Calls Tryd.prog 8 #[.int .i64 b, .int .i64 19] W fun r w' => r = .returned (.int .i64 (j : Nat)) ∧ W = w' from
    fun W => (around_any b 19 W (by omega) hxb.1 hxb.2).mono fun r w' h => by rw [← hj]; exact h)
  clear ht w0 w1 hi hj hab hbb hxa hxb
  go_enter Tryd.func7, Tryd.ntmps7
  go_wp2_with fail
  refine (all_any _ HT.out).mono ?_
  rintro r w1 ⟨v, rfl, H1⟩
  obtain ⟨g, cap, rfl, hgb, hc1, hc2, hgl, hcur⟩ := H1.form2
  have HC1 := Lib.hid hcur
  have HE1 := Lib.hid H1.2
  clear hcur H1
  go_wp2_with fail
  refine (refAll_any _).mono ?_
  rintro r w2 ⟨rfl, hw2⟩
  have hg2 : w2.heap[w1.heap.size]? = some (.cells errArr 22 (0, 0)) := by rw [← hw2]; exact heap_alloc_new w1 _
  have he2 : Ext w1 w2 := by rw [← hw2]; exact (Ext.refl w1).alloc _
  have HC2 := Lib.hid (fun k hk => errCell w2 w1.heap.size hg2 k hk)
  have HC1' := Lib.hid (fun k hk => he2.cell (HC1.out k hk))
  have HE2 := Lib.hid (HE1.out.trans he2)
  have hgl2 : w1.heap.size < w2.heap.size := (Array.getElem?_eq_some_iff.1 hg2).1
  have HT2 := Lib.hid (HT.out.ext HE2.out)
  clear hw2 hg2 he2 HC1 HE1
  go_wp2_with fail
  go_loopw [7] (fun v7 wr => ∃ k : Nat, k ≤ 19 ∧ v7 = .int .i64 k ∧ Ext w2 wr) (fun v7 _ => 19 - (intOf v7).toNat)
  case atStart => exact ⟨0, by omega, rfl, Ext.refl w2⟩
  case round =>
    obtain ⟨k, hk, rfl, HR⟩ := hrel
    have hsz := HR.size
    have HTr := Lib.hid (HT2.out.ext HR)
    by_cases hlt : k < 19
    · have hd : decide ((k : Int) < 19) = true := by simp; omega
      have hk0 : (0 : Int) ≤ (k : Int) := by omega
      have hk1 : (k : Int) < 19 := by omega
      have hk2 : k < cap := by omega
      have c1 := HR.cell (HC1'.out k hlt)
      have c2 := HR.cell (HC2.out k hlt)
      have HCode := Lib.hid (show ∀ W, Ext wr W → Calls Tryd.prog 11 #[.int .i64 (rowAt k).e] W fun r w' => r = .returned (.int .i64 (k : Nat)) ∧ Ext W w' from
        fun W hW => (code_any _ W (HTr.out.ext hW)).mono fun r w' h => by rw [byE_self k hlt, code_at k hlt] at h; exact h)
      generalize hr : (rowAt k).e = re at *
      clear hr
      go_wp2_with fail
      go_region_held3 (fun w' => w'.cell? ⟨g, k, none⟩ = some (.int .i64 re) ∧ w'.cell? ⟨w1.heap.size, k, none⟩ = some (.int .i64 re) ∧ Ext wr w') (first | exact ⟨c1, c2, (Ext.refl _).drew⟩ | exact ⟨Ext.cell hx (by simp [*]), Ext.cell hx (by simp [*]), Ext.trans (by simp [*]) hx⟩)
        (first | (go_at_call 11; refine (HCode.out _ (by simp [*])).mono ?_; rintro e w' ⟨rfl, hx⟩))
      all_goals
        have hF : Ext wr w' := And.right (And.right (by assumption))
        clear hx
        go_wp2_with fail
        go_roundw
        case rel => exact ⟨k + 1, by omega, by go_num, HR.trans hF⟩
        case measure => simp [intOf]; omega
    · have hd : decide ((k : Int) < 19) = false := by simp; omega
      have ci := HR.cell (HC1'.out i hi19)
      have cj := HR.cell (HC1'.out j hj19)
      have hik : i < cap := by omega
      have hjk : j < cap := by omega
      obtain ⟨S1, S1', C1, C1', T1⟩ := self_calls i hi19 wr HTr.out
      obtain ⟨S2, Z1, Z2, Z3, T2⟩ := self_calls j hj19 wr HTr.out
      clear Z1 Z2 Z3
      have HD := Lib.hid (differ i hi19 j hj19)
      have hS1 := Lib.hid S1
      have hS1' := Lib.hid S1'
      have hC1 := Lib.hid C1
      have hC1' := Lib.hid C1'
      have hT1 := Lib.hid T1
      have hS2 := Lib.hid S2
      have hT2 := Lib.hid T2
      clear S1 S1' C1 C1' T1 S2 T2
      go_wp2_with fail
      refine (HA.out _).mono ?_
      rintro r w3 ⟨rfl, rfl⟩
      go_wp2_with fail
      refine (HB.out _).mono ?_
      rintro r w3 ⟨rfl, rfl⟩
      go_wp2_with fail
      refine (hS1.out _ (Ext.refl _)).mono ?_
      rintro r x1 ⟨rfl, h1⟩
      have X1 := Lib.hid h1
      clear h1
      go_wp2_with fail
      refine (hS1'.out _ X1.out).mono ?_
      rintro r x2 ⟨rfl, h2⟩
      have X2 := Lib.hid (X1.out.trans h2)
      clear h2 X1
      go_wp2_with fail
      refine (hC1.out _ X2.out).mono ?_
      rintro r x3 ⟨rfl, h3⟩
      have X3 := Lib.hid (X2.out.trans h3)
      clear h3 X2
      go_wp2_with fail
      refine (hC1'.out _ X3.out).mono ?_
      rintro r x4 ⟨rfl, h4⟩
      have X4 := Lib.hid (X3.out.trans h4)
      clear h4 X3
      go_wp2_with fail
      refine (hT1.out _ X4.out).mono ?_
      rintro r x5 ⟨rfl, h5⟩
      have X5 := Lib.hid (X4.out.trans h5)
      clear h5 X4
      go_wp2_with fail
      refine (hT2.out _ X5.out).mono ?_
      rintro r x6 ⟨rfl, h6⟩
      have X6 := Lib.hid (X5.out.trans h6)
      clear h6 X5
      have hd1 := HD.out.1
      go_wp2_with fail
      clear hd1
      refine (hS1.out _ X6.out).mono ?_
      rintro r x7 ⟨rfl, h7⟩
      have X7 := Lib.hid (X6.out.trans h7)
      clear h7 X6
      go_wp2_with fail
      refine (hS2.out _ X7.out).mono ?_
      rintro r x8 ⟨rfl, h8⟩
      have X8 := Lib.hid (X7.out.trans h8)
      clear h8 X7
      have hd2 := HD.out.2
      go_wp2_with fail
      clear hd2
      refine (lives_any _ (HTr.out.ext X8.out)).mono ?_
      rintro r x9 ⟨rfl, h9⟩
      have X9 := Lib.hid (X8.out.trans h9)
      clear h9 X8
      go_wp2_with fail
      go_ret
      exact ⟨rfl, HE2.out.trans (HR.trans X9.out)⟩
end Go.Proofs.YtfbdahhlhmdicaaDoor
