/- The walk of the law DemarkNews. -/
import Derived.Test.YtpgbocdcjlcelaaDeD
namespace Go.Proofs.Ytpgbocdcjlcelaa
open Go.ChangeShapes Go.WideShapes Go.ChangeAt Go.RowKit

def four (a b c d : Int) (i : Nat) : Int := if i = 0 then a else if i = 1 then b else if i = 2 then c else d
theorem four_cells (w : World) (a b c d : Int) : ∀ i, i < 4 → (w.alloc (.cells #[.int .i64 a, .int .i64 b, .int .i64 c, .int .i64 d] 3)).cell? ⟨w.heap.size, i, none⟩ = some (.int .i64 (four a b c d i)) := fun i hi => by
  match i, hi with
  | 0, _ => (simp only [World.cell?, heap_alloc_new]; rfl)
  | 1, _ => (simp only [World.cell?, heap_alloc_new]; rfl)
  | 2, _ => (simp only [World.cell?, heap_alloc_new]; rfl)
  | 3, _ => (simp only [World.cell?, heap_alloc_new]; rfl)
theorem nil_row (w : World) : IsRow .u8 w none 0 0 [] := ⟨rfl, by omega, by unfold maxLen; omega, by simp, .inl rfl⟩
set_option maxRecDepth 100000 in
set_option maxHeartbeats 8000000 in
theorem demarkNews_walk (most : Int) (w0 : (Lit.int .i64 most).wf = true) (frags : Int) (w1 : (Lit.int .i64 frags).wf = true) (w : World) :
    Calls Try.prog 7 #[.int .i64 most, .int .i64 frags] w fun r w' => r = .returned (.bool true) ∧ Ext w w' := by
  have hm := wf_i64 w0
  have hf := wf_i64 w1
  have HAm := Lib.hid (around_any most 4101 · (by omega) hm.1 hm.2)
  have HAf := Lib.hid (around_any frags 67 · (by omega) hf.1 hf.2)
  generalize arnd most 4101 = am at *
  generalize arnd frags 67 = af at *
  clear w0 w1
  go_enter Try.func7, Try.ntmps7
  go_wp2_with fail
  refine (HAm.out _).mono ?_
  rintro r wb ⟨rfl, rfl⟩
  go_wp2_with fail
  have HC1 := Lib.hid (four_cells w most am 0 1)
  have HX1 := Lib.hid (show Ext w (w.alloc (.cells #[.int .i64 most, .int .i64 am, .int .i64 0, .int .i64 1] 3)) from (Ext.refl w).alloc _)
  generalize w.alloc (.cells #[.int .i64 most, .int .i64 am, .int .i64 0, .int .i64 1] 3) = wA at *
  refine (HAf.out _).mono ?_
  rintro r wb ⟨rfl, rfl⟩
  go_wp2_with fail
  have HC2 := Lib.hid (four_cells wA frags 1 af frags)
  have HX2 := Lib.hid (show Ext wA (wA.alloc (.cells #[.int .i64 frags, .int .i64 1, .int .i64 af, .int .i64 frags] 3)) from (Ext.refl wA).alloc _)
  have hzA : w.heap.size < wA.heap.size := World.block_lt_of_cell? wA _ (HC1.out 0 (by omega))
  generalize wA.alloc (.cells #[.int .i64 frags, .int .i64 1, .int .i64 af, .int .i64 frags] 3) = wB at *
  have hzB : wA.heap.size < wB.heap.size := World.block_lt_of_cell? wB _ (HC2.out 0 (by omega))
  go_loopw [7] (fun v7 wr => ∃ i : Nat, i ≤ 4 ∧ v7 = .int .i64 i ∧ Ext wB wr) (fun v7 _ => 4 - (intOf v7).toNat)
  case atStart => exact ⟨0, by omega, rfl, Ext.refl _⟩
  case round =>
    obtain ⟨i, hi, rfl, hXr⟩ := hrel
    have HXr := Lib.hid hXr
    by_cases hlt : i < 4
    · have hd : decide ((i : Int) < 4) = true := by simp; omega
      have hi0 : (0 : Int) ≤ (i : Int) := by omega
      have hi1 : (i : Int) < 4 := by omega
      have q1 := hXr.cell (HX2.out.cell (HC1.out i hlt))
      have q2 := hXr.cell (HC2.out i hlt)
      have hz1 : w.heap.size < wr.heap.size := by have := hXr.size; omega
      have hz2 : wA.heap.size < wr.heap.size := by have := hXr.size; omega
      generalize four most am 0 1 i = M at *
      generalize four frags 1 af frags i = F at *
      clear hXr
      by_cases hin : 0 ≤ M ∧ M ≤ 4096 ∧ 1 ≤ F ∧ F ≤ 64
      · obtain ⟨b1, b2, b3, b4⟩ := hin
        obtain ⟨mm, rfl⟩ := Int.eq_ofNat_of_zero_le b1
        obtain ⟨ff, rfl⟩ := Int.eq_ofNat_of_zero_le (show 0 ≤ F by omega)
        have d1 : decide ((0 : Int) ≤ (mm : Int)) = true := by simp
        have d2 : decide ((mm : Int) ≤ 4096) = true := by simp; omega
        have d3 : decide ((1 : Int) ≤ (ff : Int)) = true := by simp; omega
        have d4 : decide ((ff : Int) ≤ 64) = true := by simp; omega
        have HN := Lib.hid (fun W => new_ok mm ff (by omega) (by omega) (by omega) W)
        go_wp2_with fail
        go_region_with (go_at_call 12; refine (HN.out _).mono ?_; rintro r W1 ⟨rfl, hD, hX1⟩)
        all_goals
          have c1 := hX1.cell q1
          have c2 := hX1.cell q2
          have y1 : w.heap.size < W1.heap.size := by have := hX1.size; simp at this; omega
          have y2 : wA.heap.size < W1.heap.size := by have := hX1.size; simp at this; omega
          have HD := Lib.hid (show DW W1 wr.heap.size wr.heap.size mm ff St.new (.slice none 0 0) (.slice none 0 0) from hD)
          have HX1 := Lib.hid (HXr.out.trans ((drew_ext wr).trans hX1))
          have HBs := Lib.hid (show wr.heap.size ≤ W1.heap.size from hX1.size)
          have HBr := Lib.hid (show wB.heap.size ≤ wr.heap.size from HXr.out.size)
          clear hD hX1 q1 q2
          go_wp2_with fail
          refine (clean_any HD.out (by decide) (by decide)).mono ?_
          rintro r wb ⟨rfl, rfl⟩
          go_wp2_with fail
          refine (held_any HD.out (by decide) (by decide)).mono ?_
          rintro r W2 ⟨rfl, hX2⟩
          have HX2b := Lib.hid hX2
          clear hX2
          go_wp2_with fail
          refine (errno_any (HD.out.ext HX2b.out)).mono ?_
          rintro r wb ⟨rfl, rfl⟩
          go_wp2_with fail
          refine (feed_any (HD.out.ext HX2b.out) (Inv.new mm ff) (Nat.le_trans HBs.out HX2b.out.size) (by omega) (by omega) none 0 0 [] (nil_row _) (fun ga o e => by cases e) (by omega)).mono ?_
          rintro r W3 ⟨v, rfl, vn3, vr3, hD3, hT3, hU3, hF3, _⟩
          obtain ⟨a3, c3, rfl, _, _⟩ := hT3.owns.rows
          have HX3 := Lib.hid (hU3.ext (HX1.out.trans HX2b.out) (fun k hk => Nat.le_trans HBr.out (HD.out.foot_low hk).1))
          clear hD3 hT3 hU3 hF3
          go_wp2_with fail
          go_roundw
          case rel => exact ⟨i + 1, by omega, by go_num, HX3.out⟩
          case measure => simp [intOf]; omega
      · have HN := Lib.hid (fun W => new_bad M F (by omega) W)
        have hcs : (decide ((0 : Int) ≤ M) = false) ∨ (decide ((0 : Int) ≤ M) = true ∧ decide (M ≤ 4096) = false) ∨ (decide ((0 : Int) ≤ M) = true ∧ decide (M ≤ 4096) = true ∧ decide ((1 : Int) ≤ F) = false) ∨ (decide ((0 : Int) ≤ M) = true ∧ decide (M ≤ 4096) = true ∧ decide ((1 : Int) ≤ F) = true ∧ decide (F ≤ 64) = false) := by
          simp only [decide_eq_false_iff_not, decide_eq_true_eq]
          omega
        rcases hcs with d1 | ⟨d1, d2⟩ | ⟨d1, d2, d3⟩ | ⟨d1, d2, d3, d4⟩
        all_goals
          clear hin
          go_wp2_with fail
          go_region_with (go_at_call 12; refine (HN.out _).mono ?_; rintro r W1 ⟨rfl, rfl⟩)
          all_goals
            go_wp2_with fail
            go_roundw
            case rel => exact ⟨i + 1, by omega, by go_num, HXr.out.drew⟩
            case measure => simp [intOf]; omega
    · have hd : decide ((i : Int) < 4) = false := by simp; omega
      clear hXr
      go_wp2_with fail
      refine (lives_any _).mono ?_
      rintro r w3 ⟨rfl, hX3⟩
      have HX3 := Lib.hid (HX1.out.trans (HX2.out.trans (HXr.out.trans hX3)))
      clear hX3
      go_wp2_with fail
      go_ret
      exact ⟨rfl, HX3.out⟩
end Go.Proofs.Ytpgbocdcjlcelaa
