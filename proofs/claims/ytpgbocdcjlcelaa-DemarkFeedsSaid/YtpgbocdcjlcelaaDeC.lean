/- Whether rows of bytes are the same; rows behind rows; the document's example. -/
import Derived.Test.YtpgbocdcjlcelaaDeB
namespace Go.Proofs.Ytpgbocdcjlcelaa
open Go.ChangeShapes Go.WideShapes Go.ChangeAt Go.RowKit

theorem IsRow.str {w : World} {a : Option Addr} {n cap : Nat} {zs : List Int} (h : IsRow .u8 w a n cap zs) (hp : Plain a cap) : (convert 22 9 (.slice a n cap)).run Try.prog w = .ok (.string (strOfNums zs)) w := by
  have hl := h.1
  rcases hp with ⟨rfl, rfl⟩ | ⟨g, o, rfl⟩
  · have h0 := h.2.1
    obtain rfl : n = 0 := by omega
    have hz : zs = [] := List.eq_nil_of_length_eq_zero hl
    subst hz
    exact run_convert_bytes_nil w 22 5 Try.underlying22 Try.underlying5 0 0 9 Try.underlying9
  · refine run_convert_bytes_arg w 22 5 Try.underlying22 Try.underlying5 g o n cap zs hl (fun i hi => ?_) 9 Try.underlying9
    obtain ⟨g2, o2, e, hc⟩ := h.at_ hi
    simp only [Option.some.injEq, Addr.mk.injEq] at e
    obtain ⟨rfl, rfl, _⟩ := e
    exact hc
set_option maxHeartbeats 2000000 in
theorem sameBytes_yes (w : World) (a1 a2 : Option Addr) (n c1 c2 : Nat) (yss : List (List Int)) (h1 : IsRows Plain w a1 n c1 yss) (h2 : IsRows Plain w a2 n c2 yss) (hn : n ≤ 100000) :
    Calls Try.prog 16 #[.slice a1 n c1, .slice a2 n c2] w fun r w' => r = .returned (.bool true) ∧ Ext w w' := by
  have hc1 := h1.2.1
  have hc2 := h2.2.1
  have hm1 := h1.2.2.1
  have hm2 := h2.2.2.1
  unfold maxLen at hm1 hm2
  have H1 := Lib.hid h1
  have H2 := Lib.hid h2
  clear h1 h2
  go_enter Try.func16, Try.ntmps16
  go_wp2_with fail
  go_loopw [5] (fun v5 wr => ∃ i : Nat, i ≤ n ∧ v5 = .int .i64 i ∧ Ext w wr) (fun v5 _ => n - (intOf v5).toNat)
  case atStart => exact ⟨0, by omega, rfl, Ext.refl w⟩
  case round =>
    obtain ⟨i, hi, rfl, hX⟩ := hrel
    have HX := Lib.hid hX
    by_cases hlt : i < n
    · have hd : decide ((i : Int) < (n : Int)) = true := by simp; omega
      have hi0 : (0 : Int) ≤ (i : Int) := by omega
      have hi1 : (i : Int) < (n : Int) := by omega
      obtain ⟨g1, o1, x1, k1, rfl, q1, r1, p1⟩ := (H1.out.ext hX).at_ hlt
      obtain ⟨g2, o2, x2, k2, rfl, q2, r2, p2⟩ := (H2.out.ext hX).at_ hlt
      have s1 := r1.str p1
      have s2 := r2.str p2
      have s1' := (r1.ext (drew_ext wr)).str p1
      have s2' := (r2.ext (drew_ext wr)).str p2
      have hg1 := World.block_lt_of_cell? wr _ q1
      have hg2 := World.block_lt_of_cell? wr _ q2
      clear r1 r2 p1 p2 hX
      generalize (yss.getD i []).length = yl at *
      generalize yss.getD i [] = y at *
      go_wp2_with fail
      go_region
      all_goals
        go_wp2_with fail
        go_roundw
        case rel => exact ⟨i + 1, by omega, by go_num, HX.out.drew⟩
        case measure => simp [intOf]; omega
    · have hd : decide ((i : Int) < (n : Int)) = false := by simp; omega
      clear hX
      go_wp2_with fail
      go_ret
      exact ⟨rfl, HX.out⟩
theorem sameBytes_own {w : World} {b1 b2 : Nat} {v1 v2 : Value} {yss : List (List Int)} (h1 : OwnsRows w b1 v1 yss) (h2 : OwnsRows w b2 v2 yss) (hn : yss.length ≤ 100000) :
    Calls Try.prog 16 #[v1, v2] w fun r w' => r = .returned (.bool true) ∧ Ext w w' := by
  obtain ⟨a1, c1, rfl, q1, _⟩ := h1.rows
  obtain ⟨a2, c2, rfl, q2, _⟩ := h2.rows
  exact sameBytes_yes w a1 a2 _ c1 c2 yss q1 q2 hn
end Go.Proofs.Ytpgbocdcjlcelaa
