/- The walk of the law InodeNews. -/
import Derived.Test.YtmdacpkkglhefaaIno2
import Derived.Test.YtmdacpkkglhefaaInoB
namespace Go.Proofs.Ytmdacpkkglhefaa
open Go.ChangeShapes Go.WideShapes Go.ChangeAt Go.RowKit

namespace inoB
/-- The first i of n places are filled, each once. -/
def filled (x : Int) (i n : Nat) : List Pl := (List.range n).map fun j => if j < i then ⟨true, 1, x⟩ else Pl.zero
theorem filled_len (x : Int) (i n : Nat) : (filled x i n).length = n := by simp [filled]
theorem filled_zero (x : Int) (n : Nat) : filled x 0 n = List.replicate n Pl.zero := by
  apply List.ext_getElem <;> simp [filled]
theorem filled_at (x : Int) (i n j : Nat) (h : j < (filled x i n).length) : (filled x i n)[j] = if j < i then ⟨true, 1, x⟩ else Pl.zero := by simp [filled]
theorem filled_set (x : Int) (i n : Nat) : (filled x i n).set i ⟨true, 1, x⟩ = filled x (i + 1) n := by
  apply List.ext_getElem
  · simp [filled]
  · intro j h1 h2
    simp only [List.getElem_set, filled_at]
    by_cases hj : i = j
    · subst hj; simp
    · rw [if_neg hj]
      by_cases h : j < i
      · rw [if_pos h, if_pos (by omega)]
      · rw [if_neg h, if_neg (by omega)]
theorem add_next (pb tb pl : Nat) (i n : Nat) (hi : i < n) (w : World) (x : Int) (h : TabW w pb tb pl (filled x i n)) :
    Calls Try.prog 10 #[.pointer (some ⟨pb, 0, none⟩), .int .u8 x] w fun r w' => r = .returned (.tuple #[.agg #[.int .i64 (i + 1), .int .i64 1], .int .i64 0]) ∧
      TabW w' pb tb pl (filled x (i + 1) n) ∧ Upd [pl] w w' := by
  have hl : i < (filled x i n).length := by rw [filled_len]; exact hi
  have hat : (filled x i n)[i] = Pl.zero := by rw [filled_at, if_neg (by omega)]
  have := add_ok pb tb pl (filled x i n) w x h i hl (by rw [hat]; rfl) (fun j hj hlt => by rw [filled_at, if_pos hlt]) (by rw [hat]; decide) (by rw [hat]; decide)
  rw [hat] at this
  rw [← filled_set]
  exact this
end inoB

def NewsRel (w : World) (n : Int) (k : Nat) (wr : World) : Prop := k ≤ 2 ∧ wr.heap[w.heap.size]? = some (.cells #[.int .i64 n, .int .i64 (arnd n 67)] 3 (0, 0)) ∧ Ext w wr
theorem NewsRel.cell {w wr : World} {n : Int} {k : Nat} (h : NewsRel w n k wr) (hk : k < 2) : ∃ e, wr.cell? ⟨w.heap.size, k, none⟩ = some (.int .i64 e) := by
  have : k = 0 ∨ k = 1 := by omega
  rcases this with rfl | rfl <;> exact ⟨_, by simp only [World.cell?, h.2.1]; rfl⟩

set_option maxRecDepth 100000 in
set_option maxHeartbeats 4000000 in
theorem inodeNews_walk (n : Int) (w0 : (Lit.int .i64 n).wf = true) (w : World) :
    Calls Try.prog 3 #[.int .i64 n] w fun r w' => r = .returned (.bool true) ∧ Ext w w' := by
  have hn : -9223372036854775808 ≤ n ∧ n ≤ 9223372036854775807 := by simpa [Lit.wf, IntKind.min, IntKind.max, IntKind.signed, IntKind.bits] using w0
  clear w0
  go_enter Try.func3, Try.ntmps3
  go_wp2_with fail
  refine (around_any n 67 w (by omega) hn.1 hn.2).mono ?_
  rintro r wb ⟨rfl, rfl⟩
  go_wp2_with fail
  go_loopw [4] (fun v4 wr => ∃ k : Nat, v4 = .int .i64 k ∧ NewsRel w n k wr) (fun v4 _ => 2 - (intOf v4).toNat)
  case atStart => exact ⟨0, rfl, by omega, heap_alloc_new w _, (Ext.refl w).alloc _⟩
  case round =>
    obtain ⟨k, rfl, HR⟩ := hrel
    have hk := HR.1
    by_cases hlt : k < 2
    · have hd : decide ((k : Int) < 2) = true := by simp; omega
      obtain ⟨e, hc⟩ := HR.cell hlt
      have hsz : w.heap.size < wr.heap.size := lt_of_heap HR.2.1
      have HRR := Lib.hid HR
      clear HR
      by_cases hin : 1 ≤ e ∧ e ≤ 64
      · have hd1 : decide (1 ≤ e) = true := by simpa using hin.1
        have hd2 : decide (e ≤ 64) = true := by simpa using hin.2
        obtain ⟨E, hE⟩ := Int.eq_ofNat_of_zero_le (show 0 ≤ e by omega)
        subst hE
        go_wp2_with fail
        refine (inoB.new_yes E _ (by omega) (by omega)).mono ?_
        rintro r w2 ⟨rfl, hm2, hx2⟩
        have M2 := Lib.hid hm2
        have X2 := Lib.hid hx2
        have hc2 := hx2.cell hc
        have HC2 := Lib.hid hc
        have hsz2 : w.heap.size < w2.heap.size := lt_of_heap (hx2.heap HRR.out.2.1)
        clear hc hm2 hx2
        obtain ⟨wo, rfl⟩ : ∃ wo : World, wo = wr := ⟨_, rfl⟩
        go_wp2_with fail
        go_loopw [8] (fun v8 wr => ∃ m : Nat, m ≤ 65 ∧ v8 = .int .i64 (m + 1) ∧ inoB.TabW wr (wo.heap.size + 1) (wo.heap.size + 2) wo.heap.size (inoB.filled 7 (min m E) E) ∧ Ext wo wr) (fun v8 _ => 66 - (intOf v8).toNat)
        case atStart => exact ⟨0, by omega, rfl, by rw [Nat.zero_min, inoB.filled_zero]; exact M2.out, X2.out⟩
        case round =>
          obtain ⟨m, hm, rfl, hM, hX⟩ := hrel
          have HM := Lib.hid hM
          have HX := Lib.hid hX
          clear hM hX hc2
          by_cases hlt2 : m < 65
          · have hd3 : decide ((m : Int) + 1 ≤ 65) = true := by simp; omega
            by_cases hme : m < E
            · have hd4 : decide ((m : Int) + 1 ≤ (E : Int)) = true := by simp; omega
              have hmin : min m E = m := by omega
              rw [hmin] at HM
              go_wp2_with fail
              refine (inoB.add_next _ _ _ m E hme _ 7 HM.out).mono ?_
              rintro r w3 ⟨rfl, hm3, hu3⟩
              have HX3 := hu3.ext HX.out (by simp)
              have M3 := Lib.hid (show inoB.TabW (w3.alloc (.cells #[.int .i64 (m + 1), .int .i64 1] 29)) (wo.heap.size + 1) (wo.heap.size + 2) wo.heap.size (inoB.filled 7 (min (m + 1) E) E) by rw [show min (m + 1) E = m + 1 by omega]; exact hm3.ext ((Ext.refl w3).alloc _))
              have X3 := Lib.hid (HX3.alloc (.cells #[.int .i64 (m + 1), .int .i64 1] 29))
              have hc3 := X3.out.cell HC2.out
              have hsz3 : w.heap.size < w3.heap.size := lt_of_heap (HX3.heap HRR.out.2.1)
              clear hm3 hu3 hmin HX3
              go_wp2_with fail
              go_roundw
              case rel => exact ⟨m + 1, by omega, by go_num, M3.out, X3.out⟩
              case measure => simp [intOf]; omega
            · have hd4 : decide ((m : Int) + 1 ≤ (E : Int)) = false := by simp; omega
              have hmin : min m E = E := by omega
              rw [hmin] at HM
              go_wp2_with fail
              refine (inoB.add_full _ _ _ _ _ 7 HM.out (fun j hj => by rw [inoB.filled_at, if_pos (by simpa [inoB.filled_len] using hj)])).mono ?_
              rintro r w3 ⟨rfl, hx3⟩
              have M3 := Lib.hid (show inoB.TabW (w3.alloc (.cells #[.int .i64 0, .int .i64 0] 29)) (wo.heap.size + 1) (wo.heap.size + 2) wo.heap.size (inoB.filled 7 (min (m + 1) E) E) by rw [show min (m + 1) E = E by omega]; exact (HM.out.ext hx3).ext ((Ext.refl w3).alloc _))
              have X3 := Lib.hid ((HX.out.trans hx3).alloc (.cells #[.int .i64 0, .int .i64 0] 29))
              have hc3 := X3.out.cell HC2.out
              have hsz3 : w.heap.size < w3.heap.size := lt_of_heap ((HX.out.trans hx3).heap HRR.out.2.1)
              clear hx3 hmin
              go_wp2_with fail
              go_roundw
              case rel => exact ⟨m + 1, by omega, by go_num, M3.out, X3.out⟩
              case measure => simp [intOf]; omega
          · have hd3 : decide ((m : Int) + 1 ≤ 65) = false := by simp; omega
            go_wp2_with fail
            go_roundw
            case rel => exact ⟨k + 1, by go_num, by omega, HX.out.heap HRR.out.2.1, HRR.out.2.2.trans HX.out⟩
            case measure => simp [intOf]; omega
      · have hno : e < 1 ∨ 64 < e := by omega
        have hcase : (decide (1 ≤ e) = false) ∨ (decide (1 ≤ e) = true ∧ decide (e ≤ 64) = false) := by
          by_cases h1 : 1 ≤ e
          · right; exact ⟨by simpa using h1, by simp; omega⟩
          · left; simpa using h1
        have HNO := Lib.hid hno
        clear hin hno
        rcases hcase with hd1 | ⟨hd1, hd2⟩
        all_goals
          go_wp2_with fail
          refine (inoB.new_no e _ HNO.out).mono ?_
          rintro r w2 ⟨rfl, rfl⟩
          go_wp2_with fail
          refine wp_loop_rounds 1 ?_
          rw [rounds_succ]
          go_wp2_with fail
          go_roundw
          case rel => exact ⟨k + 1, by go_num, by omega, HRR.out.2.1, HRR.out.2.2⟩
          case measure => simp [intOf]; omega
    · have hd : decide ((k : Int) < 2) = false := by simp; omega
      go_wp2_with fail
      refine (lives_any _).mono ?_
      rintro r w2 ⟨rfl, hx2⟩
      go_wp2_with fail
      go_ret
      exact ⟨rfl, HR.2.2.trans hx2⟩
end Go.Proofs.Ytmdacpkkglhefaa
