/- The walk of the law FidsNews. -/
import Derived.Test.YtekdoannpkifaaaFid3
namespace Go.Proofs.Ytekdoannpkifaaa
open Go.ChangeShapes Go.WideShapes Go.ChangeAt Go.RowKit

def fo (j : Nat) : Int × FV := (j, { FV.zero with off := j })
def foL (m : Nat) : List (Int × FV) := (List.range m).map fo
theorem foL_len (m : Nat) : (foL m).length = m := by simp [foL]
theorem foL_succ (m : Nat) : foL (m + 1) = foL m ++ [((m : Int), { FV.zero with off := m })] := by simp [foL, List.range_succ, fo]
theorem lookF_none {l : List (Int × FV)} {k : Int} (h : ∀ p ∈ l, p.1 ≠ k) : lookF l k = none := by
  induction l with
  | nil => rfl
  | cons p l ih =>
    have h1 := h p (by simp)
    simp [lookF, h1, ih (fun q hq => h q (by simp [hq]))]
theorem foL_none {m n : Nat} (h : m ≤ n) : lookF (foL m) (n : Int) = none := by
  apply lookF_none
  intro p hp
  simp only [foL, List.mem_map, List.mem_range] at hp
  obtain ⟨i, hi, rfl⟩ := hp
  show (i : Int) ≠ n
  omega

def NewsRel (w : World) (n : Int) (k : Nat) (wr : World) : Prop := k ≤ 2 ∧ wr.heap[w.heap.size]? = some (.cells #[.int .i64 n, .int .i64 (arnd n 19)] 3 (0, 0)) ∧ Ext w wr
theorem NewsRel.cell {w wr : World} {n : Int} {k : Nat} (h : NewsRel w n k wr) (hk : k < 2) : ∃ e, wr.cell? ⟨w.heap.size, k, none⟩ = some (.int .i64 e) := by
  have : k = 0 ∨ k = 1 := by omega
  rcases this with rfl | rfl <;> exact ⟨_, by simp only [World.cell?, h.2.1]; rfl⟩

set_option maxRecDepth 100000 in
set_option maxHeartbeats 2000000 in
theorem fidsNews_walk (n : Int) (w0 : (Lit.int .i64 n).wf = true) (w : World) :
    Calls Try.prog 3 #[.int .i64 n] w fun r w' => r = .returned (.bool true) ∧ Ext w w' := by
  have hn : -9223372036854775808 ≤ n ∧ n ≤ 9223372036854775807 := by simpa [Lit.wf, IntKind.min, IntKind.max, IntKind.signed, IntKind.bits] using w0
  clear w0
  go_enter Try.func3, Try.ntmps3
  go_wp2_with fail
  refine (around_any n 19 w (by omega) hn.1 hn.2).mono ?_
  rintro r wb ⟨rfl, rfl⟩
  go_wp2_with fail
  go_loopw [4] (fun v4 wr => ∃ k : Nat, v4 = .int .i64 k ∧ NewsRel w n k wr) (fun v4 _ => 2 - (intOf v4).toNat)
  case atStart => exact ⟨0, rfl, by omega, heap_alloc_new w _, (Ext.refl w).alloc _⟩
  case round =>
    obtain ⟨k, rfl, HR⟩ := hrel
    have hk := HR.1
    by_cases hlt : k < 2
    · have hd : decide ((k : Int) < 2) = true := by simp; omega
      obtain ⟨e, hc⟩ := HR.cell hlt
      have hsz : w.heap.size < wr.heap.size := lt_of_heap HR.2.1
      have HRR := Lib.hid HR
      clear HR
      by_cases hin : 1 ≤ e ∧ e ≤ 16
      · have hd1 : decide (1 ≤ e) = true := by simpa using hin.1
        have hd2 : decide (e ≤ 16) = true := by simpa using hin.2
        obtain ⟨E, hE⟩ := Int.eq_ofNat_of_zero_le (show 0 ≤ e by omega)
        subst hE
        go_wp2_with fail
        refine (new_yes E _ hin.1 hin.2).mono ?_
        rintro r w2 ⟨rfl, hm2, hx2⟩
        have M2 := Lib.hid hm2
        have X2 := Lib.hid hx2
        have hc2 := hx2.cell hc
        have HC2 := Lib.hid hc
        have hsz2 : w.heap.size < w2.heap.size := lt_of_heap (hx2.heap HRR.out.2.1)
        clear hc hm2 hx2
        obtain ⟨wo, rfl⟩ : ∃ wo : World, wo = wr := ⟨_, rfl⟩
        go_wp2_with fail
        go_loopw [8] (fun v8 wr => ∃ m : Nat, m ≤ 17 ∧ v8 = .int .i64 m ∧ FidW wr (wo.heap.size + 1) wo.heap.size E (foL (min m E)) ∧ Ext wo wr) (fun v8 _ => 17 - (intOf v8).toNat)
        case atStart => exact ⟨0, by omega, rfl, by rw [Nat.zero_min]; exact M2.out, X2.out⟩
        case round =>
          obtain ⟨m, hm, rfl, hM, hX⟩ := hrel
          have HM := Lib.hid hM
          have HX := Lib.hid hX
          have hcr := hX.cell HC2.out
          clear hM hX hc2
          by_cases hlt2 : m < 17
          · have hd3 : decide ((m : Int) < 17) = true := by simp; omega
            by_cases hme : m < E
            · have hd4 : decide (m < E) = true := by simp; omega
              have hmin : min m E = m := by omega
              rw [hmin] at HM
              go_wp2_with fail
              refine (add_ok _ _ _ _ m _ { FV.zero with off := m } HM.out (foL_none (Nat.le_refl _)) (by rw [foL_len]; omega)).mono ?_
              rintro r w3 ⟨rfl, hm3, hu3⟩
              have M3 := Lib.hid (show FidW w3 (wo.heap.size + 1) wo.heap.size E (foL (min (m + 1) E)) by rw [show min (m + 1) E = m + 1 by omega, foL_succ]; exact hm3)
              have X3 := Lib.hid (hu3.ext HX.out (by simp))
              have hc3 := X3.out.cell HC2.out
              clear hm3 hu3 hcr hmin
              go_wp2_with fail
              go_roundw
              case rel => exact ⟨m + 1, by omega, by go_num, M3.out, X3.out⟩
              case measure => simp [intOf]; omega
            · have hd4 : decide (m < E) = false := by simp; omega
              have hmin : min m E = E := by omega
              rw [hmin] at HM
              go_wp2_with fail
              refine (add_full _ _ _ _ m _ { FV.zero with off := m } HM.out (foL_none (by omega)) (by rw [foL_len]; omega)).mono ?_
              rintro r w3 ⟨rfl, hx3⟩
              have M3 := Lib.hid (show FidW w3 (wo.heap.size + 1) wo.heap.size E (foL (min (m + 1) E)) by rw [show min (m + 1) E = E by omega]; exact HM.out.ext hx3)
              have X3 := Lib.hid (HX.out.trans hx3)
              have hc3 := X3.out.cell HC2.out
              clear hx3 hcr hmin
              go_wp2_with fail
              go_roundw
              case rel => exact ⟨m + 1, by omega, by go_num, M3.out, X3.out⟩
              case measure => simp [intOf]; omega
          · have hd3 : decide ((m : Int) < 17) = false := by simp; omega
            go_wp2_with fail
            go_roundw
            case rel => exact ⟨k + 1, by go_num, by omega, HX.out.heap HRR.out.2.1, HRR.out.2.2.trans HX.out⟩
            case measure => simp [intOf]; omega
      · have hno : e < 1 ∨ 16 < e := by omega
        have hcase : (decide (1 ≤ e) = false) ∨ (decide (1 ≤ e) = true ∧ decide (e ≤ 16) = false) := by
          by_cases h1 : 1 ≤ e
          · right; exact ⟨by simpa using h1, by simp; omega⟩
          · left; simpa using h1
        have HNO := Lib.hid hno
        clear hin hno
        rcases hcase with hd1 | ⟨hd1, hd2⟩
        all_goals
          go_wp2_with fail
          refine (new_no e _ HNO.out).mono ?_
          rintro r w2 ⟨rfl, rfl⟩
          go_wp2_with fail
          refine wp_loop_rounds 1 ?_
          rw [rounds_succ]
          go_wp2_with fail
          go_roundw
          case rel => exact ⟨k + 1, by go_num, by omega, HRR.out.2.1, HRR.out.2.2⟩
          case measure => simp [intOf]; omega
    · have hd : decide ((k : Int) < 2) = false := by simp; omega
      go_wp2_with fail
      refine (lives_any _).mono ?_
      rintro r w2 ⟨rfl, hx2⟩
      go_wp2_with fail
      go_ret
      exact ⟨rfl, HR.2.2.trans hx2⟩
end Go.Proofs.Ytekdoannpkifaaa
