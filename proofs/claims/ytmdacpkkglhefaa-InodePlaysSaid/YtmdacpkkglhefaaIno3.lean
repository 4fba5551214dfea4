/- A handle that came in by value; the walk of the law InodeOther. -/
import Derived.Test.YtmdacpkkglhefaaIno2
import Derived.Lib.SmallJoins
namespace Go.Proofs.Ytmdacpkkglhefaa
open Go.ChangeShapes Go.WideShapes Go.ChangeAt Go.RowKit

theorem lst2 {l : List Value} (h : l.length = 2) : ∃ a b, l = [a, b] := by
  match l, h with
  | [a, b], _ => exact ⟨a, b, rfl⟩
theorem cellsH : Try.prog.cellsOf 29 = 2 := by kernel_rfl
theorem cellsI : Try.prog.cellsOf 3 = 1 := by kernel_rfl
theorem openH {H : Type} {enc : TypeId × Value → H} {w : World} {base : Nat} {sp : Nat → Bool} {held : Bool} {fuel : Nat} {cs : List Value} {x : DataW H × List MemPlace} (h : DataW.trod enc Try.prog w base sp held fuel 29 cs = some x) : ∃ m n : Int, cs = [.int .i64 m, .int .i64 n] := by
  obtain ⟨xs, n, _, _, hlc, hl, hf⟩ := DataW.trod_struct Try.underlying29 h
  rw [cellsH] at hlc
  obtain ⟨a, b, rfl⟩ := lst2 hlc
  have h0 : DataW.trod enc Try.prog w base sp held n 3 (([a, b].drop 0).take (Try.prog.cellsOf 3)) = xs[0]? := hf 0 _ rfl
  have h1 : DataW.trod enc Try.prog w base sp held n 3 (([a, b].drop 1).take (Try.prog.cellsOf 3)) = xs[1]? := hf 1 _ rfl
  simp only [cellsI, List.drop_zero, List.drop_succ_cons, List.take_succ_cons, List.take_zero] at h0 h1
  have hl2 : xs.length = 2 := by rw [hl]; rfl
  rw [List.getElem?_eq_getElem (by omega)] at h0 h1
  obtain ⟨m, hm, _⟩ := DataW.trod_int Try.underlying3 h0
  obtain ⟨k, hk, _⟩ := DataW.trod_int Try.underlying3 h1
  simp at hm hk
  exact ⟨m, k, by rw [hm, hk]⟩
theorem openHV {H : Type} {enc : TypeId × Value → H} {W : World} {r : Reach} {b : Nat} {v : Value} {d : DataW H} {p : List MemPlace} (hv : Value.okWide Try.prog W r b 29 v)
    (h : DataW.Trod enc Try.prog W 0 (fun _ => true) true 29 v d p) : ∃ m n : Int, v = .agg #[.int .i64 m, .int .i64 n] := by
  obtain ⟨cs, rfl, _⟩ := okWide_struct Try.underlying29 hv
  obtain ⟨fuel, hf⟩ := h
  obtain ⟨m, n, hx⟩ := openH (by simpa [Value.cells] using hf)
  exact ⟨m, n, by rw [← Array.toList_inj.1 (by simpa using hx : cs.toList = (#[.int .i64 m, .int .i64 n] : Array Value).toList)]⟩

/-- The table, and the handle that came in, behind k comings. -/
structure OthW (w : World) (ino gen : Int) (k : Nat) (W : World) : Prop where
  tab : inoI.TabW W (w.heap.size + 2) (w.heap.size + 3) (w.heap.size + 1) (inoI.filled (fun j => j) k 5)
  han : W.heap[w.heap.size]? = some (.cells #[.int .i64 ino, .int .i64 gen] 29 (0, 0))
  ext : Ext w W

set_option maxRecDepth 100000 in
set_option maxHeartbeats 4000000 in
theorem inodeOther_walk (w : World) (many : Int) (w0 : (Lit.int .i64 many).wf = true) (ino gen : Int) (x : Int) (_w2 : (Lit.int .i64 x).wf = true) :
    Calls Try.prog 5 #[.int .i64 many, .agg #[.int .i64 ino, .int .i64 gen], .int .i64 x] w fun r w' => r = .returned (.bool true) ∧ Ext w w' := by
  obtain ⟨n, hn, ha⟩ := around_nat many 6 (by omega) w0
  have HA := Lib.hid ha
  clear ha w0
  go_enter Try.func5, Try.ntmps5
  go_wp2_with fail
  refine (HA.out _).mono ?_
  rintro r wb ⟨rfl, rfl⟩
  go_wp2_with fail
  refine (inoI.new_yes 5 _ (by omega) (by omega)).mono ?_
  rintro r wa ⟨rfl, hma, hxa⟩
  simp only [World.size_alloc] at hma
  have MA := Lib.hid (show OthW w ino gen 0 wa from ⟨by rw [inoI.filled_zero]; exact hma, hxa.heap (heap_alloc_new w _), ((Ext.refl w).alloc _).trans hxa⟩)
  clear hma hxa
  go_wp2_with fail
  go_loopw [10] (fun v10 wr => ∃ i : Nat, i ≤ n ∧ v10 = .int .i64 i ∧ OthW w ino gen i wr) (fun v10 _ => n - (intOf v10).toNat)
  case atStart => exact ⟨0, by omega, rfl, MA.out⟩
  case round =>
    obtain ⟨i, hi, rfl, hM⟩ := hrel
    have HM := Lib.hid hM
    clear hM MA
    by_cases hlt : i < n
    · have hd : decide ((i : Int) < (n : Int)) = true := by simp; omega
      go_wp2_with fail
      refine (inoI.add_next _ _ _ _ i 5 (by omega) _ i rfl HM.out.tab).mono ?_
      rintro r w3 ⟨rfl, hm3, hu3⟩
      have M3 := Lib.hid (show OthW w ino gen (i + 1) w3 from ⟨hm3, hu3.heap HM.out.han (by simp), hu3.ext HM.out.ext (by simp)⟩)
      clear hm3 hu3
      go_wp2_with fail
      go_roundw
      case rel => exact ⟨i + 1, by omega, by go_num, M3.out⟩
      case measure => simp [intOf]; omega
    · have hd : decide ((i : Int) < (n : Int)) = false := by simp; omega
      obtain rfl : i = n := by omega
      have hsz := lt_of_heap HM.out.han
      obtain ⟨p0, p1, _, _⟩ := blk2 HM.out.han
      by_cases hin : 1 ≤ ino ∧ ino ≤ i ∧ gen = 1
      · obtain ⟨h1, h2, h3⟩ := hin
        have hd1 : decide (1 ≤ ino) = true := by simpa using h1
        have hd2 : decide (ino ≤ (i : Int)) = true := by simpa using h2
        obtain ⟨j, hj⟩ : ∃ j : Nat, ino = j + 1 := ⟨(ino - 1).toNat, by omega⟩
        subst hj
        subst h3
        have hji : j < i := by omega
        clear h1 h2
        have HL := Lib.hid (show j < (inoI.filled (fun j => j) i 5).length by rw [inoI.filled_len]; omega)
        have HAt := Lib.hid (show (inoI.filled (fun j => j) i 5)[j]'HL.out = ⟨true, 1, j⟩ by rw [inoI.filled_at, if_pos hji])
        have HAt2 := Lib.hid (show ((inoI.filled (fun j => j) i 5).set j ⟨true, 1, x⟩)[j]'(by rw [List.length_set]; exact HL.out) = ⟨true, 1, x⟩ by simp)
        have HCT := Lib.hid (show inoI.count (((inoI.filled (fun j => j) i 5).set j ⟨true, 1, x⟩).set j ⟨false, 1, 0⟩) = i - 1 by
          have h1 := inoI.count_set _ j HL.out ⟨false, 1, 0⟩
          rw [HAt.out, inoI.count_filled] at h1
          rw [List.set_set]
          simp at h1
          omega)
        go_wp2_with fail
        refine (inoI.get_ok _ _ _ _ _ j HL.out HM.out.tab (by rw [HAt.out]) 1 (by rw [HAt.out])).mono ?_
        rintro r w3 ⟨rfl, hx3⟩
        rw [HAt.out]
        have T3 := Lib.hid (HM.out.tab.ext hx3)
        have N3 := Lib.hid (hx3.heap HM.out.han)
        have X3 := Lib.hid (HM.out.ext.trans hx3)
        have hsz3 := lt_of_heap N3.out
        clear hx3 p0 p1
        obtain ⟨p0, p1, _, _⟩ := blk2 N3.out
        go_wp2_with fail
        refine (inoI.set_ok _ _ _ _ _ j HL.out x T3.out (by rw [HAt.out]) 1 (by rw [HAt.out])).mono ?_
        rintro r w4 ⟨rfl, hm4, hu4⟩
        have T4 := Lib.hid hm4
        have N4 := Lib.hid (hu4.heap N3.out (by simp))
        have X4 := Lib.hid (hu4.ext X3.out (by simp))
        have hsz4 := lt_of_heap N4.out
        clear hm4 hu4 p0 p1
        obtain ⟨p0, p1, _, _⟩ := blk2 N4.out
        go_wp2_with fail
        refine (inoI.get_ok _ _ _ _ _ j (by rw [List.length_set]; exact HL.out) T4.out (by rw [HAt2.out]) 1 (by rw [HAt2.out])).mono ?_
        rintro r w5 ⟨rfl, hx5⟩
        rw [HAt2.out]
        have T5 := Lib.hid (T4.out.ext hx5)
        have N5 := Lib.hid (hx5.heap N4.out)
        have X5 := Lib.hid (X4.out.trans hx5)
        have hsz5 := lt_of_heap N5.out
        clear hx5 p0 p1
        obtain ⟨p0, p1, _, _⟩ := blk2 N5.out
        go_wp2_with fail
        refine (inoI.remove_ok _ _ _ _ _ j (by rw [List.length_set]; exact HL.out) T5.out (by rw [HAt2.out]) 1 (by rw [HAt2.out])).mono ?_
        rintro r w6 ⟨rfl, hm6, hu6⟩
        have T6 := Lib.hid hm6
        have N6 := Lib.hid (hu6.heap N5.out (by simp))
        have X6 := Lib.hid (hu6.ext X5.out (by simp))
        have hsz6 := lt_of_heap N6.out
        clear hm6 hu6 p0 p1
        obtain ⟨p0, p1, _, _⟩ := blk2 N6.out
        have he1 : ((j : Int) == (j : Int) + 1 - 1) = true := by simp
        have he2 : (((i - 1 : Nat) : Int) == (i : Int) - 1) = true := by simp; omega
        go_wp2_with fail
        refine (inoI.len_any _ _ _ _ _ T6.out).mono ?_
        rintro r w7 ⟨rfl, rfl⟩
        rw [HCT.out]
        go_wp2_with fail
        refine (lives_any _).mono ?_
        rintro r w8 ⟨rfl, hx8⟩
        go_wp2_with fail
        go_ret
        exact ⟨rfl, X6.out.trans hx8⟩
      · have HS := Lib.hid (show inoI.Stale (inoI.filled (fun j => j) i 5) ino gen from fun j hj e hi' hg => by
          rw [inoI.filled_at] at hi' hg
          by_cases hji : j < i
          · rw [if_pos hji] at hg
            exact hin ⟨by omega, by omega, hg.symm⟩
          · rw [if_neg hji] at hi'
            cases hi')
        have HCT := Lib.hid (show inoI.count (inoI.filled (fun j => j) i 5) = i by rw [inoI.count_filled]; omega)
        have hcase : (decide (1 ≤ ino) = false) ∨ (decide (1 ≤ ino) = true ∧ decide (ino ≤ (i : Int)) = false) ∨ (decide (1 ≤ ino) = true ∧ decide (ino ≤ (i : Int)) = true ∧ (gen == 1) = false) := by
          by_cases h1 : 1 ≤ ino
          · by_cases h2 : ino ≤ (i : Int)
            · right; right; exact ⟨by simpa using h1, by simpa using h2, by simp; exact fun e => hin ⟨h1, h2, e⟩⟩
            · right; left; exact ⟨by simpa using h1, by simp; omega⟩
          · left; simp; omega
        clear hin
        rcases hcase with hd1 | ⟨hd1, hd2⟩ | ⟨hd1, hd2, hd3⟩
        all_goals
          go_wp2_with fail
          refine (inoI.get_no _ _ _ _ _ ino gen HM.out.tab HS.out).mono ?_
          rintro r w3 ⟨rfl, hx3⟩
          have T3 := Lib.hid (HM.out.tab.ext hx3)
          have N3 := Lib.hid (hx3.heap HM.out.han)
          have X3 := Lib.hid (HM.out.ext.trans hx3)
          have hsz3 := lt_of_heap N3.out
          clear hx3 p0 p1
          obtain ⟨p0, p1, _, _⟩ := blk2 N3.out
          go_wp2_with fail
          refine (inoI.set_no _ _ _ _ _ ino gen x T3.out HS.out).mono ?_
          rintro r w4 ⟨rfl, hx4⟩
          have T4 := Lib.hid (T3.out.ext hx4)
          have N4 := Lib.hid (hx4.heap N3.out)
          have X4 := Lib.hid (X3.out.trans hx4)
          have hsz4 := lt_of_heap N4.out
          clear hx4 p0 p1
          obtain ⟨p0, p1, _, _⟩ := blk2 N4.out
          go_wp2_with fail
          refine (inoI.get_no _ _ _ _ _ ino gen T4.out HS.out).mono ?_
          rintro r w5 ⟨rfl, hx5⟩
          have T5 := Lib.hid (T4.out.ext hx5)
          have N5 := Lib.hid (hx5.heap N4.out)
          have X5 := Lib.hid (X4.out.trans hx5)
          have hsz5 := lt_of_heap N5.out
          clear hx5 p0 p1
          obtain ⟨p0, p1, _, _⟩ := blk2 N5.out
          go_wp2_with fail
          refine (inoI.remove_no _ _ _ _ _ ino gen T5.out HS.out).mono ?_
          rintro r w6 ⟨rfl, hx6⟩
          have T6 := Lib.hid (T5.out.ext hx6)
          have X6 := Lib.hid (X5.out.trans hx6)
          clear hx6 p0 p1
          go_wp2_with fail
          refine (inoI.len_any _ _ _ _ _ T6.out).mono ?_
          rintro r w7 ⟨rfl, rfl⟩
          rw [HCT.out]
          go_wp2_with fail
          refine (lives_any _).mono ?_
          rintro r w8 ⟨rfl, hx8⟩
          go_wp2_with fail
          go_ret
          exact ⟨rfl, X6.out.trans hx8⟩
end Go.Proofs.Ytmdacpkkglhefaa
