/- Plain lemmas on places; the walks of lives and of the law InodeApart. -/
import Derived.Test.YtmdacpkkglhefaaInoI
import Derived.Test.YtmdacpkkglhefaaInoS
namespace Go.Proofs.Ytmdacpkkglhefaa
open Go.ChangeShapes Go.WideShapes Go.ChangeAt Go.RowKit

theorem around_any (n m : Int) (w : World) (hm : 0 < m) (hn : -9223372036854775808 ≤ n) (hn2 : n ≤ 9223372036854775807) :
    Calls Try.prog 8 #[.int .i64 n, .int .i64 m] w fun r w' => r = .returned (.int .i64 (arnd n m)) ∧ w = w' := by
  by_cases h : n < 0
  · have H := Lib.hid (arnd_neg n m h)
    go_enter Try.func8, Try.ntmps8
    go_wp2
    go_ret
    exact ⟨ret_int H.out.symm, rfl⟩
  · have H := Lib.hid (arnd_pos n m h)
    go_enter Try.func8, Try.ntmps8
    go_wp2
    go_ret
    exact ⟨ret_int H.out.symm, rfl⟩
/-- The same, its answer a natural number. -/
theorem around_nat (n : Int) (m : Nat) (hm : 0 < m) (hw : (Lit.int .i64 n).wf = true) : ∃ k : Nat, k < m ∧ ∀ W, Calls Try.prog 8 #[.int .i64 n, .int .i64 m] W fun r w' => r = .returned (.int .i64 k) ∧ W = w' := by
  have hn : -9223372036854775808 ≤ n ∧ n ≤ 9223372036854775807 := by simpa [Lit.wf, IntKind.min, IntKind.max, IntKind.signed, IntKind.bits] using hw
  have hab := arnd_bd n m (by omega)
  obtain ⟨k, hk⟩ := Int.eq_ofNat_of_zero_le hab.1
  exact ⟨k, by omega, fun W => (around_any n m W (by omega) hn.1 hn.2).mono fun r w' h => by rw [← hk]; exact h⟩

set_option maxHeartbeats 1000000 in
theorem lives_any (w : World) : Calls Try.prog 11 #[] w fun r w' => r = .returned (.bool true) ∧ Ext w w' := by
  go_enter Try.func11, Try.ntmps11
  go_wp2_with fail
  refine (inoS.new_yes 3 w (by omega) (by omega)).mono ?_
  rintro r w1 ⟨rfl, hm1, hx1⟩
  have M1 := Lib.hid hm1
  have X1 := Lib.hid hx1
  clear hm1 hx1
  go_wp2_with fail
  refine (inoS.add_ok _ _ _ _ _ ⟨#[120]⟩ M1.out 0 (by decide) (by decide) (fun j hj h => absurd h (by omega)) (by decide) (by decide)).mono ?_
  rintro r w2 ⟨rfl, hm2, hu2⟩
  have M2 := Lib.hid (hm2.ext ((Ext.refl w2).alloc (.cells #[.int .i64 1, .int .i64 1] 29)))
  have hw2 : w.heap.size < w2.heap.size := lt_of_heap hm2.pls
  have HH2 := Lib.hid (heap_alloc_new w2 (.cells #[.int .i64 1, .int .i64 1] 29))
  have U2 := Lib.hid ((hu2.ext X1.out (by simp)).alloc (.cells #[.int .i64 1, .int .i64 1] 29))
  clear hm2 hu2
  go_wp2_with fail
  refine (inoS.remove_ok _ _ _ _ _ 0 (by decide) M2.out (by rfl) 1 (by rfl)).mono ?_
  rintro r w3 ⟨rfl, hm3, hu3⟩
  have HH3 := Lib.hid (hu3.heap HH2.out (by simp; omega))
  have M3 := Lib.hid hm3
  have U3 := Lib.hid (hu3.ext U2.out (by simp))
  clear hm3 hu3
  go_wp2_with fail
  refine (inoS.add_ok _ _ _ _ _ ⟨#[121]⟩ M3.out 0 (by decide) (by rfl) (fun j hj h => absurd h (by omega)) (by decide) (by decide)).mono ?_
  rintro r w4 ⟨rfl, hm4, hu4⟩
  have hw4 : w2.heap.size < w4.heap.size := lt_of_heap (hu4.heap HH3.out (by simp; omega))
  have HH4 := Lib.hid (((Ext.refl w4).alloc (.cells #[.int .i64 1, .int .i64 2] 29)).heap (hu4.heap HH3.out (by simp; omega)))
  have HI4 := Lib.hid (heap_alloc_new w4 (.cells #[.int .i64 1, .int .i64 2] 29))
  have M4 := Lib.hid (hm4.ext ((Ext.refl w4).alloc (.cells #[.int .i64 1, .int .i64 2] 29)))
  have U4 := Lib.hid ((hu4.ext U3.out (by simp)).alloc (.cells #[.int .i64 1, .int .i64 2] 29))
  clear hm4 hu4
  go_wp2_with fail
  refine (inoS.get_ok _ _ _ _ _ 0 (by decide) M4.out (by rfl) 2 (by rfl)).mono ?_
  rintro r w5 ⟨rfl, hx5⟩
  have h2 := hx5.heap HH4.out
  have h4 := hx5.heap HI4.out
  have X5 := Lib.hid (U4.out.trans hx5)
  have g2 := lt_of_heap h2
  have g4 := lt_of_heap h4
  obtain ⟨p0, p1, _, _⟩ := blk2 h2
  obtain ⟨q0, q1, _, _⟩ := blk2 h4
  clear hx5 h2 h4
  go_wp2_with fail
  go_ret
  exact ⟨rfl, X5.out⟩

namespace inoI
/-- The first i of n places are filled, each once. -/
def filled (f : Nat → Int) (i n : Nat) : List Pl := (List.range n).map fun j => if j < i then ⟨true, 1, f j⟩ else Pl.zero
theorem filled_len (f : Nat → Int) (i n : Nat) : (filled f i n).length = n := by simp [filled]
theorem filled_zero (f : Nat → Int) (n : Nat) : filled f 0 n = List.replicate n Pl.zero := by
  apply List.ext_getElem <;> simp [filled]
theorem filled_at (f : Nat → Int) (i n j : Nat) (h : j < (filled f i n).length) : (filled f i n)[j] = if j < i then ⟨true, 1, f j⟩ else Pl.zero := by simp [filled]
theorem filled_set (f : Nat → Int) (i n : Nat) : (filled f i n).set i ⟨true, 1, f i⟩ = filled f (i + 1) n := by
  apply List.ext_getElem
  · simp [filled]
  · intro j h1 h2
    simp only [List.getElem_set, filled_at]
    by_cases hj : i = j
    · subst hj; simp
    · rw [if_neg hj]
      by_cases h : j < i
      · rw [if_pos h, if_pos (by omega)]
      · rw [if_neg h, if_neg (by omega)]
theorem count_app : ∀ a b : List Pl, count (a ++ b) = count a + count b
  | [], b => by simp [count]
  | p :: a, b => by simp [count, count_app a b]; omega
theorem count_filled (f : Nat → Int) (i n : Nat) : count (filled f i n) = min i n := by
  induction n with
  | zero => simp [filled, count]
  | succ n ih =>
    unfold filled at ih ⊢
    rw [List.range_succ, List.map_append, count_app, ih]
    by_cases h : n < i <;> simp [count, h, Pl.zero] <;> omega
theorem count_set : ∀ (ps : List Pl) (i : Nat) (h : i < ps.length) (q : Pl), count (ps.set i q) + (if ps[i].is then 1 else 0) = count ps + (if q.is then 1 else 0)
  | p :: ps, 0, h, q => by simp [count]; omega
  | p :: ps, i + 1, h, q => by
    have := count_set ps i (by simpa using h) q
    simp only [List.set_cons_succ, count, List.getElem_cons_succ]
    omega
/-- One more comes to places that are filled from the front. -/
theorem add_next (pb tb pl : Nat) (f : Nat → Int) (i n : Nat) (hi : i < n) (w : World) (x : Int) (hx : x = f i) (h : TabW w pb tb pl (filled f i n)) :
    Calls Try.prog 13 #[.pointer (some ⟨pb, 0, none⟩), .int .i64 x] w fun r w' => r = .returned (.tuple #[.agg #[.int .i64 (i + 1), .int .i64 1], .int .i64 0]) ∧
      TabW w' pb tb pl (filled f (i + 1) n) ∧ Upd [pl] w w' := by
  subst hx
  have hl : i < (filled f i n).length := by rw [filled_len]; exact hi
  have hat : (filled f i n)[i] = Pl.zero := by rw [filled_at, if_neg (by omega)]
  have := add_ok pb tb pl (filled f i n) w (f i) h i hl (by rw [hat]; rfl) (fun j hj hlt => by rw [filled_at, if_pos hlt]) (by rw [hat]; decide) (by rw [hat]; decide)
  rw [hat] at this
  rw [← filled_set]
  exact this
end inoI

set_option maxRecDepth 100000 in
set_option maxHeartbeats 2000000 in
theorem inodeApart_walk (many : Int) (w0 : (Lit.int .i64 many).wf = true) (a : Int) (w1 : (Lit.int .i64 a).wf = true) (b : Int) (w2 : (Lit.int .i64 b).wf = true) (x : Int) (_w3 : (Lit.int .i64 x).wf = true) (w : World) :
    Calls Try.prog 6 #[.int .i64 many, .int .i64 a, .int .i64 b, .int .i64 x] w fun r w' => r = .returned (.bool true) ∧ Ext w w' := by
  obtain ⟨n, hn, ha⟩ := around_nat many 8 (by omega) w0
  have HA := Lib.hid ha
  obtain ⟨p, hp, hb⟩ := around_nat a (1 + n) (by omega) w1
  have HB := Lib.hid hb
  obtain ⟨q, hq, hc⟩ := around_nat b (1 + n) (by omega) w2
  have HC := Lib.hid hc
  clear ha hb hc w0 w1 w2
  go_enter Try.func6, Try.ntmps6
  go_wp2_with fail
  refine (HA.out w).mono ?_
  rintro r wb ⟨rfl, rfl⟩
  go_wp2_with fail
  refine (inoI.new_yes 8 w (by omega) (by omega)).mono ?_
  rintro r wa ⟨rfl, hma, hxa⟩
  have MA := Lib.hid hma
  have XA := Lib.hid hxa
  clear hma hxa
  go_wp2_with fail
  go_loopw [12] (fun v12 wr => ∃ i : Nat, i ≤ 1 + n ∧ v12 = .int .i64 i ∧ inoI.TabW wr (w.heap.size + 1) (w.heap.size + 2) w.heap.size (inoI.filled (fun j => 10 + j) i 8) ∧ Ext w wr) (fun v12 _ => 1 + n - (intOf v12).toNat)
  case atStart => exact ⟨0, by omega, rfl, by rw [inoI.filled_zero]; exact MA.out, XA.out⟩
  case round =>
    obtain ⟨i, hi, rfl, hM, hX⟩ := hrel
    have HM := Lib.hid hM
    have HX := Lib.hid hX
    clear hM hX
    by_cases hlt : i < 1 + n
    · have hd : decide ((i : Int) < 1 + (n : Int)) = true := by simp; omega
      go_wp2_with fail
      refine (inoI.add_next _ _ _ _ i 8 (by omega) _ (10 + i) rfl HM.out).mono ?_
      rintro r w3 ⟨rfl, hm3, hu3⟩
      have M3 := Lib.hid hm3
      have X3 := Lib.hid (hu3.ext HX.out (by simp))
      clear hm3 hu3
      go_wp2_with fail
      go_roundw
      case rel => exact ⟨i + 1, by omega, by go_num, M3.out, X3.out⟩
      case measure => simp [intOf]; omega
    · have hd : decide ((i : Int) < 1 + (n : Int)) = false := by simp; omega
      obtain rfl : i = 1 + n := by omega
      go_wp2_with fail
      refine (HB.out _).mono ?_
      rintro r w3 ⟨rfl, rfl⟩
      go_wp2_with fail
      refine (HC.out _).mono ?_
      rintro r w3 ⟨rfl, rfl⟩
      go_wp2_with fail
      have hpl : p < (inoI.filled (fun j => 10 + j) (1 + n) 8).length := by rw [inoI.filled_len]; omega
      have hql : q < (inoI.filled (fun j => 10 + j) (1 + n) 8).length := by rw [inoI.filled_len]; omega
      have hpa : (inoI.filled (fun j => 10 + j) (1 + n) 8)[p] = ⟨true, 1, 10 + p⟩ := by rw [inoI.filled_at, if_pos hp]
      have hqa : (inoI.filled (fun j => 10 + j) (1 + n) 8)[q] = ⟨true, 1, 10 + q⟩ := by rw [inoI.filled_at, if_pos hq]
      have HCT := Lib.hid (show inoI.count ((inoI.filled (fun j => 10 + j) (1 + n) 8).set p ⟨true, 1, x⟩) = 1 + n by
        have h1 := inoI.count_set _ p hpl ⟨true, 1, x⟩
        rw [hpa, inoI.count_filled] at h1
        simp at h1
        omega)
      refine (inoI.set_ok _ _ _ _ _ p hpl x HM.out (by rw [hpa]) 1 (by rw [hpa])).mono ?_
      rintro r w4 ⟨rfl, hm4, hu4⟩
      have M4 := Lib.hid hm4
      have X4 := Lib.hid (hu4.ext HX.out (by simp))
      have HPA := Lib.hid hpa
      have HQA := Lib.hid hqa
      have HQL := Lib.hid hql
      clear hm4 hu4 hpa hqa
      by_cases hpq : p = q
      · subst hpq
        have hdq : ((p : Int) == (p : Int)) = true := by simp
        have HG := Lib.hid (show ((inoI.filled (fun j => 10 + j) (1 + n) 8).set p ⟨true, 1, x⟩)[p]'(by rw [List.length_set]; exact HQL.out) = ⟨true, 1, x⟩ by simp)
        go_wp2_with fail
        refine (inoI.get_ok _ _ _ _ _ p (by rw [List.length_set]; exact HQL.out) M4.out (by rw [HG.out]) 1 (by rw [HG.out])).mono ?_
        rintro r w5 ⟨rfl, hx5⟩
        rw [HG.out]
        have M5 := Lib.hid (M4.out.ext hx5)
        have X5 := Lib.hid (X4.out.trans hx5)
        clear hx5
        go_wp2_with fail
        refine (inoI.len_any _ _ _ _ _ M5.out).mono ?_
        rintro r w6 ⟨rfl, rfl⟩
        rw [HCT.out]
        go_wp2_with fail
        refine (lives_any _).mono ?_
        rintro r w7 ⟨rfl, hx7⟩
        go_wp2_with fail
        go_ret
        exact ⟨rfl, X5.out.trans hx7⟩
      · have hdq : ((p : Int) == (q : Int)) = false := by simp; omega
        have HG := Lib.hid (show ((inoI.filled (fun j => 10 + j) (1 + n) 8).set p ⟨true, 1, x⟩)[q]'(by rw [List.length_set]; exact HQL.out) = ⟨true, 1, 10 + q⟩ by rw [List.getElem_set, if_neg hpq]; exact HQA.out)
        go_wp2_with fail
        refine (inoI.get_ok _ _ _ _ _ q (by rw [List.length_set]; exact HQL.out) M4.out (by rw [HG.out]) 1 (by rw [HG.out])).mono ?_
        rintro r w5 ⟨rfl, hx5⟩
        rw [HG.out]
        have M5 := Lib.hid (M4.out.ext hx5)
        have X5 := Lib.hid (X4.out.trans hx5)
        clear hx5
        go_wp2_with fail
        refine (inoI.len_any _ _ _ _ _ M5.out).mono ?_
        rintro r w6 ⟨rfl, rfl⟩
        rw [HCT.out]
        go_wp2_with fail
        refine (lives_any _).mono ?_
        rintro r w7 ⟨rfl, hx7⟩
        go_wp2_with fail
        go_ret
        exact ⟨rfl, X5.out.trans hx7⟩
end Go.Proofs.Ytmdacpkkglhefaa
