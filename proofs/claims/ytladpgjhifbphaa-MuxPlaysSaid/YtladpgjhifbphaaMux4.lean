/- The walks of the laws MuxSkips and MuxRounds. -/
import Derived.Test.YtladpgjhifbphaaMux3
namespace Go.Proofs.Ytladpgjhifbphaa
open Go.ChangeShapes Go.WideShapes Go.ChangeAt Go.RowKit

theorem call_at (pb mb : Nat) (next most : Int) (l : List MC) (p x : Int) (w : World) (h : MuxW w pb mb next most l) (hf : l.length < most) (hn : 0 ≤ next) (hn2 : next < 4294967296) (j : Nat) (hj : Free l next j) (hj2 : j < 4294967296)
    (xid nx : Int) (hx : (next + j) % 4294967296 = xid) (hnx : (next + j + 1) % 4294967296 = nx) :
    Calls Try.prog 11 #[.pointer (some ⟨pb, 0, none⟩), .int .u32 p, .int .i64 x] w fun r w' => r = .returned (.tuple #[.int .u32 xid, .int .i64 0]) ∧
      MuxW w' pb mb nx most (l ++ [(⟨xid, p, x⟩ : MC)]) ∧ Upd [pb, mb] w w' := by
  subst hx hnx
  exact call_room pb mb next most l p x w h hf hn hn2 j hj hj2

theorem lookC_app {l : List MC} {c : MC} (h : lookC l c.k = none) : lookC (l ++ [c]) c.k = some c := by
  induction l with
  | nil => simp [lookC]
  | cons d l ih =>
    unfold lookC at h
    by_cases hd : d.k = c.k
    · rw [if_pos hd] at h; cases h
    · rw [if_neg hd] at h
      simp [lookC, hd, ih h]
theorem delC_app {l : List MC} {c : MC} (h : lookC l c.k = none) : delC (l ++ [c]) c.k = l := by
  induction l with
  | nil => simp [delC]
  | cons d l ih =>
    unfold lookC at h
    by_cases hd : d.k = c.k
    · rw [if_pos hd] at h; cases h
    · rw [if_neg hd] at h
      simp [delC, hd, ih h]

/-- Calls one behind the other. -/
def seqL (first : Int) (n : Nat) : List MC := (List.range n).map fun i : Nat => (⟨(first + i) % 4294967296, 1, i⟩ : MC)
theorem seqL_succ (first : Int) (n : Nat) : seqL first (n + 1) = seqL first n ++ [(⟨(first + n) % 4294967296, 1, n⟩ : MC)] := by
  simp [seqL, List.range_succ]
theorem seqL_len (first : Int) (n : Nat) : (seqL first n).length = n := by simp [seqL]
theorem seqL_none {first k : Int} {n : Nat} (h : ∀ i : Nat, i < n → (first + i) % 4294967296 ≠ k) : lookC (seqL first n) k = none := by
  rw [lookC_none]
  intro c hc
  simp only [seqL, List.mem_map, List.mem_range] at hc
  obtain ⟨i, hi, rfl⟩ := hc
  exact h i hi
theorem seqL_some {first : Int} {n i : Nat} (h : i < n) : (lookC (seqL first n) ((first + i) % 4294967296)).isSome = true := by
  cases hl : lookC (seqL first n) ((first + i) % 4294967296) with
  | some c => rfl
  | none =>
    rw [lookC_none] at hl
    exact absurd rfl (hl _ (List.mem_map.2 ⟨i, List.mem_range.2 h, rfl⟩))
theorem seqL_free (first : Int) (n : Nat) (hn : n < 4294967296) : Free (seqL first n) ((first + n) % 4294967296) 0 :=
  Free.zero (by omega) (by omega) (seqL_none fun i hi => by omega)
theorem skip_far (first : Int) (n k : Nat) (hn : n ≤ 5) (hk : k ≤ 5) (h : n < k) : Free (seqL first n) ((first + n - k) % 4294967296) 0 :=
  Free.zero (by omega) (by omega) (seqL_none fun i hi => by omega)
theorem skip_near (first : Int) (n k : Nat) (hn : n ≤ 5) (h : k ≤ n) : Free (seqL first n) ((first + n - k) % 4294967296) k := by
  refine ⟨seqL_none fun i hi => by omega, fun i hi => ?_⟩
  have := seqL_some (first := first) (n := n) (i := n - k + i) (by omega)
  rw [show ((first + n - k) % 4294967296 + i) % 4294967296 = (first + ((n - k + i : Nat) : Int)) % 4294967296 by omega]
  exact this

/-- Which number is given, when the next one has gone back by k. -/
theorem skip_at (first : Int) (n k : Nat) (hn : n ≤ 5) (hk : k ≤ 5) : ∃ j : Nat, Free (seqL first n) ((first + n - k) % 4294967296) j ∧ j ≤ 5 ∧ ∃ x nx : Int, ((first + n - k) % 4294967296 + j) % 4294967296 = x ∧ ((first + n - k) % 4294967296 + j + 1) % 4294967296 = nx ∧
    ((n < k → x = (first + n - k) % 4294967296) ∧ (¬ n < k → x = (first + n) % 4294967296)) := by
  by_cases h : n < k
  · exact ⟨0, skip_far first n k hn hk h, by omega, _, _, rfl, rfl, fun _ => by omega, fun h' => absurd h h'⟩
  · exact ⟨k, skip_near first n k hn (by omega), hk, _, _, rfl, rfl, fun h' => absurd h' h, fun _ => by omega⟩

set_option maxHeartbeats 2000000 in
theorem muxSkips_walk (first : Int) (w0 : (Lit.int .u32 first).wf = true) (many : Int) (w1 : (Lit.int .i64 many).wf = true) (back : Int) (w2 : (Lit.int .i64 back).wf = true) (w : World) :
    Calls Try.prog 6 #[.int .u32 first, .int .i64 many, .int .i64 back] w fun r w' => r = .returned (.bool true) ∧ Ext w w' := by
  have hf : 0 ≤ first ∧ first ≤ 4294967295 := by simpa [Lit.wf, IntKind.min, IntKind.max, IntKind.signed, IntKind.bits] using w0
  have hm : -9223372036854775808 ≤ many ∧ many ≤ 9223372036854775807 := by simpa [Lit.wf, IntKind.min, IntKind.max, IntKind.signed, IntKind.bits] using w1
  have hb : -9223372036854775808 ≤ back ∧ back ≤ 9223372036854775807 := by simpa [Lit.wf, IntKind.min, IntKind.max, IntKind.signed, IntKind.bits] using w2
  have hab := arnd_bd many 6 (by omega)
  obtain ⟨n, hn⟩ := Int.eq_ofNat_of_zero_le hab.1
  have hn5 : n ≤ 5 := by omega
  have HA := Lib.hid (show ∀ W, Calls Try.prog 9 #[.int .i64 many, .int .i64 6] W fun r w' => r = .returned (.int .i64 (n : Nat)) ∧ W = w' from
    fun W => (around_any many 6 W (by omega) hm.1 hm.2).mono fun r w' h => by rw [← hn]; exact h)
  have hbb := arnd_bd back 6 (by omega)
  obtain ⟨k, hk⟩ := Int.eq_ofNat_of_zero_le hbb.1
  have hk5 : k ≤ 5 := by omega
  have HB := Lib.hid (show ∀ W, Calls Try.prog 9 #[.int .i64 back, .int .i64 6] W fun r w' => r = .returned (.int .i64 (k : Nat)) ∧ W = w' from
    fun W => (around_any back 6 W (by omega) hb.1 hb.2).mono fun r w' h => by rw [← hk]; exact h)
  clear w0 w1 w2 hn hk hab hbb hm hb
  go_enter Try.func6, Try.ntmps6
  go_wp2_with fail
  refine (new_yes first 7 w (by omega) (by omega)).mono ?_
  rintro r wa ⟨rfl, hma, hxa⟩
  have MA := Lib.hid hma
  have XA := Lib.hid hxa
  clear hma hxa
  go_wp2_with fail
  refine (HA.out _).mono ?_
  rintro r wb ⟨rfl, rfl⟩
  go_wp2_with fail
  go_loopw [10] (fun v10 wr => ∃ i : Nat, i ≤ n ∧ v10 = .int .i64 i ∧ MuxW wr (w.heap.size + 1) w.heap.size ((first + i) % 4294967296) 7 (seqL first i) ∧ Upd [w.heap.size + 1, w.heap.size] wa wr) (fun v10 _ => n - (intOf v10).toNat)
  case atStart => exact ⟨0, by omega, rfl, by rw [show (first + (0 : Nat)) % 4294967296 = first by omega]; exact MA.out, Upd.refl _ _⟩
  case round =>
    obtain ⟨i, hi, rfl, hM, hU⟩ := hrel
    have HM := Lib.hid hM
    have HU := Lib.hid hU
    clear hM hU
    by_cases hlt : i < n
    · have hd : decide ((i : Int) < (n : Int)) = true := by simp; omega
      go_wp2_with fail
      refine (call_at _ _ _ _ _ 1 i _ HM.out (by rw [seqL_len]; omega) (by omega) (by omega) 0 (seqL_free first i (by omega)) (by omega) ((first + i) % 4294967296) ((first + (i + 1 : Nat)) % 4294967296) (by omega) (by omega)).mono ?_
      rintro r w3 ⟨rfl, hm3, hu3⟩
      have M3 := Lib.hid hm3
      have U3 := Lib.hid (HU.out.trans hu3)
      clear hm3 hu3
      go_wp2_with fail
      go_roundw
      case rel => exact ⟨i + 1, by omega, by go_num, by rw [seqL_succ]; exact M3.out, U3.out⟩
      case measure => simp [intOf]; omega
    · have hd : decide ((i : Int) < (n : Int)) = false := by simp; omega
      obtain rfl : i = n := by omega
      go_wp2_with fail
      refine (HB.out _).mono ?_
      rintro r wb ⟨rfl, rfl⟩
      go_wp2_with fail
      refine (seek_any _ _ _ _ _ _ _ HM.out).mono ?_
      rintro r w3 ⟨rfl, hm3, hu3⟩
      have M3 := Lib.hid hm3
      have U3 := Lib.hid (HU.out.trans hu3)
      clear hm3 hu3
      go_wp2_with fail
      obtain ⟨j, hj, hjk, x, nx, hxe, hnx, hxv⟩ := skip_at first i k hn5 hk5
      refine (call_at _ _ _ _ _ 2 9 _ M3.out (by rw [seqL_len]; omega) (by omega) (by omega) j hj (by omega) x nx hxe hnx).mono ?_
      rintro r w4 ⟨rfl, hm4, hu4⟩
      have hfree := hj.free
      rw [hxe] at hfree
      have M4 := Lib.hid hm4
      have U4 := Lib.hid (U3.out.trans hu4)
      have HF := Lib.hid hfree
      have HX := Lib.hid hxv
      clear hm4 hu4 hfree hxv hxe hnx hj
      have finish : ∀ wx, Upd [w.heap.size + 1, w.heap.size] w4 wx → Calls Try.prog 13 #[] wx fun r w' => r = .returned (.bool true) ∧ Ext w w' :=
        fun wx hx => (lives_any wx).mono fun r w' h => ⟨h.1, ((U4.out.trans hx).trans (h.2.upd _)).ext XA.out (by simp)⟩
      have HFin := Lib.hid finish
      clear finish
      have HMatch := Lib.hid (show Calls Try.prog 12 #[.pointer (some ⟨w.heap.size + 1, 0, none⟩), .int .u32 x, .int .u32 2] w4 fun r w' => r = .returned (.tuple #[.int .i64 9, .int .i64 0]) ∧
          (∃ nx, MuxW w' (w.heap.size + 1) w.heap.size nx 7 (seqL first i)) ∧ Upd [w.heap.size + 1, w.heap.size] w4 w' from
        (match_ok _ _ _ _ _ x ⟨x, 2, 9⟩ _ M4.out (lookC_app (c := ⟨x, 2, 9⟩) HF.out)).mono fun r w' h => ⟨h.1, ⟨nx, by have := h.2.1; rw [delC_app (c := ⟨x, 2, 9⟩) HF.out] at this; exact this⟩, h.2.2⟩)
      by_cases hki : i < k
      · have hd2 : decide ((i : Int) < (k : Int)) = true := by simp; omega
        have hxx := HX.out.1 hki
        subst hxx
        go_wp2_with fail
        refine HMatch.out.mono ?_
        rintro r w5 ⟨rfl, ⟨ny, hm5⟩, hu5⟩
        have M5 := Lib.hid hm5
        have U5 := Lib.hid hu5
        clear hm5 hu5
        go_wp2_with fail
        refine (len_any _ _ _ _ _ _ M5.out).mono ?_
        rintro r w6 ⟨rfl, rfl⟩
        rw [seqL_len]
        go_wp2_with fail
        refine (HFin.out _ U5.out).mono ?_
        rintro r w7 ⟨rfl, hx7⟩
        go_wp2_with fail
        go_ret
        exact ⟨rfl, hx7⟩
      · have hd2 : decide ((i : Int) < (k : Int)) = false := by simp; omega
        have hxx := HX.out.2 hki
        subst hxx
        go_wp2_with fail
        refine HMatch.out.mono ?_
        rintro r w5 ⟨rfl, ⟨ny, hm5⟩, hu5⟩
        have M5 := Lib.hid hm5
        have U5 := Lib.hid hu5
        clear hm5 hu5
        go_wp2_with fail
        refine (len_any _ _ _ _ _ _ M5.out).mono ?_
        rintro r w6 ⟨rfl, rfl⟩
        rw [seqL_len]
        go_wp2_with fail
        refine (HFin.out _ U5.out).mono ?_
        rintro r w7 ⟨rfl, hx7⟩
        go_wp2_with fail
        go_ret
        exact ⟨rfl, hx7⟩
end Go.Proofs.Ytladpgjhifbphaa
