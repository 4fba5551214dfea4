/- The walk of the law MarkBounds. -/
import Derived.Test.YtggojigbflbloaaMk7
namespace Go.Proofs.Ytggojigbflbloaa
open Go.ChangeShapes Go.WideShapes Go.ChangeAt Go.RowKit

theorem run_makeBytes (k : Nat) (hk : k ≤ 5000) (w : World) :
    (Instr.makeSlice 28 (.int .i64 k) (.int .i64 k)).run Try.prog w = .ok (.slice (some ⟨w.heap.size, 0, none⟩) k k) (w.alloc (.cells (Array.replicate k (Value.int .u8 0)) 5)) := by
  obtain ⟨i0, hi, hz0, hz1, hz2⟩ := info_parts infoU8
  have h := run_make (P := Try.prog) w 28 5 i0 (.int .u8 0) Try.underlying28 hi hz0 .i64 .i64 k k (by omega) (by omega) (by rw [hz2]; omega) (by omega)
  rw [h, hz1]
  have : madeCells (Value.int .u8 0).cells ((k : Int).toNat * 1) = Array.replicate k (Value.int .u8 0) := by
    apply Array.ext
    · simp [madeCells]
    · intro i h1 h2
      simp [madeCells, Value.cells, Nat.mod_one]
  rw [this]
  simp
theorem zeros_row (k : Nat) (hk : k ≤ 5000) (w : World) : IsRow .u8 (w.alloc (.cells (Array.replicate k (Value.int .u8 0)) 5)) (some ⟨w.heap.size, 0, none⟩) k k (List.replicate k 0) := by
  refine ⟨by simp, by omega, by unfold maxLen; omega, fun z hz => by rw [List.eq_of_mem_replicate hz]; rfl, .inr ⟨w.heap.size, 0, rfl, fun i hi => ?_⟩⟩
  rw [cell_of (heap_alloc_new w _)]
  simp [hi, List.getD]
theorem ans_4096 (zs : List Int) (h : zs.length ≤ 4096) : (ans zs 4096).2 = 0 := by
  unfold ans
  have hc : cnt zs.length 4096 ≤ 1 := by
    unfold cnt
    split
    · omega
    · have := (Nat.div_lt_iff_lt_mul (k := 4096) (x := zs.length + 4096 - 1) (y := 2) (by omega)).2 (by omega); omega
  rw [if_neg (by omega), if_neg (by omega), if_neg (by have e : (4096 : Int).toNat = 4096 := rfl; rw [e]; omega)]
theorem ans_4096' (zs : List Int) (h : 4096 < zs.length) : (ans zs 4096).2 = 4 := by
  unfold ans
  rw [if_neg (by omega), if_pos h]

set_option maxRecDepth 100000 in
set_option maxHeartbeats 2000000 in
theorem markBounds_walk (n : Int) (w0 : (Lit.int .i64 n).wf = true) (size : Int) (w1 : (Lit.int .i64 size).wf = true) (w : World) :
    Calls Try.prog 5 #[.int .i64 n, .int .i64 size] w fun r w' => r = .returned (.bool true) ∧ Ext w w' := by
  obtain ⟨k0, hk0, ha⟩ := around_nat n 12 (by omega) w0
  obtain ⟨s0, hs0, hb⟩ := around_nat size 11 (by omega) w1
  have HA := Lib.hid ha
  have HB := Lib.hid hb
  clear ha hb w0 w1
  go_enter Try.func5, Try.ntmps5
  go_wp2_with fail
  refine (HA.out _).mono ?_
  rintro r wb ⟨rfl, rfl⟩
  go_wp2_with fail
  refine (HB.out _).mono ?_
  rintro r wb ⟨rfl, rfl⟩
  obtain ⟨k, hk⟩ : ∃ k : Nat, k = 4090 + k0 := ⟨_, rfl⟩
  have e1 : (4090 : Int) + (k0 : Int) = (k : Int) := by omega
  rw [e1]
  have hkb : k ≤ 4101 := by omega
  clear e1 hk
  have hmk := run_makeBytes k (by omega) w
  obtain ⟨W, hW⟩ : ∃ W, W = w.alloc (.cells (Array.replicate k (Value.int .u8 0)) 5) := ⟨_, rfl⟩
  have HR := Lib.hid (show IsRow .u8 W (some ⟨w.heap.size, 0, none⟩) k k (List.replicate k 0) by rw [hW]; exact zeros_row k (by omega) w)
  have HX := Lib.hid (show Ext w W by rw [hW]; exact (Ext.refl w).alloc _)
  have hgW : w.heap.size < W.heap.size := by rw [hW]; simp
  rw [← hW] at hmk
  clear hW
  obtain ⟨s, hs⟩ : ∃ s : Nat, s = 60 + s0 := ⟨_, rfl⟩
  have hsb : s ≤ 70 := by omega
  have hs1 : 60 ≤ s := by omega
  have HS := Lib.hid (show (60 : Int) + (s0 : Int) = (s : Int) by omega)
  clear hs
  generalize hzs : List.replicate k (0 : Int) = zs at *
  have hzl : zs.length = k := by rw [← hzs]; simp
  have HZ1 := Lib.hid (ans_4096 zs)
  have HZ2 := Lib.hid (ans_4096' zs)
  have HM3 := Lib.hid (fun V (hV : Ext W V) => mark_any (some ⟨w.heap.size, 0, none⟩) k k zs 4096 V (HR.out.ext hV) (.inr ⟨_, _, rfl⟩) (by omega))
  have HM := Lib.hid (mark_any (some ⟨w.heap.size, 0, none⟩) k k zs s W HR.out (.inr ⟨_, _, rfl⟩) (by omega))
  have HMr := Lib.hid (fun V (hV : Ext W V) => refMark_any (some ⟨w.heap.size, 0, none⟩) k k zs s V (HR.out.ext hV) (.inr ⟨_, _, rfl⟩) (by omega))
  have HZ3 := Lib.hid (show (k ≤ 4096 → (ans zs 4096).2 = 0) ∧ (4096 < k → (ans zs 4096).2 = 4) from ⟨fun h => HZ1.out (by omega), fun h => HZ2.out (by omega)⟩)
  clear hzs hzl HZ1 HZ2
  generalize ans zs 4096 = a3 at *
  generalize ans zs s = a1 at *
  obtain ⟨b1, e1⟩ := a1
  obtain ⟨b3, e3⟩ := a3
  go_wp2_with fail
  rw [HS.out]
  refine HM.out.mono ?_
  rintro r w2 ⟨v2, rfl, hO2, hX2⟩
  have HO2 := Lib.hid hO2
  have HX2 := Lib.hid hX2
  clear hO2 hX2
  go_wp2_with fail
  refine (HMr.out _ HX2.out).mono ?_
  rintro r w3 ⟨v3, rfl, hO3, hX3⟩
  have HO3 := Lib.hid hO3
  have HO2' := Lib.hid (HO2.out.ext hX3)
  have HX3 := Lib.hid (HX2.out.trans hX3)
  clear hO3 hX3
  go_wp2_with fail
  refine (HM3.out _ HX3.out).mono ?_
  rintro r w4 ⟨v4, rfl, hO4, hX4⟩
  have s3 := (HO3.out.ext hX4).str
  have s2 := (HO2'.out.ext hX4).str
  have HX4 := Lib.hid (HX.out.trans (HX3.out.trans hX4))
  clear hO4 hX4
  by_cases hle : k ≤ 4096
  · have he := HZ3.out.1 hle
    subst he
    have hd : decide ((k : Int) ≤ 4096) = true := by simp; omega
    go_wp2_with fail
    refine (lives_any _).mono ?_
    rintro r w7 ⟨rfl, hx7⟩
    go_wp2_with fail
    go_ret
    exact ⟨rfl, HX4.out.trans hx7⟩
  · have he := HZ3.out.2 (by omega)
    subst he
    have hd : decide ((k : Int) ≤ 4096) = false := by simp; omega
    go_wp2_with fail
    refine (lives_any _).mono ?_
    rintro r w7 ⟨rfl, hx7⟩
    go_wp2_with fail
    go_ret
    exact ⟨rfl, HX4.out.trans hx7⟩
end Go.Proofs.Ytggojigbflbloaa
