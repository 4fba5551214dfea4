/- The mux of texts, ahead of its first call; the walk of the law MuxNews. -/
import Derived.Test.YtladpgjhifbphaaMux4
namespace Go.Proofs.Ytladpgjhifbphaa
open Go.ChangeShapes Go.WideShapes Go.ChangeAt Go.RowKit

/-- The mux of texts behind the pointer to block pb. -/
structure MuxS (w : World) (pb mb : Nat) (next most : Int) (l : List (Int × Value)) : Prop where
  ptr : w.heap[pb]? = some (.cells #[.int .u32 next, .int .i64 most, .map (some mb)] 76 (0, 0))
  map : MapIs w mb .u32 l
theorem MuxS.ne {w : World} {pb mb : Nat} {next most : Int} {l : List (Int × Value)} (h : MuxS w pb mb next most l) : pb ≠ mb := by
  rintro rfl
  obtain ⟨es, clock, h1, _⟩ := h.map
  rw [h.ptr] at h1
  cases h1
theorem MuxS.ext {w w' : World} {pb mb : Nat} {next most : Int} {l : List (Int × Value)} (h : MuxS w pb mb next most l) (k : Ext w w') : MuxS w' pb mb next most l := ⟨k.heap h.ptr, h.map.ext k⟩
theorem zero78 (w : World) : (zeroValue 78).run Try.prog w = .ok (.agg #[.int .u32 0, .string ⟨#[]⟩]) w := by kernel_rfl

theorem snew_no (first most : Int) (w : World) (h : most < 1 ∨ 16 < most) :
    Calls Try.prog 14 #[.int .u32 first, .int .i64 most] w fun r w' => r = .returned (.tuple #[.pointer none, .int .i64 1]) ∧ w = w' := by
  by_cases h1 : most < 1
  · have hd : decide (most < 1) = true := by simpa using h1
    go_enter Try.func14, Try.ntmps14
    go_wp2
    go_ret2
    exact ⟨rfl, rfl⟩
  · have hd : decide (most < 1) = false := by simpa using h1
    have hd2 : decide (16 < most) = true := by simp; omega
    go_enter Try.func14, Try.ntmps14
    go_wp2
    go_ret2
    exact ⟨rfl, rfl⟩
theorem snew_yes (first most : Int) (w : World) (h1 : 1 ≤ most) (h2 : most ≤ 16) :
    Calls Try.prog 14 #[.int .u32 first, .int .i64 most] w fun r w' => r = .returned (.tuple #[.pointer (some ⟨w.heap.size + 1, 0, none⟩), .int .i64 0]) ∧ MuxS w' (w.heap.size + 1) w.heap.size first most [] ∧ Ext w w' := by
  have hd : decide (most < 1) = false := by simp; omega
  have hd2 : decide (16 < most) = false := by simp; omega
  have hmm := @run_makeMap Try.prog
  go_enter Try.func14, Try.ntmps14
  go_wp2
  go_ret2
  exact ⟨rfl, ⟨heap_alloc2_new w _ _, ((MapIs.new w .u32).ext ((Ext.refl _).alloc _))⟩, ((Ext.refl w).alloc _).alloc _⟩
theorem shas_none (pb mb : Nat) (next most : Int) (k : Int) (w : World) (h : MuxS w pb mb next most []) :
    Calls Try.prog 29 #[.pointer (some ⟨pb, 0, none⟩), .int .u32 k] w fun r w' => r = .returned (.bool false) ∧ Ext w w' := by
  have hl := h.map.lookup (P := Try.prog) Try.underlying74 Try.underlying22 (zero78 w) k
  simp only [look, Option.getD_none, Option.isSome_none] at hl
  obtain ⟨c0, c1, c2, f0, f1, f2⟩ := blk3 h.ptr
  have hpb := lt_of_heap h.ptr
  clear h
  go_enter Try.func29, Try.ntmps29
  go_wp2
  go_ret
  exact ⟨rfl, (Ext.refl w).alloc _⟩
theorem slen_any (pb mb : Nat) (next most : Int) (l : List (Int × Value)) (w : World) (h : MuxS w pb mb next most l) :
    Calls Try.prog 16 #[.pointer (some ⟨pb, 0, none⟩)] w fun r w' => r = .returned (.int .i64 l.length) ∧ w = w' := by
  have hl := Lib.hid (h.map.len (P := Try.prog) Try.underlying74 3)
  obtain ⟨c0, c1, c2, f0, f1, f2⟩ := blk3 h.ptr
  have hpb := lt_of_heap h.ptr
  clear h
  go_enter Try.func16, Try.ntmps16
  go_wp2_with (at_len; refine wpList_len_run rfl _ _ rfl _ _ rfl hl.out ?_)
  go_ret
  exact ⟨rfl, rfl⟩
set_option maxHeartbeats 1000000 in
theorem scall_first (pb mb : Nat) (next most : Int) (p : Int) (x : ByteArray) (w : World) (h : MuxS w pb mb next most []) (hf : 1 ≤ most) (hn : 0 ≤ next) (hn2 : next < 4294967296) :
    Calls Try.prog 15 #[.pointer (some ⟨pb, 0, none⟩), .int .u32 p, .string x] w fun r w' => r = .returned (.tuple #[.int .u32 next, .int .i64 0]) ∧
      (∃ nx v, MuxS w' pb mb nx most [(next, v)]) ∧ Upd [pb, mb] w w' := by
  have hlen := (h.map.ext (drew_ext w)).len (P := Try.prog) Try.underlying74 3
  simp only [List.length_nil] at hlen
  obtain ⟨c0, c1, c2, f0, f1, f2⟩ := blk3 h.ptr
  have hpb := lt_of_heap h.ptr
  have hd : decide (most ≤ 0) = false := by simp; omega
  have hd' : decide (most ≤ ((0 : Nat) : Int)) = false := by simp; omega
  have H := Lib.hid h
  clear h
  go_enter Try.func15, Try.ntmps15
  go_wp2_with fail
  go_region
  clear hlen
  go_wp2_with fail
  refine wp_loop_rounds 1 ?_
  rw [rounds_succ]
  go_wp2_with fail
  refine (shas_none pb mb next most next _ (H.out.ext (drew_ext w))).mono ?_
  rintro r w2 ⟨rfl, hx⟩
  have HX := Lib.hid ((drew_ext w).trans hx)
  have hM := H.out.ext HX.out
  obtain ⟨w3, hrun, hmap3, hupd3⟩ := hM.map.update (P := Try.prog) Try.underlying74 Try.underlying22 next (.agg #[.int .u32 p, .string x])
  simp only [put] at hmap3
  have hne := H.out.ne
  have hptr3 := hupd3.heap hM.ptr (by simpa using hne)
  clear c0 c1 c2 f0 f1 f2 hx
  obtain ⟨c0, c1, c2, f0, f1, f2⟩ := blk3 hM.ptr
  obtain ⟨d0, d1, d2, g0, g1, g2⟩ := blk3 hptr3
  have hpb2 := lt_of_heap hM.ptr
  have hpb3 := lt_of_heap hptr3
  have Hrun := Lib.hid hrun
  have Hm3 := Lib.hid hmap3
  have Hp3 := Lib.hid hptr3
  have Hu3 := Lib.hid hupd3
  clear hM hrun hmap3 hptr3 hupd3
  go_wp2_with (at_mapUpdate; refine wpList_update_run rfl _ _ _ _ rfl _ _ _ rfl rfl rfl Hrun.out ?_)
  go_ret2
  refine ⟨rfl, ⟨_, _, heap_setCell_same w3 pb 0 _ _ _ Hp3.out, Hm3.out.of_heap (heap_setCell_other w3 _ _ _ (by simpa using hne.symm))⟩, ?_⟩
  exact Upd.setCell ((HX.out.upd _).trans (Hu3.out.mono (by simp))) _ _ (by simp)

def NewsRel (w : World) (n : Int) (k : Nat) (wr : World) : Prop := k ≤ 2 ∧ wr.heap[w.heap.size]? = some (.cells #[.int .i64 n, .int .i64 (arnd n 19)] 3 (0, 0)) ∧ Ext w wr
theorem NewsRel.cell {w wr : World} {n : Int} {k : Nat} (h : NewsRel w n k wr) (hk : k < 2) : ∃ e, wr.cell? ⟨w.heap.size, k, none⟩ = some (.int .i64 e) := by
  have : k = 0 ∨ k = 1 := by omega
  rcases this with rfl | rfl <;> exact ⟨_, by simp only [World.cell?, h.2.1]; rfl⟩

set_option maxHeartbeats 2000000 in
theorem muxNews_walk (n : Int) (w0 : (Lit.int .i64 n).wf = true) (first : Int) (w1 : (Lit.int .u32 first).wf = true) (w : World) :
    Calls Try.prog 4 #[.int .i64 n, .int .u32 first] w fun r w' => r = .returned (.bool true) ∧ Ext w w' := by
  have hf : 0 ≤ first ∧ first ≤ 4294967295 := by simpa [Lit.wf, IntKind.min, IntKind.max, IntKind.signed, IntKind.bits] using w1
  have hn : -9223372036854775808 ≤ n ∧ n ≤ 9223372036854775807 := by simpa [Lit.wf, IntKind.min, IntKind.max, IntKind.signed, IntKind.bits] using w0
  clear w0 w1
  go_enter Try.func4, Try.ntmps4
  go_wp2_with fail
  refine (around_any n 19 w (by omega) hn.1 hn.2).mono ?_
  rintro r wb ⟨rfl, rfl⟩
  go_wp2_with fail
  go_loopw [6] (fun v6 wr => ∃ k : Nat, v6 = .int .i64 k ∧ NewsRel w n k wr) (fun v6 _ => 2 - (intOf v6).toNat)
  case atStart => exact ⟨0, rfl, by omega, heap_alloc_new w _, (Ext.refl w).alloc _⟩
  case round =>
    obtain ⟨k, rfl, HR⟩ := hrel
    have hk := HR.1
    by_cases hlt : k < 2
    · have hd : decide ((k : Int) < 2) = true := by simp; omega
      obtain ⟨e, hc⟩ := HR.cell hlt
      have hsz : w.heap.size < wr.heap.size := lt_of_heap HR.2.1
      have HRR := Lib.hid HR
      clear HR
      by_cases hin : 1 ≤ e ∧ e ≤ 16
      · have hd1 : decide (1 ≤ e) = true := by simpa using hin.1
        have hd2 : decide (e ≤ 16) = true := by simpa using hin.2
        go_wp2_with fail
        refine (snew_yes first e _ hin.1 hin.2).mono ?_
        rintro r w2 ⟨rfl, hm2, hx2⟩
        have M2 := Lib.hid hm2
        have X2 := Lib.hid hx2
        have hc2 := hx2.cell hc
        clear hc hm2 hx2
        go_wp2_with fail
        refine (scall_first _ _ _ _ 1 _ _ M2.out hin.1 hf.1 (by omega)).mono ?_
        rintro r w3 ⟨rfl, ⟨nx, v, hm3⟩, hu3⟩
        have M3 := Lib.hid hm3
        have X3 := Lib.hid (hu3.ext X2.out (by simp))
        clear hm3 hu3 hc2
        go_wp2_with fail
        refine (slen_any _ _ _ _ _ _ M3.out).mono ?_
        rintro r w4 ⟨rfl, rfl⟩
        go_wp2_with fail
        go_roundw
        case rel => exact ⟨k + 1, by go_num, by omega, X3.out.heap HRR.out.2.1, HRR.out.2.2.trans X3.out⟩
        case measure => simp [intOf]; omega
      · by_cases hlo : 1 ≤ e
        · have hd1 : decide (1 ≤ e) = true := by simpa using hlo
          have hd2 : decide (e ≤ 16) = false := by simp; omega
          go_wp2_with fail
          refine (snew_no first e _ (by omega)).mono ?_
          rintro r w2 ⟨rfl, rfl⟩
          go_wp2_with fail
          go_roundw
          case rel => exact ⟨k + 1, by go_num, by omega, HRR.out.2.1, HRR.out.2.2⟩
          case measure => simp [intOf]; omega
        · have hd1 : decide (1 ≤ e) = false := by simp; omega
          go_wp2_with fail
          refine (snew_no first e _ (by omega)).mono ?_
          rintro r w2 ⟨rfl, rfl⟩
          go_wp2_with fail
          go_roundw
          case rel => exact ⟨k + 1, by go_num, by omega, HRR.out.2.1, HRR.out.2.2⟩
          case measure => simp [intOf]; omega
    · have hd : decide ((k : Int) < 2) = false := by simp; omega
      go_wp2_with fail
      refine (lives_any _).mono ?_
      rintro r w2 ⟨rfl, hx2⟩
      go_wp2_with fail
      go_ret
      exact ⟨rfl, HR.2.2.trans hx2⟩
end Go.Proofs.Ytladpgjhifbphaa
