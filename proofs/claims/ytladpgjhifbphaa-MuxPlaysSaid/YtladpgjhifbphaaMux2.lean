/- The walks of the mux's Call, Match and Drop, and of lives. -/
import Derived.Test.YtladpgjhifbphaaMux1
namespace Go.Proofs.Ytladpgjhifbphaa
open Go.ChangeShapes Go.WideShapes Go.ChangeAt Go.RowKit

/-- The j-th number from next on is the first that no call has. -/
structure Free (l : List MC) (next : Int) (j : Nat) : Prop where
  free : lookC l ((next + j) % 4294967296) = none
  taken : ∀ i, i < j → (lookC l ((next + i) % 4294967296)).isSome = true

theorem drew_ext (w : World) : Ext w w.drew := (Ext.refl w).drew
set_option maxHeartbeats 1000000 in
theorem call_full (pb mb : Nat) (next most : Int) (l : List MC) (p x : Int) (w : World) (h : MuxW w pb mb next most l) (hf : most ≤ l.length) :
    Calls Try.prog 11 #[.pointer (some ⟨pb, 0, none⟩), .int .u32 p, .int .i64 x] w fun r w' => r = .returned (.tuple #[.int .u32 0, .int .i64 5]) ∧ Ext w w' := by
  have hlen := (h.map.ext (drew_ext w)).len (P := Try.prog) Try.underlying68 3
  simp only [List.length_map] at hlen
  obtain ⟨c0, c1, c2, f0, f1, f2⟩ := blk3 h.ptr
  have hpb := lt_of_heap h.ptr
  have hd : decide (most ≤ (l.length : Int)) = true := by simpa using hf
  clear h hf
  go_enter Try.func11, Try.ntmps11
  go_wp2_with fail
  go_region
  go_wp2_with fail
  go_ret2
  exact ⟨rfl, drew_ext w⟩

set_option maxHeartbeats 1000000 in
theorem call_room (pb mb : Nat) (next most : Int) (l : List MC) (p x : Int) (w : World) (h : MuxW w pb mb next most l) (hf : l.length < most) (hn : 0 ≤ next) (hn2 : next < 4294967296) (j : Nat) (hj : Free l next j) (hj2 : j < 4294967296) :
    Calls Try.prog 11 #[.pointer (some ⟨pb, 0, none⟩), .int .u32 p, .int .i64 x] w fun r w' => r = .returned (.tuple #[.int .u32 ((next + j) % 4294967296), .int .i64 0]) ∧
      MuxW w' pb mb ((next + j + 1) % 4294967296) most (l ++ [(⟨(next + j) % 4294967296, p, x⟩ : MC)]) ∧ Upd [pb, mb] w w' := by
  have hlen := (h.map.ext (drew_ext w)).len (P := Try.prog) Try.underlying68 3
  simp only [List.length_map] at hlen
  obtain ⟨c0, c1, c2, f0, f1, f2⟩ := blk3 h.ptr
  have hpb := lt_of_heap h.ptr
  have hd : decide (most ≤ (l.length : Int)) = false := by simp; omega
  have H := Lib.hid h
  have HJ := Lib.hid hj
  clear h hf hj
  go_enter Try.func11, Try.ntmps11
  go_wp2_with fail
  go_region
  clear hlen
  go_wp2_with fail
  go_loopw [8] (fun v8 wr => ∃ i : Nat, i ≤ j ∧ v8 = .int .u32 ((next + i) % 4294967296) ∧ Ext w wr) (fun v8 _ => j - ((intOf v8 - next) % 4294967296).toNat)
  case atStart => exact ⟨0, by omega, by simp; omega, drew_ext w⟩
  case round =>
    obtain ⟨i, hi, rfl, HR⟩ := hrel
    have HM := Lib.hid (H.out.ext HR)
    have HR' := Lib.hid HR
    clear HR
    go_wp2_with fail
    refine (has_any pb mb next most l _ _ HM.out).mono ?_
    rintro r w2 ⟨rfl, hx⟩
    have HX := Lib.hid (HR'.out.trans hx)
    clear hx
    by_cases hlt : i < j
    · rw [HJ.out.taken i hlt]
      go_wp2_with fail
      go_roundw
      case rel => exact ⟨i + 1, by omega, congrArg (Value.int .u32) (by omega), HX.out⟩
      case measure => simp only [intOf]; omega
    · obtain rfl : i = j := by omega
      rw [HJ.out.free]
      have hM := H.out.ext HX.out
      obtain ⟨w3, hrun, hmap3, hupd3⟩ := hM.map.update (P := Try.prog) Try.underlying68 Try.underlying22 ((next + i) % 4294967296) (.agg #[.int .u32 p, .int .i64 x])
      rw [put_ev _ _ _ _ HJ.out.free] at hmap3
      have hne := H.out.ne
      have hptr3 := hupd3.heap hM.ptr (by simpa using hne)
      clear c0 c1 c2 f0 f1 f2
      obtain ⟨c0, c1, c2, f0, f1, f2⟩ := blk3 hM.ptr
      obtain ⟨d0, d1, d2, g0, g1, g2⟩ := blk3 hptr3
      have hpb2 := lt_of_heap hM.ptr
      have hpb3 := lt_of_heap hptr3
      have Hrun := Lib.hid hrun
      have Hm3 := Lib.hid hmap3
      have Hp3 := Lib.hid hptr3
      have Hu3 := Lib.hid hupd3
      clear hM hrun hmap3 hptr3 hupd3
      go_wp2_with (at_mapUpdate; refine wpList_update_run rfl _ _ _ _ rfl _ _ _ rfl rfl rfl Hrun.out ?_)
      go_ret2
      refine ⟨rfl, ⟨?_, Hm3.out.of_heap (heap_setCell_other w3 _ _ _ (by simpa using hne.symm))⟩, ?_⟩
      · rw [heap_setCell_same w3 pb 0 _ _ _ Hp3.out]; rfl
      · exact Upd.setCell ((HX.out.upd _).trans (Hu3.out.mono (by simp))) _ _ (by simp)

set_option maxHeartbeats 1000000 in
theorem match_none (pb mb : Nat) (next most : Int) (l : List MC) (k p : Int) (w : World) (h : MuxW w pb mb next most l) (hk : lookC l k = none) :
    Calls Try.prog 12 #[.pointer (some ⟨pb, 0, none⟩), .int .u32 k, .int .u32 p] w fun r w' => r = .returned (.tuple #[.int .i64 0, .int .i64 6]) ∧ Ext w w' := by
  have hl := h.map.lookup (P := Try.prog) Try.underlying68 Try.underlying22 (zero72 w) k
  rw [look_ev, hk] at hl
  simp only [Option.map_none, Option.getD_none, Option.isSome_none] at hl
  obtain ⟨c0, c1, c2, f0, f1, f2⟩ := blk3 h.ptr
  have hpb := lt_of_heap h.ptr
  clear h hk
  go_enter Try.func12, Try.ntmps12
  go_wp2_with fail
  go_ret2
  exact ⟨rfl, (Ext.refl w).alloc _⟩
set_option maxHeartbeats 1000000 in
theorem match_wrong (pb mb : Nat) (next most : Int) (l : List MC) (k p : Int) (c : MC) (w : World) (h : MuxW w pb mb next most l) (hk : lookC l k = some c) (hp : c.p ≠ p) :
    Calls Try.prog 12 #[.pointer (some ⟨pb, 0, none⟩), .int .u32 k, .int .u32 p] w fun r w' => r = .returned (.tuple #[.int .i64 0, .int .i64 2]) ∧ Ext w w' := by
  have hl := h.map.lookup (P := Try.prog) Try.underlying68 Try.underlying22 (zero72 w) k
  rw [look_ev, hk] at hl
  simp only [Option.map_some, Option.getD_some, Option.isSome_some, MC.ev] at hl
  obtain ⟨c0, c1, c2, f0, f1, f2⟩ := blk3 h.ptr
  have hpb := lt_of_heap h.ptr
  have hb : (c.p != p) = true := by simpa using hp
  clear h hk hp
  go_enter Try.func12, Try.ntmps12
  go_wp2_with fail
  go_ret2
  exact ⟨rfl, (Ext.refl w).alloc _⟩
set_option maxHeartbeats 1000000 in
theorem match_ok (pb mb : Nat) (next most : Int) (l : List MC) (k : Int) (c : MC) (w : World) (h : MuxW w pb mb next most l) (hk : lookC l k = some c) :
    Calls Try.prog 12 #[.pointer (some ⟨pb, 0, none⟩), .int .u32 k, .int .u32 c.p] w fun r w' => r = .returned (.tuple #[.int .i64 c.x, .int .i64 0]) ∧ MuxW w' pb mb next most (delC l k) ∧ Upd [pb, mb] w w' := by
  have hl := h.map.lookup (P := Try.prog) Try.underlying68 Try.underlying22 (zero72 w) k
  rw [look_ev, hk] at hl
  simp only [Option.map_some, Option.getD_some, Option.isSome_some, MC.ev] at hl
  obtain ⟨c0, c1, c2, f0, f1, f2⟩ := blk3 h.ptr
  have hpb := lt_of_heap h.ptr
  have hM := h.ext ((Ext.refl w).alloc (.cells #[.int .u32 c.p, .int .i64 c.x] 72))
  obtain ⟨w3, hrun, hmap3, hupd3⟩ := hM.map.delete (P := Try.prog) Try.underlying68 Try.underlying22 k 0
  rw [del_ev] at hmap3
  have hne := h.ne
  have hmb := h.map.lt
  have hptr3 := hupd3.heap hM.ptr (by simpa using hne)
  have hblk3 := hupd3.heap (heap_alloc_new w (.cells #[.int .u32 c.p, .int .i64 c.x] 72)) (by simp; omega)
  obtain ⟨d0, d1, _, _⟩ := blk2 hblk3
  have hsz3 := lt_of_heap hblk3
  have Hrun := Lib.hid hrun
  have Hm3 := Lib.hid hmap3
  have Hp3 := Lib.hid hptr3
  have Hu3 := Lib.hid hupd3
  clear h hk hM hrun hmap3 hptr3 hupd3 hblk3
  go_enter Try.func12, Try.ntmps12
  go_wp2_with (at_delete; refine wpList_delete_run rfl _ _ _ rfl _ _ _ rfl rfl Hrun.out ?_)
  go_ret2
  exact ⟨rfl, ⟨Hp3.out, Hm3.out⟩, Upd.trans ((Upd.refl _ w).alloc _) (Hu3.out.mono (by simp))⟩
end Go.Proofs.Ytladpgjhifbphaa
