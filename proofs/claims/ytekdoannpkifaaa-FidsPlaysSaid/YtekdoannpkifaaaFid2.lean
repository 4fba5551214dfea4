/- The walks of the fids' Add, Get, Set, Drop and Len, and of lives. -/
import Derived.Test.YtekdoannpkifaaaFid1
namespace Go.Proofs.Ytekdoannpkifaaa
open Go.ChangeShapes Go.WideShapes Go.ChangeAt Go.RowKit

/-- The ten cells of a block. -/
theorem blk10 {w : World} {g : Nat} {v : FV} {t : TypeId} (h : w.heap[g]? = some (.cells v.cells t (0, 0))) :
    w.cell? ⟨g, 0, none⟩ = some (.int .i64 v.h1) ∧ w.cell? ⟨g, 1, none⟩ = some (.int .i64 v.h2) ∧ w.cell? ⟨g, 2, none⟩ = some (.int .i64 v.u1) ∧ w.cell? ⟨g, 3, none⟩ = some (.int .i64 v.u2) ∧
    w.cell? ⟨g, 4, none⟩ = some (.string v.name) ∧ w.cell? ⟨g, 5, none⟩ = some (.bool v.dir) ∧ w.cell? ⟨g, 6, none⟩ = some (.bool v.opn) ∧ w.cell? ⟨g, 7, none⟩ = some (.int .i64 v.mode) ∧
    w.cell? ⟨g, 8, none⟩ = some (.int .i64 v.off) ∧ w.cell? ⟨g, 9, none⟩ = some (.int .i64 v.at_) :=
  ⟨cell_of h 0, cell_of h 1, cell_of h 2, cell_of h 3, cell_of h 4, cell_of h 5, cell_of h 6, cell_of h 7, cell_of h 8, cell_of h 9⟩

section
variable (pb mb : Nat) (most : Int) (l : List (Int × FV)) (k : Int) (w : World)
set_option maxHeartbeats 1000000 in
theorem add_no (v : FV) (e : Int) (he : (e == 0) = false) (hf : ∀ W, Ext w W → Calls Try.prog 23 #[.pointer (some ⟨pb, 0, none⟩), .int .i64 k] W fun r w' => r = .returned (.int .i64 e) ∧ Ext W w') :
    Calls Try.prog 10 #[.pointer (some ⟨pb, 0, none⟩), .int .i64 k, v.val] w fun r w' => r = .returned (.int .i64 e) ∧ Ext w w' := by
  have HF := Lib.hid hf
  have hne : (e != 0) = true := by simpa using he
  clear hf he
  unfold FV.val
  go_enter Try.func10, Try.ntmps10
  go_wp2_with fail
  refine (HF.out _ ((Ext.refl w).alloc _)).mono ?_
  rintro r w2 ⟨rfl, hx⟩
  go_wp2_with fail
  go_ret
  exact ⟨rfl, ((Ext.refl w).alloc _).trans hx⟩
theorem add_busy (v : FV) {u : FV} (h : FidW w pb mb most l) (hk : lookF l k = some u) :
    Calls Try.prog 10 #[.pointer (some ⟨pb, 0, none⟩), .int .i64 k, v.val] w fun r w' => r = .returned (.int .i64 18) ∧ Ext w w' :=
  add_no pb k w v 18 rfl (fun W hW => free_busy pb mb most l k W (h.ext hW) hk)
theorem add_full (v : FV) (h : FidW w pb mb most l) (hk : lookF l k = none) (hb : most ≤ l.length) :
    Calls Try.prog 10 #[.pointer (some ⟨pb, 0, none⟩), .int .i64 k, v.val] w fun r w' => r = .returned (.int .i64 5) ∧ Ext w w' :=
  add_no pb k w v 5 rfl (fun W hW => free_none pb mb most l k W (h.ext hW) hk true (by simpa using hb))
set_option maxHeartbeats 1000000 in
theorem add_ok (v : FV) (h : FidW w pb mb most l) (hk : lookF l k = none) (hb : l.length < most) :
    Calls Try.prog 10 #[.pointer (some ⟨pb, 0, none⟩), .int .i64 k, v.val] w fun r w' => r = .returned (.int .i64 0) ∧ FidW w' pb mb most (l ++ [(k, v)]) ∧ Upd [pb, mb] w w' := by
  have HF := Lib.hid (show ∀ W, Ext w W → Calls Try.prog 23 #[.pointer (some ⟨pb, 0, none⟩), .int .i64 k] W fun r w' => r = .returned (.int .i64 0) ∧ Ext W w' from
    fun W hW => free_none pb mb most l k W (h.ext hW) hk false (by simp; omega))
  have H := Lib.hid h
  have HK := Lib.hid hk
  clear h hk hb
  unfold FV.val
  go_enter Try.func10, Try.ntmps10
  go_wp2_with fail
  refine (HF.out _ ((Ext.refl w).alloc _)).mono ?_
  rintro r w2 ⟨rfl, hx⟩
  have hb := hx.heap (heap_alloc_new w (.cells v.cells 32))
  have hE := ((Ext.refl w).alloc _).trans hx
  have hM := H.out.ext hE
  obtain ⟨w3, hrun, hmap3, hupd3⟩ := (hM.map.ext (drew_ext w2)).update (P := Try.prog) Try.underlying58 Try.underlying3 k v.val
  rw [put_fev, putF_none HK.out] at hmap3
  have hne := hM.ne
  have hptr3 := hupd3.heap ((drew_ext w2).heap hM.ptr) (by simpa using hne)
  obtain ⟨c0, c1, f0, f1⟩ := blk2 hM.ptr
  obtain ⟨b0, b1, b2, b3, b4, b5, b6, b7, b8, b9⟩ := blk10 hb
  have hpb := lt_of_heap hM.ptr
  have hsz := lt_of_heap hb
  unfold FV.val at hrun
  have HN := Lib.hid (show FidW w3 pb mb most (l ++ [(k, v)]) ∧ Upd [pb, mb] w w3 from ⟨⟨hptr3, hmap3⟩, ((hE.trans (drew_ext w2)).upd _).trans (hupd3.mono (by simp))⟩)
  clear hx hb hE hM hmap3 hupd3 hptr3
  go_wp2_with fail
  go_region
  clear hrun
  go_wp2_with fail
  go_ret
  exact ⟨rfl, HN.out⟩

theorem len_any (h : FidW w pb mb most l) :
    Calls Try.prog 19 #[.pointer (some ⟨pb, 0, none⟩)] w fun r w' => r = .returned (.int .i64 l.length) ∧ w = w' := by
  have hl := Lib.hid (h.map.len (P := Try.prog) Try.underlying58 3)
  obtain ⟨c0, c1, f0, f1⟩ := blk2 h.ptr
  have hpb := lt_of_heap h.ptr
  clear h
  go_enter Try.func19, Try.ntmps19
  go_wp2_with (at_len; refine wpList_len_run rfl _ _ rfl _ _ rfl hl.out ?_)
  go_ret
  exact ⟨by simp, rfl⟩
set_option maxHeartbeats 1000000 in
theorem drop_none (h : FidW w pb mb most l) (hk : lookF l k = none) :
    Calls Try.prog 12 #[.pointer (some ⟨pb, 0, none⟩), .int .i64 k] w fun r w' => r = .returned (.int .i64 17) ∧ Ext w w' := by
  have hl := lookup_none0 pb mb most l k w h hk
  unfold FV.val at hl
  obtain ⟨c0, c1, f0, f1⟩ := blk2 h.ptr
  have hpb := lt_of_heap h.ptr
  clear h hk
  go_enter Try.func12, Try.ntmps12
  go_wp2_with fail
  go_ret
  exact ⟨rfl, (Ext.refl w).alloc _⟩
set_option maxHeartbeats 1000000 in
theorem drop_ok {v : FV} (h : FidW w pb mb most l) (hk : lookF l k = some v) :
    Calls Try.prog 12 #[.pointer (some ⟨pb, 0, none⟩), .int .i64 k] w fun r w' => r = .returned (.int .i64 0) ∧ FidW w' pb mb most (delF l k) ∧ Upd [pb, mb] w w' := by
  have hl := lookup_some0 pb mb most l k w h hk
  unfold FV.val at hl
  obtain ⟨c0, c1, f0, f1⟩ := blk2 h.ptr
  have hpb := lt_of_heap h.ptr
  have hM := h.ext ((Ext.refl w).alloc (.cells v.cells 32))
  obtain ⟨w3, hrun, hmap3, hupd3⟩ := hM.map.delete (P := Try.prog) Try.underlying58 Try.underlying3 k 0
  rw [del_fev] at hmap3
  have hptr3 := hupd3.heap hM.ptr (by simpa using h.ne)
  have Hrun := Lib.hid hrun
  have HN := Lib.hid (show FidW w3 pb mb most (delF l k) ∧ Upd [pb, mb] w w3 from ⟨⟨hptr3, hmap3⟩, Upd.trans ((Upd.refl _ w).alloc _) (hupd3.mono (by simp))⟩)
  clear h hk hM hrun hmap3 hptr3 hupd3
  go_enter Try.func12, Try.ntmps12
  go_wp2_with (at_delete; refine wpList_delete_run rfl _ _ _ rfl _ _ _ rfl rfl Hrun.out ?_)
  go_ret
  exact ⟨rfl, HN.out⟩
set_option maxHeartbeats 1000000 in
theorem set_none (v : FV) (h : FidW w pb mb most l) (hk : lookF l k = none) :
    Calls Try.prog 14 #[.pointer (some ⟨pb, 0, none⟩), .int .i64 k, v.val] w fun r w' => r = .returned (.int .i64 17) ∧ Ext w w' := by
  have hl := lookup_none pb mb most l k w h hk
  unfold FV.val at hl
  obtain ⟨c0, c1, f0, f1⟩ := blk2 h.ptr
  have hpb := lt_of_heap h.ptr
  clear h hk
  unfold FV.val
  go_enter Try.func14, Try.ntmps14
  go_wp2_with fail
  go_ret
  exact ⟨rfl, ((Ext.refl w).alloc _).alloc _⟩
set_option maxHeartbeats 1000000 in
theorem set_ok (v : FV) {u : FV} (h : FidW w pb mb most l) (hk : lookF l k = some u) :
    Calls Try.prog 14 #[.pointer (some ⟨pb, 0, none⟩), .int .i64 k, v.val] w fun r w' => r = .returned (.int .i64 0) ∧ FidW w' pb mb most (putF l k v) ∧ Upd [pb, mb] w w' := by
  have hl := lookup_some pb mb most l k w h hk
  unfold FV.val at hl
  obtain ⟨c0, c1, f0, f1⟩ := blk2 h.ptr
  have hpb := lt_of_heap h.ptr
  have hE : Ext w (((w.alloc (.cells v.cells 32)).alloc (.cells u.cells 32)).drew) := (((Ext.refl w).alloc _).alloc _).drew
  have hM := h.ext hE
  obtain ⟨w3, hrun, hmap3, hupd3⟩ := hM.map.update (P := Try.prog) Try.underlying58 Try.underlying3 k v.val
  rw [put_fev] at hmap3
  have hptr3 := hupd3.heap hM.ptr (by simpa using h.ne)
  have HN := Lib.hid (show FidW w3 pb mb most (putF l k v) ∧ Upd [pb, mb] w w3 from ⟨⟨hptr3, hmap3⟩, (hE.upd _).trans (hupd3.mono (by simp))⟩)
  unfold FV.val FV.cells at hrun
  clear h hk hM hmap3 hptr3 hupd3 hE
  unfold FV.val
  go_enter Try.func14, Try.ntmps14
  go_wp2_with fail
  go_region
  clear hrun
  go_wp2_with fail
  go_ret
  exact ⟨rfl, HN.out⟩
set_option maxHeartbeats 1000000 in
theorem get_none (h : FidW w pb mb most l) (hk : lookF l k = none) :
    Calls Try.prog 13 #[.pointer (some ⟨pb, 0, none⟩), .int .i64 k] w fun r w' => r = .returned (.tuple #[FV.zero.val, .int .i64 17]) ∧ Ext w w' := by
  have hl := lookup_none pb mb most l k w h hk
  unfold FV.val at hl
  obtain ⟨c0, c1, f0, f1⟩ := blk2 h.ptr
  have hpb := lt_of_heap h.ptr
  clear h hk
  go_enter Try.func13, Try.ntmps13
  go_wp2_with fail
  refine bodyPost_ret (v := .tuple #[FV.zero.val, .int .i64 17]) (by simp [results, Try.results13, go_sem]; rfl) rfl ⟨rfl, ?_⟩
  exact ((Ext.refl w).alloc _).alloc _
set_option maxHeartbeats 1000000 in
theorem get_ok {v : FV} (h : FidW w pb mb most l) (hk : lookF l k = some v) :
    Calls Try.prog 13 #[.pointer (some ⟨pb, 0, none⟩), .int .i64 k] w fun r w' => r = .returned (.tuple #[v.val, .int .i64 0]) ∧ Ext w w' := by
  have hl := lookup_some pb mb most l k w h hk
  unfold FV.val at hl
  obtain ⟨c0, c1, f0, f1⟩ := blk2 h.ptr
  have hpb := lt_of_heap h.ptr
  clear h hk
  go_enter Try.func13, Try.ntmps13
  go_wp2_with fail
  refine bodyPost_ret (v := .tuple #[v.val, .int .i64 0]) (by simp [results, Try.results13, go_sem, FV.val]) rfl ⟨rfl, ?_⟩
  exact ((Ext.refl w).alloc _).alloc _
end
end Go.Proofs.Ytekdoannpkifaaa
