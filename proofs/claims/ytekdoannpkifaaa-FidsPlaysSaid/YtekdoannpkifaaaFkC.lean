/- The walks of maps.Keys, of Collect and Sorted over it, and of the fids' All and Clear. -/
import Derived.Test.YtekdoannpkifaaaFkB
import Derived.Test.YtekdoannpkifaaaMr3
import Derived.Test.YtekdoannpkifaaaFid3
namespace Go.Proofs.Ytekdoannpkifaaa
open Go.ChangeShapes Go.WideShapes Go.ChangeAt Go.RowKit
open Go.Shelf

theorem keys_any (b : Nat) (w : World) :
    Calls Try.prog 26 #[.map (some b)] w fun r w' => r = .returned (.func (.func 30) #[] #[.pointer (some ⟨w.heap.size, 0, none⟩)]) ∧ w.alloc (.cells #[.map (some b)] 58) = w' := by
  go_enter Try.func26, Try.ntmps26
  go_wp2_with fail
  go_ret
  exact ⟨rfl, rfl⟩

set_option maxRecDepth 100000 in
set_option maxHeartbeats 1000000 in
theorem collect_any (Bm b : Nat) (L : List (Int × Value)) (w : World) (hBm : Bm < w.heap.size) (hm : w.cell? ⟨Bm, 0, none⟩ = some (.map (some b))) (hown : MapIs w b .i64 L) (hl : L.length ≤ 100000) :
    Calls Try.prog 28 #[.func (.func 30) #[] #[.pointer (some ⟨Bm, 0, none⟩)]] w fun r w' => ∃ v ks, r = .returned v ∧ ks.Perm (L.map (·.1)) ∧ URow w' w.heap.size v ks ∧ Ext w w' := by
  refine (callsIn_wide (n := 5)).1 ?_
  have hseq : SeqGives Fence.wide 3 Try.prog 30 #[.pointer (some ⟨Bm, 0, none⟩)] encZ (fun ss => ss.Perm (L.map (·.1))) L.length w :=
    fun l J W hW hJ hY h0 => keys1_in 3 (by omega) l Bm b L J hY W hJ ((hW.cell (p := ⟨Bm, 0, none⟩) hBm).trans hm) (hown.of_heap (hW.block b hown.lt)) h0
  have h := AnyZI.collect_in colLay Fence.wide 5 trivial trivial rfl (by omega) 30 #[.pointer (some ⟨Bm, 0, none⟩)] trivial (enters_of Try.func30 (by kernel_rfl) rfl) (fun ss => ss.Perm (L.map (·.1))) L.length (by unfold maxLen; omega) (by omega) w hseq
  change CallsIn _ _ Try.prog 28 _ _ _ at h
  refine h.mono ?_
  rintro e w' ⟨v, ss, rfl, hS, hrow, -, hb⟩
  exact ⟨v, ss, rfl, hS, hrow, hb⟩

set_option maxRecDepth 100000 in
set_option maxHeartbeats 1000000 in
theorem sorted_any (Bm b : Nat) (L : List (Int × Value)) (w : World) (hBm : Bm < w.heap.size) (hm : w.cell? ⟨Bm, 0, none⟩ = some (.map (some b))) (hown : MapIs w b .i64 L) (hl : L.length ≤ 12) :
    Calls Try.prog 25 #[.func (.func 30) #[] #[.pointer (some ⟨Bm, 0, none⟩)]] w fun r w' => ∃ v ys, r = .returned v ∧ ys.Perm (L.map (·.1)) ∧ Rises ys ∧ URow w' w.heap.size v ys ∧ Ext w w' := by
  have HC := Lib.hid (collect_any Bm b L w hBm hm hown (by omega))
  clear hm hown
  go_enter Try.func25, Try.ntmps25
  go_wp2_with fail
  refine HC.out.mono ?_
  rintro r w1 ⟨v1, ks, rfl, hp, hr, hx⟩
  have HP := Lib.hid hp
  have HX := Lib.hid hx
  have HS := Lib.hid (sort_small w1 w.heap.size v1 ks hr (by rw [hp.length_eq, List.length_map]; omega))
  have HG := Lib.hid (fun g (hg : g ∈ v1.ownBlock.toList) => (World.ownsRow.lt hr g (by simpa using hg)).1)
  clear hp hr hx HC
  go_wp2_with fail
  refine HS.out.mono ?_
  rintro r w2 ⟨rfl, ys, hp2, hR2, hr2, hu2⟩
  have HF := Lib.hid (show ∃ v ys', Ending.returned v1 = .returned v ∧ ys'.Perm (L.map (·.1)) ∧ Rises ys' ∧ URow w2 w.heap.size v ys' ∧ Ext w w2 from ⟨v1, ys, rfl, hp2.trans HP.out, hR2, hr2, hu2.ext HX.out HG.out⟩)
  clear hp2 hR2 hr2 hu2
  go_wp2_with fail
  go_ret
  exact HF.out

set_option maxRecDepth 100000 in
set_option maxHeartbeats 1000000 in
theorem all_any (pb mb : Nat) (most : Int) (l : List (Int × FV)) (w : World) (h : FidW w pb mb most l) (hl : l.length ≤ 12) :
    Calls Try.prog 16 #[.pointer (some ⟨pb, 0, none⟩)] w fun r w' => ∃ v ys, r = .returned v ∧ ys.Perm (l.map (·.1)) ∧ Rises ys ∧ URow w' w.heap.size v ys ∧ Ext w w' := by
  obtain ⟨c0, c1, f0, f1⟩ := blk2 h.ptr
  have hpb := lt_of_heap h.ptr
  have hS := sorted_any w.heap.size mb (l.map fev) (w.alloc (.cells #[.map (some mb)] 58)) (by simp) (cell_of (heap_alloc_new w _) 0) (h.map.ext ((Ext.refl w).alloc _)) (by simpa using hl)
  rw [show (l.map fev).map (·.1) = l.map (·.1) by simp [fev, Function.comp_def]] at hS
  have HS := Lib.hid hS
  clear h hS
  go_enter Try.func16, Try.ntmps16
  go_wp2_with fail
  refine (keys_any _ _).mono ?_
  rintro r w1 ⟨rfl, rfl⟩
  go_wp2_with fail
  refine HS.out.mono ?_
  rintro r w2 ⟨v, ys, rfl, hp, hR, hr, hx⟩
  have HF := Lib.hid (show ∃ v' ys', Ending.returned v = .returned v' ∧ ys'.Perm (l.map (·.1)) ∧ Rises ys' ∧ URow w2 w.heap.size v' ys' ∧ Ext w w2 from ⟨v, ys, rfl, hp, hR, ownsRow_mono hr (by simp), ((Ext.refl w).alloc _).trans hx⟩)
  clear hp hR hr hx
  go_wp2_with fail
  go_ret
  exact HF.out
end Go.Proofs.Ytekdoannpkifaaa
