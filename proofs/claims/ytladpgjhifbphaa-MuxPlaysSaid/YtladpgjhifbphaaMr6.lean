/- The walks of Live (the mux's and the document's), Drop, Xid and 'same'. -/
import Derived.Test.YtladpgjhifbphaaMr5
namespace Go.Proofs.Ytladpgjhifbphaa
open Go.ChangeShapes Go.WideShapes Go.ChangeAt Go.RowKit

/-- Where the ranging of Live stands. -/
structure LiveW (w : World) (mb : Nat) (l : List MC) (v3 : Value) (ks left : List Int) (W : World) : Prop where
  rng : RngIs W mb w.heap.size .u32 (l.map MC.ev) left
  perm : (ks ++ left).Perm (l.map MC.k)
  row : URow W (w.heap.size + 1) v3 ks
  ext : Ext w W

set_option maxRecDepth 100000 in
set_option maxHeartbeats 4000000 in
theorem live_any (pb mb : Nat) (next most : Int) (l : List MC) (w : World) (h : MuxW w pb mb next most l) (hl : l.length ≤ 12) :
    Calls Try.prog 21 #[.pointer (some ⟨pb, 0, none⟩)] w fun r w' => ∃ v ys, r = .returned v ∧ ys.Perm (l.map MC.k) ∧ Rises ys ∧ URow w' w.heap.size v ys ∧ Ext w w' := by
  obtain ⟨o, hrun, hrng⟩ := h.map.range (P := Try.prog) (T := 68) Try.underlying68
  rw [show (l.map MC.ev).map (·.1) = l.map MC.k by simp [MC.ev]] at hrng
  obtain ⟨c0, c1, c2, f0, f1, f2⟩ := blk3 h.ptr
  have hpb := lt_of_heap h.ptr
  have HRun := Lib.hid hrun
  have H0 := Lib.hid (show LiveW w mb l (.slice none 0 0) [] (l.map MC.k) (w.alloc o) from ⟨hrng, by simp, URow.nil _ _, (Ext.refl w).alloc _⟩)
  have hmb := (h.map.lt)
  clear h hrun hrng
  go_enter Try.func21, Try.ntmps21
  go_wp2_with ((with_reducible refine wpList_range_run (o := ⟨some 9, .range _ (.tmp 8), _, _, _, none⟩) rfl _ _ rfl _ _ ?_ HRun.out ?_); (· rfl))
  go_frame
  go_loopw [3] (fun u wr => ∃ v3 ks left, v3 = u ∧ LiveW w mb l v3 ks left wr) (fun _ wr => wr.rangeLeft mb w.heap.size)
  case atStart => exact ⟨_, [], _, rfl, H0.out⟩
  case round =>
    obtain ⟨v3, ks, left, rfl, hM⟩ := hrel
    have HM := Lib.hid hM
    have hkl : ks.length + left.length = l.length := by have := hM.perm.length_eq; simpa using this
    clear H0
    rcases hM.rng.next (P := Try.prog) 0 with ⟨h0, hr⟩ | ⟨k, v, left', w1, hp, hr, hrg, hu, hen, hsz⟩
    · have HR := Lib.hid hr
      have HP := Lib.hid (show ks.Perm (l.map MC.k) by have := hM.perm; rw [h0] at this; simpa using this)
      clear hr hM h0
      go_wp2_with ((with_reducible refine wpList_next_run (o := ⟨some 10, .next (.tmp 9) false, 0, _, _, none⟩) rfl _ rfl _ _ ?_ HR.out ?_); (· rfl))
      refine (sort_small _ _ _ ks HM.out.row (by omega)).mono ?_
      rintro r w2 ⟨rfl, ys, h1, h2, h3, h4⟩
      have HE := Lib.hid (show ∃ v ys, Ending.returned v3 = .returned v ∧ ys.Perm (l.map MC.k) ∧ Rises ys ∧ URow w2 w.heap.size v ys ∧ Ext w w2 from ⟨v3, ys, rfl, h1.trans HP.out, h2, ownsRow_mono h3 (by omega), h4.ext HM.out.ext (fun q hq => by have := (World.ownsRow.lt HM.out.row q (by simpa using hq)).1; omega)⟩)
      clear h1 h2 h3 h4
      go_wp2_with fail
      go_ret
      exact HE.out
    · have hrow : URow w1 (w.heap.size + 1) v3 ks := ownsRow_upd hM.row hu (fun q hq => by have := (World.ownsRow.lt hM.row q hq).1; simp; omega)
      have hE1 : Ext w w1 := hu.ext hM.ext (by simp)
      have hll : left.length = left'.length + 1 := by have := hp.length_eq; simpa using this
      obtain ⟨v', w3, r1, r2, r3⟩ := hrow.push (by omega) (by have := hrg.lt.2.1; omega) k 29
      have hown : ∀ q ∈ v3.ownBlock.toList, w.heap.size + 1 ≤ q := fun q hq => (World.ownsRow.lt hrow q (by simpa using hq)).1
      have HN := Lib.hid (show LiveW w mb l v' (ks ++ [k]) left' w3 from
        ⟨hrg.upd r3 (fun hm => by have := hown _ hm; omega) (fun hm => by have := hown _ hm; omega), by
          have h1 := (hp.append_left ks).symm.trans hM.perm
          simpa using h1, r2, r3.ext hE1 (fun q hq => by have := hown q hq; omega)⟩)
      have HMs := Lib.hid (show w3.rangeLeft mb w.heap.size < wr.rangeLeft mb w.heap.size by rw [HN.out.rng.left_eq, hM.rng.left_eq]; omega)
      have HR := Lib.hid hr
      have R1 := Lib.hid r1
      clear hr hM hp hrg hu hrow hE1 hown r1 r2 r3 hsz
      go_wp2_with (first | ((with_reducible refine wpList_next_run (o := ⟨some 10, .next (.tmp 9) false, 0, _, _, none⟩) rfl _ rfl _ _ ?_ HR.out ?_); (· rfl)) | (at_builtin; refine wpList_append_run rfl (.tmp 14) (.tmp 16) _ rfl _ _ _ rfl rfl R1.out ?_))
      go_roundw
      case rel => exact ⟨v', ks ++ [k], left', rfl, HN.out⟩
      case measure => exact HMs.out
set_option maxHeartbeats 1000000 in
theorem drop_any (pb mb : Nat) (next most : Int) (l : List MC) (k : Int) (w : World) (h : MuxW w pb mb next most l) :
    Calls Try.prog 26 #[.pointer (some ⟨pb, 0, none⟩), .int .u32 k] w fun r w' => r = .returned (.bool (lookC l k).isSome) ∧ MuxW w' pb mb next most (delC l k) ∧ Upd [pb, mb] w w' := by
  have H := Lib.hid h
  clear h
  go_enter Try.func26, Try.ntmps26
  go_wp2_with fail
  refine (has_any pb mb next most l k _ H.out).mono ?_
  rintro r w1 ⟨rfl, hx⟩
  have hM := H.out.ext hx
  obtain ⟨w2, hrun, hmap, hupd⟩ := hM.map.delete (P := Try.prog) (T := 68) (K := 22) Try.underlying68 Try.underlying22 k 0
  rw [del_ev] at hmap
  obtain ⟨c0, c1, c2, f0, f1, f2⟩ := blk3 hM.ptr
  have hpb := lt_of_heap hM.ptr
  have hne := hM.ne
  have HN := Lib.hid (show MuxW w2 pb mb next most (delC l k) ∧ Upd [pb, mb] w w2 from ⟨⟨hupd.heap hM.ptr (by simpa using hne), hmap⟩, (hx.upd _).trans (hupd.mono (by simp))⟩)
  have HRun := Lib.hid hrun
  clear hx hM hrun hmap hupd hne
  go_wp2_with (at_delete; refine wpList_delete_run rfl _ _ _ rfl _ _ _ rfl rfl HRun.out ?_)
  go_ret
  exact ⟨rfl, HN.out⟩
end Go.Proofs.Ytladpgjhifbphaa
