/- The walk of the law RpcWrites. -/
import Derived.Test.YtcnbgcoklbmdaaaRp6
import Derived.Test.YtcnbgcoklbmdaaaRp3
namespace Go.Proofs.Ytcnbgcoklbmdaaa
open Go.ChangeShapes Go.WideShapes Go.ChangeAt Go.RowKit

set_option maxRecDepth 100000 in
set_option maxHeartbeats 4000000 in
theorem rpcWrites_walk (w : World) (m : MV) (hm : m.Ok) :
    Calls Try.prog 4 #[m.val] w fun r w' => r = .returned (.bool true) ∧ Ext w w' := by
  obtain ⟨r, x, p, s⟩ := m
  obtain ⟨hx0, hx1, hp0, hp1, hb⟩ := hm
  simp only at hx0 hx1 hp0 hp1 hb
  have HS := Lib.hid (short_any s hb 40 (by omega))
  have hz : (s.extract 0 (min s.size 40)).size ≤ 40 := by rw [ByteArray.size_extract]; omega
  generalize s.extract 0 (min s.size 40) = t at *
  simp only [MV.val, MV.cells]
  go_enter Try.func4, Try.ntmps4
  go_wp2_with fail
  refine (HS.out _).mono ?_
  rintro e wb ⟨rfl, rfl⟩
  go_wp2_with fail
  refine (of_any ⟨r, x, p, t⟩ (by show t.size ≤ 100000; omega) _).mono ?_
  rintro e w1 ⟨a1, c1, rfl, hr1, hp1', hx1'⟩
  simp only at hr1
  obtain ⟨bl1, hbl1⟩ : ∃ q, q = t.size := ⟨_, rfl⟩
  have hm1 := hx1'.heap (heap_alloc_new w _)
  have HM1 := Lib.hid hm1
  have HX1 := Lib.hid (((Ext.refl w).alloc _).trans hx1')
  have HR1 := Lib.hid hr1
  have HP1 := Lib.hid hp1'
  clear hm1 hr1 hp1' hx1' hbl1
  go_wp2_with fail
  refine (write_any r x p ⟨hx0, hx1⟩ ⟨hp0, hp1⟩ a1 t.size c1 (bl t) (by omega) w1 HR1.out HP1.out).mono ?_
  rintro e w2 ⟨v2, rfl, hO2, hX2⟩
  have hwf : ∀ z ∈ bytesM r x p (bl t), (Lit.int .u8 z).wf = true := by
    intro z hz
    unfold bytesM at hz
    rcases List.mem_append.1 hz with h | h
    · exact nums_wf (heads_bd ⟨hx0, hx1⟩ ⟨hp0, hp1⟩) z h
    · exact bl_wf t z h
  have hlen : (bytesM r x p (bl t)).length ≤ 100 := by
    unfold bytesM
    rw [List.length_append, nums_len, bl_len]
    cases r <;> simp [heads] <;> omega
  obtain ⟨hpl1, hpl2⟩ := rdAll_bytesM r x p ⟨hx0, hx1⟩ ⟨hp0, hp1⟩ (bl t)
  have HPL1 := Lib.hid hpl1
  have HPL2 := Lib.hid hpl2
  have HBy := Lib.hid (fun W => refBytes_any r x p ⟨hx0, hx1⟩ ⟨hp0, hp1⟩ t (by omega) W)
  have HWF := Lib.hid hwf
  generalize bytesM r x p (bl t) = ys at *
  obtain ⟨a2, c2, rfl, hR2, hP2⟩ := hO2.row2 HWF.out
  have HO2 := Lib.hid hO2
  have HX2 := Lib.hid hX2
  have HRd := Lib.hid (readM_any a2 ys.length c2 ys (by omega) w2 hR2 hP2)
  rw [HPL1.out] at HRd
  clear hO2 hX2 hR2 hP2 hpl1 hpl2 hwf
  go_wp2_with fail
  refine HRd.out.mono ?_
  rintro e w3 ⟨⟨v3, rfl, hO3⟩, hX3⟩
  rw [HPL2.out] at hO3
  obtain ⟨a3, c3, rfl, hR3, hP3⟩ := hO3.row2 (bl_wf t)
  have HR3 := Lib.hid hR3
  have HX3 := Lib.hid hX3
  clear hO3 hR3 hP3 hX3
  go_wp2_with fail
  obtain ⟨W, hW⟩ : ∃ W, W = w3.alloc (.cells #[.bool r, .int .u32 x, .int .u32 p, .slice a3 (bl t).length c3] 30) := ⟨_, rfl⟩
  have hX3W : Ext w3 W := by rw [hW]; exact (Ext.refl _).alloc _
  have HMx := Lib.hid (show W.heap[w3.heap.size]? = some (.cells #[.bool r, .int .u32 x, .int .u32 p, .slice a3 (bl t).length c3] 30 (0, 0)) by rw [hW]; exact heap_alloc_new _ _)
  have HMm := Lib.hid (hX3W.heap (HX3.out.heap (HX2.out.heap HM1.out)))
  have HXW := Lib.hid (HX1.out.trans (HX2.out.trans (HX3.out.trans hX3W)))
  have HOb := Lib.hid (fun V (hV : Ext W V) => (HO2.out.ext (HX3.out.trans (hX3W.trans hV))).str)
  have HRx := Lib.hid (fun V (hV : Ext W V) => HR3.out.ext (hX3W.trans hV))
  have HAs := Lib.hid (fun V (hV : Ext W V) => as_any r x p a3 (bl t).length c3 (bl t) V (HR3.out.ext (hX3W.trans hV)))
  rw [str_bl] at HAs
  rw [← hW]
  clear hW hX3W HRd HR1 HM1 HX3 HO2
  have heq := run_eqM ⟨r, x, p, t⟩ ⟨r, x, p, t⟩
  rw [show eqM ⟨r, x, p, t⟩ ⟨r, x, p, t⟩ = true by simp [eqM]] at heq
  simp only [MV.val, MV.cells] at heq
  have s0 := HOb.out _ (drew_ext W)
  obtain ⟨m0, m1, m2, m3, _, _, _, _⟩ := blk4 HMm.out
  obtain ⟨x0, x1, x2, x3, _, _, _, _⟩ := blk4 HMx.out
  have l1 := lt_of_heap HMm.out
  have l2 := lt_of_heap HMx.out
  generalize (bl t).length = dl at *
  generalize w3.heap.size = gx at *
  go_region_with (first | (go_at_call 11; refine (HBy.out _).mono ?_; rintro e w5 ⟨v5, rfl, hO5, hX5'⟩; have hX5 := (drew_ext W).trans hX5'; have s5 := hO5.str; have s6 := HOb.out _ hX5; obtain ⟨m0', m1', m2', m3', _, _, _, _⟩ := blk4 (hX5.heap HMm.out); obtain ⟨x0', x1', x2', x3', _, _, _, _⟩ := blk4 (hX5.heap HMx.out); have l1' := lt_of_heap (hX5.heap HMm.out); have l2' := lt_of_heap (hX5.heap HMx.out)) | (go_at_call 12; refine (HAs.out _ hX5).mono ?_; rintro e w6 ⟨rfl, hX6'⟩; have hX6 := hX5.trans hX6'; obtain ⟨m0'', m1'', m2'', m3'', _, _, _, _⟩ := blk4 (hX6.heap HMm.out); have l1'' := lt_of_heap (hX6.heap HMm.out)) | (go_at_call 8; refine (lives_any _).mono ?_; rintro e w7 ⟨rfl, hX7⟩))
  all_goals
    go_wp2_with fail
    go_ret
    exact ⟨rfl, HXW.out.trans (hX6.trans hX7)⟩
end Go.Proofs.Ytcnbgcoklbmdaaa
