/- The walk of 'like'. -/
import Derived.Test.YtekdoannpkifaaaFkI
namespace Go.Proofs.Ytekdoannpkifaaa
open Go.ChangeShapes Go.WideShapes Go.ChangeAt Go.RowKit

theorem keep2e {o w w' : World} {p : Addr} {a : Value} (h : w.cell? p = some a ∧ Ext o w) (hx : Ext w w') : w'.cell? p = some a ∧ Ext o w' := ⟨hx.cell h.1, h.2.trans hx⟩

set_option maxRecDepth 100000 in
set_option maxHeartbeats 4000000 in
theorem like_any (pb mb : Nat) (most : Int) (l : List (Int × FV)) (w : World) (h : FidW w pb mb most l) (hl : l.length ≤ 12) (base : Nat) (v : Value) (L : List (Int × FV)) (hr : PRow w base v L) (hI : Inv l L) :
    Calls Try.prog 17 #[.pointer (some ⟨pb, 0, none⟩), .agg #[.int .i64 most, v]] w fun r w' => r = .returned (.bool true) ∧ Ext w w' := by
  have HAl := Lib.hid (fun W (hW : Ext w W) => all_any pb mb most l W (h.ext hW) hl)
  have HLn := Lib.hid (fun W (hW : Ext w W) => len_any pb mb most l W (h.ext hW))
  have HI := Lib.hid hI
  have H := Lib.hid h
  have HR := Lib.hid hr
  have hLl := hI.len
  obtain ⟨a, cap, rfl, -⟩ := hr.form
  obtain ⟨m, hm⟩ : ∃ m, m = L.length := ⟨_, rfl⟩
  rw [← hLl, ← hm] at HLn
  rw [← hLl, ← hm] at hl
  rw [← hm] at HR ⊢
  have HM := Lib.hid hm
  clear h hr hI hm hLl
  go_enter Try.func17, Try.ntmps17
  go_wp2_with fail
  refine (HAl.out _ ((Ext.refl w).alloc _)).mono ?_
  rintro r w1 ⟨v5, ys, rfl, hp, hR, hu, hx⟩
  have hys := HI.out.all hp hR
  subst hys
  have hb0 := hx.heap (heap_alloc_new w (.cells #[.int .i64 most, .slice a m cap] 43))
  have HE := Lib.hid (((Ext.refl w).alloc (.cells #[.int .i64 most, .slice a m cap] 43)).trans hx)
  obtain ⟨a5, c5, rfl, hc5, hm5, -⟩ := hu.form
  rw [List.length_map, ← HM.out] at hc5
  have HU : Hid (URow w1 (w.heap.size + 1) (.slice a5 m c5) (L.map (·.1))) := Lib.hid (by
    have := hu
    rw [List.length_map, ← HM.out] at this
    simpa using this)
  rw [List.length_map, ← HM.out]
  obtain ⟨s0, s1, -, -⟩ := blk2 hb0
  have lz := lt_of_heap hb0
  have B0 := Lib.hid hb0
  unfold maxLen at hm5
  clear hp hR hu hx hb0 HAl
  go_wp2_with fail
  go_region_held3 (fun w' => w'.cell? ⟨w.heap.size, 1, none⟩ = some (.slice a m cap) ∧ Ext w w') (first | exact ⟨s1, HE.out.drew⟩ | assumption) (first | (go_at_call 19; refine (HLn.out _ (And.right (by assumption))).mono ?_; rintro e w8 ⟨rfl, rfl⟩))
  obtain ⟨W, hW⟩ : ∃ W, W = w1.drew := ⟨_, rfl⟩
  rw [← hW]
  have hE1 : Ext w1 W := by rw [hW]; exact (Ext.refl w1).drew
  have B1 := Lib.hid (hE1.heap B0.out)
  have HE1 := Lib.hid (HE.out.trans hE1)
  have HU1 := Lib.hid (HU.out.ext hE1)
  clear hE1 hW s0 s1 lz B0 HU
  go_wp2_with fail
  go_loopw [6] (fun v6 wr => ∃ i : Nat, i ≤ m ∧ v6 = .int .i64 i ∧ Ext W wr) (fun v6 _ => m - (RowKit.intOf v6).toNat)
  case atStart => exact ⟨0, by omega, rfl, Ext.refl _⟩
  case round =>
    obtain ⟨i, hi, rfl, hX⟩ := hrel
    have HX := Lib.hid hX
    clear hX
    by_cases hin : i < m
    · have hiL : i < L.length := by rw [← HM.out]; exact hin
      have hd : decide ((i : Int) < (m : Int)) = true := by simp; omega
      have hi0 : (0 : Int) ≤ (i : Int) := by omega
      have hi1 : (i : Int) < (m : Int) := by omega
      obtain ⟨a', c', e5, -, -, hc⟩ := (HU1.out.ext HX.out).form
      injection e5 with e1 e2 e3
      subst e1 e3
      clear e2
      obtain ⟨g5, rfl, hg5, u0, -⟩ := hc i (by rw [List.length_map]; exact hiL)
      rw [List.getElem_map] at u0
      clear hc
      have hget := HI.out.some (n := L[i].1) hiL (by simp [isN])
      have HG := Lib.hid (fun W' (hW' : Ext w W') => get_ok pb mb most l L[i].1 W' (v := L[i].2) (H.out.ext hW') hget)
      clear hget
      have HRi := Lib.hid (fun W' (hW' : Ext w W') => (HR.out.ext hW').form)
      have HP : Hid (∀ W', Ext w W' → ∃ g, a = some ⟨g, 0, none⟩ ∧ m ≤ cap ∧ cap ≤ maxLen ∧ g < W'.heap.size ∧ W'.cell? ⟨g, i * 11, none⟩ = some (.int .i64 L[i].1) ∧ W'.cell? ⟨g, i * 11 + 1, none⟩ = some (.int .i64 L[i].2.h1) ∧ W'.cell? ⟨g, i * 11 + 2, none⟩ = some (.int .i64 L[i].2.h2) ∧ W'.cell? ⟨g, i * 11 + 3, none⟩ = some (.int .i64 L[i].2.u1) ∧ W'.cell? ⟨g, i * 11 + 4, none⟩ = some (.int .i64 L[i].2.u2) ∧
          W'.cell? ⟨g, i * 11 + 5, none⟩ = some (.string L[i].2.name) ∧ W'.cell? ⟨g, i * 11 + 6, none⟩ = some (.bool L[i].2.dir) ∧ W'.cell? ⟨g, i * 11 + 7, none⟩ = some (.bool L[i].2.opn) ∧ W'.cell? ⟨g, i * 11 + 8, none⟩ = some (.int .i64 L[i].2.mode) ∧ W'.cell? ⟨g, i * 11 + 9, none⟩ = some (.int .i64 L[i].2.off) ∧ W'.cell? ⟨g, i * 11 + 10, none⟩ = some (.int .i64 L[i].2.at_)) := Lib.hid (fun W' hW' => by
        obtain ⟨a', cap', hv', hcl, hcm, hcell⟩ := (HR.out.ext hW').form
        injection hv' with e1 e3 e2
        subst e1 e2
        obtain ⟨g, h1, -, h2, h3⟩ := hcell i hiL
        exact ⟨g, h1, by rw [HM.out]; exact hcl, hcm, h2, h3⟩)
      clear HRi
      generalize L[i].1 = ki at *
      generalize L[i].2 = xi at *
      go_wp2_with fail
      refine (HG.out _ (HE1.out.trans HX.out)).mono ?_
      rintro r w2 ⟨rfl, hx2⟩
      have HN := Lib.hid (run_neqX xi)
      unfold FV.val at HN
      unfold FV.val
      have hX2 : Ext wr (w2.alloc (.cells xi.cells 32)) := hx2.alloc _
      obtain ⟨W2, hW2⟩ : ∃ W2, W2 = w2.alloc (.cells xi.cells 32) := ⟨_, rfl⟩
      have hWb : W2.heap[w2.heap.size]? = some (.cells xi.cells 32 (0, 0)) := by rw [hW2]; exact heap_alloc_new w2 _
      rw [← hW2] at hX2
      have HW2 := Lib.hid hW2
      have hE2 := HE1.out.trans (HX.out.trans hX2)
      obtain ⟨g, rfl, hmc, hcm, hg, p, p0, p1, p2, p3, p4, p5, p6, p7, p8, p9⟩ := HP.out W2 hE2
      obtain ⟨q0, q1, q2, q3, q4, q5, q6, q7, q8, q9⟩ := blk10 hWb
      obtain ⟨s0, s1, -, -⟩ := blk2 ((HX.out.trans hX2).heap B1.out)
      have u1 := hX2.cell u0
      have hg5' : g5 < W2.heap.size := Nat.lt_of_lt_of_le hg5 hX2.size
      have lz := lt_of_heap ((HX.out.trans hX2).heap B1.out)
      have lb := lt_of_heap hWb
      have HXn := Lib.hid (HX.out.trans hX2)
      have hneq := fun W => HN.out W
      unfold maxLen at hcm
      clear hW2 hx2 hX2 hWb hE2 HP HG u0 hg5
      go_upto_region 8 with (fail)
      rw [show w2.alloc (.cells #[.int .i64 xi.h1, .int .i64 xi.h2, .int .i64 xi.u1, .int .i64 xi.u2, .string xi.name, .bool xi.dir, .bool xi.opn, .int .i64 xi.mode, .int .i64 xi.off, .int .i64 xi.at_] 32) = W2 from HW2.out.symm]
      clear HW2
      generalize w2.heap.size = gb at *
      go_region_held3 (fun w' => w'.cell? ⟨w.heap.size, 1, none⟩ = some (.slice (some ⟨g, 0, none⟩) m cap) ∧ w'.cell? ⟨g5, i, none⟩ = some (.int .i64 ki) ∧ w'.cell? ⟨g, i * 11, none⟩ = some (.int .i64 ki) ∧
        w'.cell? ⟨g, i * 11 + 1, none⟩ = some (.int .i64 xi.h1) ∧ w'.cell? ⟨g, i * 11 + 2, none⟩ = some (.int .i64 xi.h2) ∧ w'.cell? ⟨g, i * 11 + 3, none⟩ = some (.int .i64 xi.u1) ∧ w'.cell? ⟨g, i * 11 + 4, none⟩ = some (.int .i64 xi.u2) ∧ w'.cell? ⟨g, i * 11 + 5, none⟩ = some (.string xi.name) ∧ w'.cell? ⟨g, i * 11 + 6, none⟩ = some (.bool xi.dir) ∧ w'.cell? ⟨g, i * 11 + 7, none⟩ = some (.bool xi.opn) ∧ w'.cell? ⟨g, i * 11 + 8, none⟩ = some (.int .i64 xi.mode) ∧ w'.cell? ⟨g, i * 11 + 9, none⟩ = some (.int .i64 xi.off) ∧ w'.cell? ⟨g, i * 11 + 10, none⟩ = some (.int .i64 xi.at_) ∧
        w'.cell? ⟨gb, 0, none⟩ = some (.int .i64 xi.h1) ∧ w'.cell? ⟨gb, 1, none⟩ = some (.int .i64 xi.h2) ∧ w'.cell? ⟨gb, 2, none⟩ = some (.int .i64 xi.u1) ∧ w'.cell? ⟨gb, 3, none⟩ = some (.int .i64 xi.u2) ∧ w'.cell? ⟨gb, 4, none⟩ = some (.string xi.name) ∧ w'.cell? ⟨gb, 5, none⟩ = some (.bool xi.dir) ∧ w'.cell? ⟨gb, 6, none⟩ = some (.bool xi.opn) ∧ w'.cell? ⟨gb, 7, none⟩ = some (.int .i64 xi.mode) ∧ w'.cell? ⟨gb, 8, none⟩ = some (.int .i64 xi.off) ∧ w'.cell? ⟨gb, 9, none⟩ = some (.int .i64 xi.at_))
        (first | exact ⟨s1, u1, p, p0, p1, p2, p3, p4, p5, p6, p7, p8, p9, q0, q1, q2, q3, q4, q5, q6, q7, q8, q9⟩ | assumption) (fail)
      go_wp2_with fail
      go_roundw
      case rel => exact ⟨i + 1, by omega, by go_num, HXn.out.drew⟩
      case measure => simp [RowKit.intOf]; omega
    · have hd : decide ((i : Int) < (m : Int)) = false := by simp; omega
      go_wp2_with fail
      go_ret
      exact ⟨rfl, HE1.out.trans HX.out⟩
end Go.Proofs.Ytekdoannpkifaaa
