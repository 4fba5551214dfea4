/- The walk of the law CodesOwns. -/
import Derived.Test.YtfbdahhlhmdicaaDoorA8
import Derived.Deep.RegionWith
import Derived.Deep.DeepCutAuto
namespace Go.Proofs.YtfbdahhlhmdicaaDoor
open Go.ChangeShapes Go.WideShapes Go.ChangeAt Go.RowKit

theorem AllRel.form {w w1 : World} {v : Value} (h : AllRel w 19 v w1) : ∃ g cap cur, v = .slice (some ⟨g, 0, none⟩) 19 cap ∧ w.heap.size ≤ g ∧ 19 ≤ cap ∧ cap ≤ maxLen ∧ w1.heap[g]? = some (.cells cur 22 (0, 0)) ∧
    ∀ k, k < 19 → cur[k]? = some (.int .i64 (rowAt k).e) := by
  rcases h.1.2 with ⟨_, h0⟩ | ⟨g, cap, cur, hv, hb, hg, hn, hm, hs, ht⟩
  · cases h0
  · refine ⟨g, cap, cur, hv, hb, hn, hm, hg, fun k hk => ?_⟩
    have h1 : (cur.toList.take (19 * 1))[k]? = cur[k]? := by
      rw [List.getElem?_take, if_pos (by omega)]; simp
    rw [← h1, ht]
    have hl : k < errs.length := hk
    rw [List.take_of_length_le (by decide), List.getElem?_map, List.getElem?_eq_getElem hl, ← err_at k hk]
    simp [hl]
theorem cell_at {w : World} {g : Nat} {cur : Array Value} {t : TypeId} {fr : Nat × Nat} (h : w.heap[g]? = some (.cells cur t fr)) (k : Nat) : w.cell? ⟨g, k, none⟩ = cur[k]? := by
  simp [World.cell?, h]

set_option maxHeartbeats 2000000 in
theorem codesOwns_walk (n : Int) (w0 : (Lit.int .i64 n).wf = true) (w : World) (ht : TabW w) :
    Calls Tryd.prog 6 #[.int .i64 n] w fun r w' => r = .returned (.bool true) ∧ Ext w w' := by
  have hx : -9223372036854775808 ≤ n ∧ n ≤ 9223372036854775807 := by simpa [Lit.wf, IntKind.min, IntKind.max, IntKind.signed, IntKind.bits] using w0
  have HT := Lib.hid ht
  have hab := arnd_bd n 19 (by omega)
  obtain ⟨i, hi⟩ := Int.eq_ofNat_of_zero_le hab.1
  have hi19 : i < 19 := by omega
  have HA := Lib.hid (show ∀ W, Calls Tryd.prog 8 #[.int .i64 n, .int .i64 19] W fun r w' => r = .returned (.int .i64 (i : Nat)) ∧ W = w' from
    fun W => (around_any n 19 W (by omega) hx.1 hx.2).mono fun r w' h => by rw [← hi]; exact h)
  clear ht w0 hi hab
  go_enter Tryd.func6, Tryd.ntmps6
  go_wp2_with fail
  refine (all_any _ HT.out).mono ?_
  rintro r w1 ⟨v, rfl, H1⟩
  obtain ⟨g, cap, cur, rfl, hgb, hc1, hc2, hg, hcur⟩ := H1.form
  have hcell := (cell_at hg i).trans (hcur i hi19)
  have hfz : w1.frozen? ⟨g, i, none⟩ = false := by simp [World.frozen?, hg]
  have hE : Ext w (w1.setCell ⟨g, i, none⟩ (.int .i64 99)) := Below.setCell H1.2 hgb _
  have HE := Lib.hid hE
  unfold maxLen at hc2
  clear hg hcur H1 hE
  go_wp2_with fail
  refine (HA.out _).mono ?_
  rintro r w2 ⟨rfl, rfl⟩
  go_wp2_with fail
  refine (all_any _ (HT.out.ext HE.out)).mono ?_
  rintro r w3 ⟨v, rfl, H3⟩
  obtain ⟨g3, cap3, cur3, rfl, hgb3, hc31, hc32, hg3, hcur3⟩ := H3.form
  have hcell3 := (cell_at hg3 i).trans (hcur3 i hi19)
  have HE3 := Lib.hid (HE.out.trans H3.2)
  unfold maxLen at hc32
  clear hg3 hcur3 H3 hcell hfz hgb hc1 hc2 HE
  have hi0 : (0 : Int) ≤ (i : Int) := by omega
  have hi1 : (i : Int) < 19 := by omega
  have HRA := Lib.hid (show Calls Tryd.prog 21 #[] w3.drew fun r w' => r = .returned (.slice (some ⟨w3.heap.size, 0, none⟩) 19 19) ∧ Ext w3.drew w' ∧ w'.cell? ⟨w3.heap.size, i, none⟩ = some (.int .i64 (rowAt i).e) from
    (refAll_any w3.drew).mono fun r w' ⟨h1, h2⟩ => ⟨h1, by rw [← h2]; exact (Ext.refl _).alloc _, by rw [← h2]; exact errCell _ _ (heap_alloc_new w3.drew _) i hi19⟩)
  generalize hr : (rowAt i).e = re at *
  clear hr
  have HTd := Lib.hid (HT.out.ext HE3.out.drew)
  go_wp2_with fail
  go_region_with (first | (go_at_call 8; refine (HA.out _).mono ?_; rintro e w' ⟨rfl, rfl⟩) | (go_at_call 21; refine HRA.out.mono ?_; rintro e w' ⟨rfl, hx', hce⟩; have hc3' := hx'.cell hcell3) | (go_at_call 15; refine (lives_any _ (HTd.out.ext hx')).mono ?_; rintro e w4 ⟨rfl, hx4⟩))
  all_goals
    go_wp2_with fail
    go_ret
    exact ⟨rfl, HE3.out.drew.trans (Ext.trans hx' hx4)⟩
end Go.Proofs.YtfbdahhlhmdicaaDoor
