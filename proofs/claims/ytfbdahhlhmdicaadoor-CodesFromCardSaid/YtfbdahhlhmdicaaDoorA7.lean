/- The walk of the law CodesFrom. -/
import Derived.Test.YtfbdahhlhmdicaaDoorA4
namespace Go.Proofs.YtfbdahhlhmdicaaDoor
open Go.ChangeShapes Go.WideShapes Go.ChangeAt Go.RowKit

def FromRel (w : World) (n : Int) (k : Nat) (wr : World) : Prop := k ≤ 3 ∧ wr.heap[w.heap.size]? = some (.cells #[.int .u32 n, .int .u32 (n % 80), .int .u32 (10000 + n % 111)] 25 (0, 0)) ∧ Ext w wr
theorem FromRel.cell {w wr : World} {n : Int} {k : Nat} (h : FromRel w n k wr) (hk : k < 3) : ∃ e, wr.cell? ⟨w.heap.size, k, none⟩ = some (.int .u32 e) := by
  have : k = 0 ∨ k = 1 ∨ k = 2 := by omega
  rcases this with rfl | rfl | rfl <;> exact ⟨_, by simp only [World.cell?, h.2.1]; rfl⟩

set_option maxHeartbeats 1000000 in
theorem codesFrom_walk (n : Int) (w0 : (Lit.int .u32 n).wf = true) (m : Int) (w1 : (Lit.int .i64 m).wf = true) (w : World) (ht : TabW w) :
    Calls Tryd.prog 4 #[.int .u32 n, .int .i64 m] w fun r w' => r = .returned (.bool true) ∧ Ext w w' := by
  have hm : -9223372036854775808 ≤ m ∧ m ≤ 9223372036854775807 := by simpa [Lit.wf, IntKind.min, IntKind.max, IntKind.signed, IntKind.bits] using w1
  have hn : 0 ≤ n ∧ n ≤ 4294967295 := by simpa [Lit.wf, IntKind.min, IntKind.max, IntKind.signed, IntKind.bits] using w0
  have HT := Lib.hid ht
  clear ht w0 w1
  go_enter Tryd.func4, Tryd.ntmps4
  go_wp2_with fail
  go_loopw [6] (fun v6 wr => ∃ k : Nat, v6 = .int .i64 k ∧ FromRel w n k wr) (fun v6 _ => 3 - (intOf v6).toNat)
  case atStart => exact ⟨0, rfl, by omega, heap_alloc_new w _, (Ext.refl w).alloc _⟩
  case round =>
    obtain ⟨k, rfl, HR⟩ := hrel
    have hk := HR.1
    have hTr := HT.out.ext HR.2.2
    have HTr := Lib.hid hTr
    clear hTr
    by_cases hlt : k < 3
    · have hd : decide ((k : Int) < 3) = true := by simp; omega
      obtain ⟨e, hc⟩ := HR.cell hlt
      have hsz : w.heap.size < wr.heap.size := (Array.getElem?_eq_some_iff.1 HR.2.1).1
      have hi0 : (0 : Int) ≤ (k : Int) := by omega
      have hi1 : (k : Int) < 3 := by omega
      go_wp2_with fail
      go_region_held3 (fun w' => w'.cell? ⟨w.heap.size, k, none⟩ = some (.int .u32 e) ∧ Ext wr w') (first | exact ⟨hc, (Ext.refl _).drew⟩ | exact ⟨Ext.cell hx (by simp [*]), Ext.trans (by simp [*]) hx⟩)
        (first
          | (go_at_call 16; refine (fromStatus_any _ _ (HTr.out.ext (by simp [*]))).mono ?_; rintro e w' ⟨rfl, hx⟩)
          | (go_at_call 17; refine (refFromStatus_any _ _).mono ?_; rintro e w' ⟨rfl, hx⟩))
      all_goals
        have hF : Ext wr w' := And.right (by assumption)
        clear hx
        go_wp2_with fail
        go_roundw
        case rel => exact ⟨k + 1, by go_num, by omega, hF.heap HR.2.1, HR.2.2.trans hF⟩
        case measure => simp [intOf]; omega
    · have hd : decide ((k : Int) < 3) = false := by simp; omega
      have hab := arnd_bd m 22 (by omega)
      go_wp2_with fail
      refine (around_any m 22 _ (by omega) hm.1 hm.2).mono ?_
      rintro r w2 ⟨rfl, rfl⟩
      go_wp2_with fail
      refine (fromCode_any m _ HTr.out).mono ?_
      rintro r w1 ⟨rfl, hx1⟩
      have H1 := Lib.hid hx1
      clear hx1
      go_wp2_with fail
      refine (refFromCode_any m _ hm.1 hm.2).mono ?_
      rintro r w2 ⟨rfl, hx2⟩
      have H2 := Lib.hid (H1.out.trans hx2)
      clear hx2 H1
      go_wp2_with fail
      refine (fromCode_any _ _ (HTr.out.ext H2.out)).mono ?_
      rintro r w3 ⟨rfl, hx3⟩
      have H3 := Lib.hid (H2.out.trans hx3)
      clear hx3 H2
      go_wp2_with fail
      refine (refFromCode_any _ _ (by omega) (by omega)).mono ?_
      rintro r w4 ⟨rfl, hx4⟩
      have H4 := Lib.hid (H3.out.trans hx4)
      clear hx4 H3
      go_wp2_with fail
      refine (lives_any _ (HTr.out.ext H4.out)).mono ?_
      rintro r w5 ⟨rfl, hx5⟩
      have H5 := Lib.hid (H4.out.trans hx5)
      clear hx5 H4
      go_wp2_with fail
      go_ret
      exact ⟨rfl, HR.2.2.trans H5.out⟩
end Go.Proofs.YtfbdahhlhmdicaaDoor
