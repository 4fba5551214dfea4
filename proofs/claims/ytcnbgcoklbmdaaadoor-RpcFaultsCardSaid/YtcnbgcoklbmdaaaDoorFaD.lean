/- The walks of rpc's find, Number and Place at wrapped errors, and at errors that are no fault. -/
import Derived.Test.YtcnbgcoklbmdaaaDoorFaC
namespace Go.Proofs.YtcnbgcoklbmdaaaDoor
open Go.ChangeShapes Go.WideShapes Go.ChangeAt Go.RowKit

/-- The library's variable reads as it is laid. -/
def ErrT (w : World) : Prop := w.cell? ⟨0, 0, none⟩ = some (.iface 102 (.agg #[.pointer (some ⟨4, 34, none⟩)]))
theorem ErrT.ext {w w' : World} (h : ErrT w) (hx : Ext w w') : ErrT w' := hx.cell h

set_option maxRecDepth 100000 in
set_option maxHeartbeats 2000000 in
theorem findW (k : Nat) (e : Addr) (w : World) (hg : ErrT w) :
    Calls Tryd.prog 23 #[werr (k + 1) (.iface 47 (.pointer (some e)))] w fun r w' => r = .returned (.pointer (some e)) ∧ Ext w w' := by
  have fW := fa_fW
  have hx0 := (Ext.refl w).alloc (.cells #[.pointer none] 47)
  have hAs := As_any 51 (.agg #[werr k (.iface 47 (.pointer (some e)))]) w.heap.size (w.alloc (.cells #[.pointer none] 47)) (hg.ext hx0) (by simp)
    (fun r w' => r = .returned (.bool true) ∧ w'.cell? ⟨w.heap.size, 0, none⟩ = some (.pointer (some e)) ∧ Upd [w.heap.size] (w.alloc (.cells #[.pointer none] 47)) w')
    (fun a W hW hc => by
      have hb := hW.heap (heap_alloc_new w (.cells #[.pointer none] 47))
      refine (as_fault (k + 1) e a w.heap.size (.pointer none) W hc (cell_of hb 0) (free_of hb 0)).mono ?_
      rintro r w' ⟨rfl, h1, h2⟩
      exact ⟨true, rfl, rfl, h1, (hW.upd _).trans h2⟩)
  have HAs := Lib.hid hAs
  clear hAs hg hx0
  rw [show werr (k + 1) (.iface 47 (.pointer (some e))) = .iface 51 (.agg #[werr k (.iface 47 (.pointer (some e)))]) from rfl]
  generalize werr k (.iface 47 (.pointer (some e))) = u at *
  go_enter Tryd.func23, Tryd.ntmps23
  go_wp2_with fail
  refine HAs.out.mono ?_
  rintro r w' ⟨rfl, h1, h2⟩
  have HU := Lib.hid (show Ext w w' from h2.ext ((Ext.refl w).alloc _) (by simp))
  clear h2
  go_wp2_with fail
  go_ret
  exact ⟨rfl, HU.out⟩
set_option maxRecDepth 100000 in
set_option maxHeartbeats 2000000 in
theorem findO (k : Nat) (e : Int) (w : World) (hg : ErrT w) :
    Calls Tryd.prog 23 #[werr k (.iface 37 (.int .i64 e))] w fun r w' => r = .returned (.pointer none) ∧ Ext w w' := by
  have fW := fa_fW
  have fE := fa_fE
  have hx0 := (Ext.refl w).alloc (.cells #[.pointer none] 47)
  obtain ⟨T, v, hu, hT⟩ : ∃ T v, werr k (.iface 37 (.int .i64 e)) = .iface T v ∧ ∀ W, (Instr.typeAssert (.iface T v) 34 47 true).run Tryd.prog W = .ok (.tuple #[.pointer none, .bool false]) W := by
    cases k with
    | zero => exact ⟨_, _, rfl, fun W => fa_fE _ W⟩
    | succ n => exact ⟨_, _, rfl, fun W => fa_fW _ W⟩
  have hAs := As_any T v w.heap.size (w.alloc (.cells #[.pointer none] 47)) (hg.ext hx0) (by simp)
    (fun r w' => r = .returned (.bool false) ∧ Ext (w.alloc (.cells #[.pointer none] 47)) w')
    (fun a W hW hc => by
      have := as_other k e (.iface 80 (.pointer (some ⟨w.heap.size, 0, none⟩))) (.pointer (some ⟨4, 80, none⟩)) (.pointer (some ⟨a, 0, none⟩)) (.int .u64 150) W
      rw [hu] at this
      refine this.mono ?_
      rintro r w' ⟨rfl, h1⟩
      exact ⟨false, rfl, rfl, hW.trans h1⟩)
  have HAs := Lib.hid hAs
  rw [hu]
  clear hAs hg hx0 hu fW fE
  go_enter Tryd.func23, Tryd.ntmps23
  go_wp2_with fail
  refine HAs.out.mono ?_
  rintro r w' ⟨rfl, h2⟩
  have HU := Lib.hid (((Ext.refl w).alloc _).trans h2)
  clear h2
  go_wp2_with fail
  go_ret
  exact ⟨rfl, HU.out⟩
end Go.Proofs.YtcnbgcoklbmdaaaDoor
