/- The walk of errors.as through wrappings. -/
import Derived.Test.YtcnbgcoklbmdaaaDoorFaA
import Derived.Deep.LoopGhost
namespace Go.Proofs.YtcnbgcoklbmdaaaDoor
open Go.ChangeShapes Go.WideShapes Go.ChangeAt Go.RowKit
open Go.Extern.Stop Go.Stop Go.Extern

/-- An error wrapped k times. -/
def werr : Nat → Value → Value
  | 0, v => v
  | k + 1, v => .iface 51 (.agg #[werr k v])
theorem unwrap_any (v : Value) (w : World) : Calls Tryd.prog 75 #[.agg #[v]] w fun r w' => r = .returned v ∧ Ext w w' := by
  go_enter Tryd.func75, Tryd.ntmps75
  go_wp2_with fail
  go_ret
  exact ⟨rfl, (Ext.refl w).alloc _⟩
theorem werr_nil (t : TypeId) (v : Value) (k : Nat) (W : World) : (binOp .eql 34 (werr k (.iface t v)) .nilIface).run Tryd.prog W = .ok (.bool false) W := by
  cases k <;> (unfold werr; go_simp)

set_option maxRecDepth 100000 in
set_option maxHeartbeats 4000000 in
theorem as_fault (k : Nat) (e : Addr) (a tb : Nat) (old : Value) (w : World) (ha : w.cell? ⟨a, 0, none⟩ = some (.pointer (some ⟨tb, 0, none⟩))) (ht : w.cell? ⟨tb, 0, none⟩ = some old) (hf : w.frozen? ⟨tb, 0, none⟩ = false) :
    Calls Tryd.prog 39 #[werr k (.iface 47 (.pointer (some e))), .iface 80 (.pointer (some ⟨tb, 0, none⟩)), .agg #[.pointer (some ⟨4, 80, none⟩), .pointer (some ⟨a, 0, none⟩), .int .u64 150], .iface 102 (.agg #[.pointer (some ⟨4, 47, none⟩)])] w
      fun r w' => r = .returned (.bool true) ∧ w'.cell? ⟨tb, 0, none⟩ = some (.pointer (some e)) ∧ Upd [tb] w w' := by
  have hal := World.block_lt_of_cell? _ _ ha
  have htl := World.block_lt_of_cell? _ _ ht
  simp only at hal htl
  have HA := Lib.hid ha
  have HT := Lib.hid ht
  clear ha ht
  go_enter Tryd.func39, Tryd.ntmps39
  go_wp2_with fail
  go_loopg [0] k (fun gk v0 wr => v0 = werr gk (.iface 47 (.pointer (some e))) ∧ Ext (w.alloc (.cells #[.pointer (some ⟨4, 80, none⟩), .pointer (some ⟨a, 0, none⟩), .int .u64 150] 89)) wr)
  case atStart => exact ⟨rfl, Ext.refl _⟩
  case round =>
    obtain ⟨rfl, hx⟩ := hrel
    have HX := Lib.hid hx
    have hb := hx.heap (heap_alloc_new w (.cells #[.pointer (some ⟨4, 80, none⟩), .pointer (some ⟨a, 0, none⟩), .int .u64 150] 89))
    obtain ⟨b0, b1, b2, -, -, -⟩ := blk3 hb
    have lb := lt_of_heap hb
    clear hx hb
    have h42 := @run_callFunc_extern Tryd.prog 42 _ ReflectliteType.typeOf Tryd.func42 (by kernel_rfl) (by kernel_rfl) (by kernel_rfl) (by kernel_rfl)
    have h82 := @run_callFunc_extern Tryd.prog 82 _ (ReflectliteType.relation "AssignableTo" ReflectliteType.assignableTo) Tryd.func82 (by kernel_rfl) (by kernel_rfl) (by kernel_rfl) (by kernel_rfl)
    have mA := fa_mAssign
    cases gk with
    | zero =>
      have h43 := @run_callFunc_extern Tryd.prog 43 _ (ReflectliteValue.method (ReflectliteValue.valueError "reflectlite.Value.Elem" 0) ReflectliteValue.elem) Tryd.func43 (by kernel_rfl) (by kernel_rfl) (by kernel_rfl) (by kernel_rfl)
      have h36 := @run_callFunc_extern Tryd.prog 36 _ (fun args => ReflectliteValue.unpack (args.getD 0 (.tuple #[]))) Tryd.func36 (by kernel_rfl) (by kernel_rfl) (by kernel_rfl) (by kernel_rfl)
      have h44 := @run_callFunc_extern Tryd.prog 44 _ ReflectliteValue.set Tryd.func44 (by kernel_rfl) (by kernel_rfl) (by kernel_rfl) (by kernel_rfl)
      have tP := fa_typeP
      have aP := fa_assP
      have vP := fa_valueP
      have eV := fa_elemV ⟨a, 0, none⟩ ⟨tb, 0, none⟩ wr (HX.out.cell (((Ext.refl w).alloc _).cell HA.out))
      have hE : Ext w wr := ((Ext.refl w).alloc _).trans HX.out
      have ht2 := hE.cell HT.out
      have hf2 : wr.frozen? ⟨tb, 0, none⟩ = false := by
        have : wr.frozen? ⟨tb, 0, none⟩ = w.frozen? ⟨tb, 0, none⟩ := World.frozen?_of_block (hE.block tb htl)
        rw [this]; exact hf
      have htb := Nat.lt_of_lt_of_le htl hE.size
      have hx3 := (Ext.refl wr).alloc (.cells #[.pointer (some e)] 47)
      have sV := fa_set ⟨tb, 0, none⟩ ⟨wr.heap.size, 0, none⟩ e old (wr.alloc (.cells #[.pointer (some e)] 47)) (cell_of (heap_alloc_new wr _) 0) (hx3.cell ht2)
        (by have : (wr.alloc (.cells #[.pointer (some e)] 47)).frozen? ⟨tb, 0, none⟩ = wr.frozen? ⟨tb, 0, none⟩ := World.frozen?_of_block (hx3.block tb htb)
            rw [this]; exact hf2)
      have hc4 : (wr.setCell ⟨tb, 0, none⟩ (.pointer (some e))).cell? ⟨tb, 0, none⟩ = some (.pointer (some e)) := World.cell?_setCell_same' _ _ _ (by rw [ht2]; rfl)
      have HF := Lib.hid (show ((wr.setCell ⟨tb, 0, none⟩ (.pointer (some e))).alloc (.cells #[.pointer (some e)] 47)).cell? ⟨tb, 0, none⟩ = some (.pointer (some e)) ∧ Upd [tb] w ((wr.setCell ⟨tb, 0, none⟩ (.pointer (some e))).alloc (.cells #[.pointer (some e)] 47)) from
        ⟨((Ext.refl _).alloc _).cell hc4, ((hE.upd _).setCell _ _ (by simp)).alloc _⟩)
      clear hc4
      clear ht2 hf2 hx3 hf
      unfold werr
      go_wp2_with fail
      go_ret
      exact ⟨rfl, HF.out.1, HF.out.2⟩
    | succ n =>
      have hW := werr_nil 47 (.pointer (some e)) n
      have tW := fa_typeW
      have aW := fa_assW
      have sW := fa_asW
      have uW := fa_unW
      have mU := fa_mUnwrap
      rw [show werr (n + 1) (.iface 47 (.pointer (some e))) = .iface 51 (.agg #[werr n (.iface 47 (.pointer (some e)))]) from rfl]
      obtain ⟨T, v, hu⟩ : ∃ T v, werr n (.iface 47 (.pointer (some e))) = .iface T v := by
        cases n with
        | zero => exact ⟨_, _, rfl⟩
        | succ n => exact ⟨_, _, rfl⟩
      rw [hu] at hW ⊢
      have HU := Lib.hid hu
      clear hu
      go_wp2_with fail
      refine (unwrap_any _ _).mono ?_
      rintro r w2 ⟨rfl, hx2⟩
      have HX2 := Lib.hid (HX.out.trans hx2)
      clear hx2
      go_wp2_with fail
      go_roundg n
      case measure => omega
      case rel => exact ⟨HU.out.symm, HX2.out⟩
end Go.Proofs.YtcnbgcoklbmdaaaDoor
