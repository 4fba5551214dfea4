/- The walks of errors.as at an error that is no fault, and of errors.As. -/
import Derived.Test.YtcnbgcoklbmdaaaDoorFaB
namespace Go.Proofs.YtcnbgcoklbmdaaaDoor
open Go.ChangeShapes Go.WideShapes Go.ChangeAt Go.RowKit
open Go.Extern.Stop Go.Stop Go.Extern

set_option maxRecDepth 100000 in
set_option maxHeartbeats 4000000 in
theorem as_other (k : Nat) (e : Int) (tv : Value) (x y z : Value) (w : World) :
    Calls Tryd.prog 39 #[werr k (.iface 37 (.int .i64 e)), tv, .agg #[x, y, z], .iface 102 (.agg #[.pointer (some ⟨4, 47, none⟩)])] w
      fun r w' => r = .returned (.bool false) ∧ Ext w w' := by
  go_enter Tryd.func39, Tryd.ntmps39
  go_wp2_with fail
  go_loopg [0] k (fun gk v0 wr => v0 = werr gk (.iface 37 (.int .i64 e)) ∧ Ext w wr)
  case atStart => exact ⟨rfl, (Ext.refl w).alloc _⟩
  case round =>
    obtain ⟨rfl, hx⟩ := hrel
    have HX := Lib.hid hx
    clear hx
    have h42 := @run_callFunc_extern Tryd.prog 42 _ ReflectliteType.typeOf Tryd.func42 (by kernel_rfl) (by kernel_rfl) (by kernel_rfl) (by kernel_rfl)
    have h82 := @run_callFunc_extern Tryd.prog 82 _ (ReflectliteType.relation "AssignableTo" ReflectliteType.assignableTo) Tryd.func82 (by kernel_rfl) (by kernel_rfl) (by kernel_rfl) (by kernel_rfl)
    have mA := fa_mAssign
    cases gk with
    | zero =>
      have tE := fa_typeE
      have aE := fa_assE
      have sE := fa_asE
      have uE := fa_unE
      have usE := fa_usE
      unfold werr
      go_wp2_with fail
      go_ret
      exact ⟨rfl, HX.out⟩
    | succ n =>
      have hW := werr_nil 37 (.int .i64 e) n
      have tW := fa_typeW
      have aW := fa_assW
      have sW := fa_asW
      have uW := fa_unW
      have mU := fa_mUnwrap
      rw [show werr (n + 1) (.iface 37 (.int .i64 e)) = .iface 51 (.agg #[werr n (.iface 37 (.int .i64 e))]) from rfl]
      obtain ⟨T, v, hu⟩ : ∃ T v, werr n (.iface 37 (.int .i64 e)) = .iface T v := by
        cases n with
        | zero => exact ⟨_, _, rfl⟩
        | succ n => exact ⟨_, _, rfl⟩
      rw [hu] at hW ⊢
      have HU := Lib.hid hu
      clear hu
      go_wp2_with fail
      refine (unwrap_any _ _).mono ?_
      rintro r w2 ⟨rfl, hx2⟩
      have HX2 := Lib.hid (HX.out.trans hx2)
      clear hx2
      go_wp2_with fail
      go_roundg n
      case measure => omega
      case rel => exact ⟨HU.out.symm, HX2.out⟩

set_option maxRecDepth 100000 in
set_option maxHeartbeats 4000000 in
/-- errors.As at a target that is a variable of find's: what errors.as tells. -/
theorem As_any (T : TypeId) (v : Value) (tb : Nat) (w : World) (hg : w.cell? ⟨0, 0, none⟩ = some (.iface 102 (.agg #[.pointer (some ⟨4, 34, none⟩)]))) (ht0 : tb < w.heap.size)
    (Q : Ending → World → Prop)
    (hk : ∀ a W, Ext w W → W.cell? ⟨a, 0, none⟩ = some (.pointer (some ⟨tb, 0, none⟩)) → Calls Tryd.prog 39 #[.iface T v, .iface 80 (.pointer (some ⟨tb, 0, none⟩)), .agg #[.pointer (some ⟨4, 80, none⟩), .pointer (some ⟨a, 0, none⟩), .int .u64 150], .iface 102 (.agg #[.pointer (some ⟨4, 47, none⟩)])] W fun r w' => ∃ b, r = .returned (.bool b) ∧ Q (.returned (.bool b)) w') :
    Calls Tryd.prog 31 #[.iface T v, .iface 80 (.pointer (some ⟨tb, 0, none⟩))] w Q := by
  have h36 := @run_callFunc_extern Tryd.prog 36 _ (fun args => ReflectliteValue.unpack (args.getD 0 (.tuple #[]))) Tryd.func36 (by kernel_rfl) (by kernel_rfl) (by kernel_rfl) (by kernel_rfl)
  have h37 := @run_callFunc_extern Tryd.prog 37 _ (ReflectliteValue.methodAny (ReflectliteValue.valueError "reflectlite.Value.Type" 0) (fun t _ _ _ => ReflectliteType.toType t)) Tryd.func37 (by kernel_rfl) (by kernel_rfl) (by kernel_rfl) (by kernel_rfl)
  have h38 := @run_callFunc_extern Tryd.prog 38 _ (ReflectliteValue.method (ReflectliteValue.valueError "reflectlite.Value.IsNil" 0) ReflectliteValue.isNil) Tryd.func38 (by kernel_rfl) (by kernel_rfl) (by kernel_rfl) (by kernel_rfl)
  have h70 := @run_callFunc_extern Tryd.prog 70 _ (ReflectliteType.abiMethod fun t => do pure (.int .u8 (← Rtype.kind t))) Tryd.func70 (by kernel_rfl) (by kernel_rfl) (by kernel_rfl) (by kernel_rfl)
  have h84 := @run_callFunc_extern Tryd.prog 84 _ (ReflectliteType.method ReflectliteType.elem) Tryd.func84 (by kernel_rfl) (by kernel_rfl) (by kernel_rfl) (by kernel_rfl)
  have h85 := @run_callFunc_extern Tryd.prog 85 _ (ReflectliteType.relation "Implements" ReflectliteType.implements_) Tryd.func85 (by kernel_rfl) (by kernel_rfl) (by kernel_rfl) (by kernel_rfl)
  have f6 := fa_valueOf
  have f7 := fa_type
  have mK := fa_mKind
  have mE := fa_mElem
  have mI := fa_mImpl
  have k1 := fa_kindPP
  have k2 := fa_kindP
  have e27 := fa_elem
  have i25 := fa_impl
  have hx2 : Ext w ((w.alloc (.cells #[.pointer (some ⟨tb, 0, none⟩)] 80)).alloc (.cells #[.pointer (some ⟨4, 80, none⟩), .pointer (some ⟨w.heap.size, 0, none⟩), .int .u64 150] 89)) := ((Ext.refl w).alloc _).alloc _
  have hc : ((w.alloc (.cells #[.pointer (some ⟨tb, 0, none⟩)] 80)).alloc (.cells #[.pointer (some ⟨4, 80, none⟩), .pointer (some ⟨w.heap.size, 0, none⟩), .int .u64 150] 89)).cell? ⟨w.heap.size, 0, none⟩ = some (.pointer (some ⟨tb, 0, none⟩)) := ((Ext.refl _).alloc _).cell (cell_of (heap_alloc_new w _) 0)
  have n8 := fa_isNil ⟨w.heap.size, 0, none⟩ ⟨tb, 0, none⟩ _ hc
  have hg2 := hx2.cell hg
  have HK := Lib.hid (hk w.heap.size _ hx2 hc)
  have hlt : 0 < w.heap.size := by omega
  clear hk hx2 hc
  go_enter Tryd.func31, Tryd.ntmps31
  go_wp2_with fail
  refine HK.out.mono ?_
  rintro r w' ⟨b, rfl, hQ⟩
  have HQ := Lib.hid hQ
  clear hQ
  go_wp2_with fail
  exact HQ.out
end Go.Proofs.YtcnbgcoklbmdaaaDoor
