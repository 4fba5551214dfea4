/- errors.As at the target of rpc's find: closed facts of the model's entries for internal/reflectlite at this program's types. -/
import Derived.Test.YtcnbgcoklbmdaaaDoorBase
import Derived.LaidEql
import Derived.Stop.Asserts
import Derived.RowKitTokens
namespace Go.Proofs.YtcnbgcoklbmdaaaDoor
open Go.ChangeShapes Go.WideShapes Go.ChangeAt Go.RowKit
open Go.Extern.Stop Go.Stop Go.Extern

theorem fa_valueOf (t : Addr) (w : World) : (ReflectliteValue.unpack (.iface 80 (.pointer (some t)))).run Tryd.prog w
    = .ok (.agg #[.pointer (some ⟨4, 80, none⟩), .pointer (some ⟨w.heap.size, 0, none⟩), .int .u64 150]) (w.alloc (.cells #[.pointer (some t)] 80)) := by kernel_rfl
theorem fa_type (a : Addr) (w : World) : (ReflectliteValue.methodAny (ReflectliteValue.valueError "reflectlite.Value.Type" 0) (fun t _ _ _ => ReflectliteType.toType t) #[.agg #[.pointer (some ⟨4, 80, none⟩), .pointer (some a), .int .u64 150]]).run Tryd.prog w
    = .ok (.iface 102 (.agg #[.pointer (some ⟨4, 80, none⟩)])) w := by kernel_rfl
theorem fa_mKind (h : Value) (w : World) : (Go.method 164 102 (.agg #[h]) "Kind").run Tryd.prog w = .ok (70, h) w := by kernel_rfl
theorem fa_kindPP (w : World) : ((ReflectliteType.abiMethod fun t => (fun a : Nat => Value.int IntKind.u8 (a : Int)) <$> Rtype.kind t) #[.pointer (some ⟨4, 80, none⟩)]).run Tryd.prog w = .ok (.int .u8 22) w := by kernel_rfl
theorem fa_kindP (w : World) : ((ReflectliteType.abiMethod fun t => (fun a : Nat => Value.int IntKind.u8 (a : Int)) <$> Rtype.kind t) #[.pointer (some ⟨4, 47, none⟩)]).run Tryd.prog w = .ok (.int .u8 22) w := by kernel_rfl
theorem fa_rlm (z : Sem Value) (f : TypeId → Addr → Nat → Nat → Sem Value) (v : Value) :
    ReflectliteValue.method z f #[v] = (do match ← ReflectliteValue.parts v with | none => z | some (t, a, fl) => f t a fl (fl % 32)) := rfl
theorem fa_partsPP (a : Addr) (w : World) : (ReflectliteValue.parts (.agg #[.pointer (some ⟨4, 80, none⟩), .pointer (some a), .int .u64 150])).run Tryd.prog w = .ok (some (80, a, 150)) w := by kernel_rfl
theorem fa_isNil (a p : Addr) (W : World) (ha : W.cell? a = some (.pointer (some p))) :
    (ReflectliteValue.method (ReflectliteValue.valueError "reflectlite.Value.IsNil" 0) ReflectliteValue.isNil #[.agg #[.pointer (some ⟨4, 80, none⟩), .pointer (some a), .int .u64 150]]).run Tryd.prog W = .ok (.bool false) W := by
  rw [fa_rlm]
  simp only [Sem.run_bind, fa_partsPP, Result.andThen]
  simp [ReflectliteValue.isNil, loadVar, isAgg, underlying, Tryd.underlying80, ha, Result.andThen]
theorem fa_mElem (h : Value) (w : World) : (Go.method 164 102 (.agg #[h]) "Elem").run Tryd.prog w = .ok (84, .agg #[h]) w := by kernel_rfl
theorem fa_mImpl (h : Value) (w : World) : (Go.method 164 102 (.agg #[h]) "Implements").run Tryd.prog w = .ok (85, .agg #[h]) w := by kernel_rfl
theorem fa_mAssign (h : Value) (w : World) : (Go.method 164 102 (.agg #[h]) "AssignableTo").run Tryd.prog w = .ok (82, .agg #[h]) w := by kernel_rfl
theorem fa_elem (w : World) : (ReflectliteType.method ReflectliteType.elem #[.agg #[.pointer (some ⟨4, 80, none⟩)]]).run Tryd.prog w = .ok (.iface 102 (.agg #[.pointer (some ⟨4, 47, none⟩)])) w := by kernel_rfl
theorem fa_impl (w : World) : (ReflectliteType.relation "Implements" ReflectliteType.implements_ #[.agg #[.pointer (some ⟨4, 47, none⟩)], .iface 102 (.agg #[.pointer (some ⟨4, 34, none⟩)])]).run Tryd.prog w = .ok (.bool true) w := by kernel_rfl
theorem fa_typeP (v : Value) (w : World) : (ReflectliteType.typeOf #[.iface 47 v]).run Tryd.prog w = .ok (.iface 102 (.agg #[.pointer (some ⟨4, 47, none⟩)])) w := by kernel_rfl
theorem fa_typeW (v : Value) (w : World) : (ReflectliteType.typeOf #[.iface 51 v]).run Tryd.prog w = .ok (.iface 102 (.agg #[.pointer (some ⟨4, 51, none⟩)])) w := by kernel_rfl
theorem fa_typeE (v : Value) (w : World) : (ReflectliteType.typeOf #[.iface 37 v]).run Tryd.prog w = .ok (.iface 102 (.agg #[.pointer (some ⟨4, 37, none⟩)])) w := by kernel_rfl
theorem fa_assP (w : World) : (ReflectliteType.relation "AssignableTo" ReflectliteType.assignableTo #[.agg #[.pointer (some ⟨4, 47, none⟩)], .iface 102 (.agg #[.pointer (some ⟨4, 47, none⟩)])]).run Tryd.prog w = .ok (.bool true) w := by kernel_rfl
theorem fa_assW (w : World) : (ReflectliteType.relation "AssignableTo" ReflectliteType.assignableTo #[.agg #[.pointer (some ⟨4, 51, none⟩)], .iface 102 (.agg #[.pointer (some ⟨4, 47, none⟩)])]).run Tryd.prog w = .ok (.bool false) w := by kernel_rfl
theorem fa_assE (w : World) : (ReflectliteType.relation "AssignableTo" ReflectliteType.assignableTo #[.agg #[.pointer (some ⟨4, 37, none⟩)], .iface 102 (.agg #[.pointer (some ⟨4, 47, none⟩)])]).run Tryd.prog w = .ok (.bool false) w := by kernel_rfl
theorem fa_valueP (e : Addr) (w : World) : (ReflectliteValue.unpack (.iface 47 (.pointer (some e)))).run Tryd.prog w
    = .ok (.agg #[.pointer (some ⟨4, 47, none⟩), .pointer (some ⟨w.heap.size, 0, none⟩), .int .u64 150]) (w.alloc (.cells #[.pointer (some e)] 47)) := by kernel_rfl
theorem fa_elemOf (w : World) : (Rtype.elem? 80).run Tryd.prog w = .ok (some 47) w := by kernel_rfl
theorem fa_mk (p : Addr) (w : World) : (ReflectliteValue.mk 47 p ReflectliteValue.flagAddr).run Tryd.prog w = .ok (.agg #[.pointer (some ⟨4, 47, none⟩), .pointer (some p), .int .u64 406]) w := by kernel_rfl
theorem fa_elemV (a p : Addr) (W : World) (ha : W.cell? a = some (.pointer (some p))) :
    (ReflectliteValue.method (ReflectliteValue.valueError "reflectlite.Value.Elem" 0) ReflectliteValue.elem #[.agg #[.pointer (some ⟨4, 80, none⟩), .pointer (some a), .int .u64 150]]).run Tryd.prog W
      = .ok (.agg #[.pointer (some ⟨4, 47, none⟩), .pointer (some p), .int .u64 406]) W := by
  rw [fa_rlm]
  simp only [Sem.run_bind, fa_partsPP, Result.andThen]
  simp [ReflectliteValue.elem, loadVar, isAgg, underlying, Tryd.underlying80, ha, Result.andThen, fa_elemOf, fa_mk]
theorem fa_rls (v x : Value) : ReflectliteValue.set #[v, x] = (do
    let (some (dst, a, fl), some (src, b, _)) := (← ReflectliteValue.parts v, ← ReflectliteValue.parts x)
      | unsupported (.noEntry "extern/(internal/reflectlite.Value).Set.zeroValue")
    if fl / ReflectliteValue.flagAddr % 2 == 0 then unsupported (.noEntry "extern/(internal/reflectlite.Value).Set.unaddressable")
    let val ← loadVar src b
    if ← Rtype.directlyAssignable dst src then storeVar dst a val
    else if ← Rtype.implements dst src then
      if (← Rtype.kind src) == 20 then
        match val with
        | .nilIface => unsupported (.noEntry "extern/reflectlite: a nil value of one interface type handed on as a value of another")
        | _ => storeVar dst a val
      else storeVar dst a (.iface src val)
    else panicString ("reflectlite.Set: value of type " ++ (← Rtype.spelt src) ++ " is not assignable to type " ++ (← Rtype.spelt dst))
    pure (.tuple #[])) := rfl
theorem fa_partsPa (a : Addr) (w : World) : (ReflectliteValue.parts (.agg #[.pointer (some ⟨4, 47, none⟩), .pointer (some a), .int .u64 406])).run Tryd.prog w = .ok (some (47, a, 406)) w := by kernel_rfl
theorem fa_partsP (a : Addr) (w : World) : (ReflectliteValue.parts (.agg #[.pointer (some ⟨4, 47, none⟩), .pointer (some a), .int .u64 150])).run Tryd.prog w = .ok (some (47, a, 150)) w := by kernel_rfl
theorem fa_direct (w : World) : (Rtype.directlyAssignable 47 47).run Tryd.prog w = .ok true w := by kernel_rfl
theorem fa_set (ta b e : Addr) (old : Value) (W : World) (hb : W.cell? b = some (.pointer (some e))) (ht : W.cell? ta = some old) (hf : W.frozen? ta = false) :
    (ReflectliteValue.set #[.agg #[.pointer (some ⟨4, 47, none⟩), .pointer (some ta), .int .u64 406], .agg #[.pointer (some ⟨4, 47, none⟩), .pointer (some b), .int .u64 150]]).run Tryd.prog W
      = .ok (.tuple #[]) (W.setCell ta (.pointer (some e))) := by
  rw [fa_rls]
  simp only [Sem.run_bind, fa_partsPa, fa_partsP, Result.andThen]
  simp [ReflectliteValue.flagAddr, loadVar, isAgg, underlying, Tryd.underlying47, hb, Result.andThen, fa_direct, storeVar, Value.cells, storeCells, Addr.add]
  rw [run_store Tryd.prog W ta _ _ (by rfl)]
  simp [ht, hf]
/-! the type asserts of errors.as, and Unwrap -/
theorem fa_asW (v : Value) (W : World) : (Instr.typeAssert (.iface 51 v) 34 107 true).run Tryd.prog W = .ok (.tuple #[.nilIface, .bool false]) W := run_typeAssert_lacksB Tryd.underlying107 (by kernel_rfl) (by kernel_rfl) v _ W
theorem fa_asE (v : Value) (W : World) : (Instr.typeAssert (.iface 37 v) 34 107 true).run Tryd.prog W = .ok (.tuple #[.nilIface, .bool false]) W := run_typeAssert_lacksB Tryd.underlying107 (by kernel_rfl) (by kernel_rfl) v _ W
theorem fa_unW (v : Value) (W : World) : (Instr.typeAssert (.iface 51 v) 34 110 true).run Tryd.prog W = .ok (.tuple #[.iface 51 v, .bool true]) W := by kernel_rfl
theorem fa_unE (v : Value) (W : World) : (Instr.typeAssert (.iface 37 v) 34 110 true).run Tryd.prog W = .ok (.tuple #[.nilIface, .bool false]) W := run_typeAssert_lacksB Tryd.underlying110 (by kernel_rfl) (by kernel_rfl) v _ W
theorem fa_usE (v : Value) (W : World) : (Instr.typeAssert (.iface 37 v) 34 112 true).run Tryd.prog W = .ok (.tuple #[.nilIface, .bool false]) W := run_typeAssert_lacksB Tryd.underlying112 (by kernel_rfl) (by kernel_rfl) v _ W
theorem fa_mUnwrap (v : Value) (W : World) : (Go.method 164 51 (.agg #[v]) "Unwrap").run Tryd.prog W = .ok (75, .agg #[v]) W := by kernel_rfl
theorem fa_fW (v : Value) (W : World) : (Instr.typeAssert (.iface 51 v) 34 47 true).run Tryd.prog W = .ok (.tuple #[.pointer none, .bool false]) W := by kernel_rfl
theorem fa_fE (v : Value) (W : World) : (Instr.typeAssert (.iface 37 v) 34 47 true).run Tryd.prog W = .ok (.tuple #[.pointer none, .bool false]) W := by kernel_rfl
end Go.Proofs.YtcnbgcoklbmdaaaDoor
