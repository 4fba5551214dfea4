/- A world in which the four listed variables read as the program's text lays them; and what the card's condition gives the walk. -/
import Derived.Test.YtcnbgcoklbmdaaaDoorFaI
import Derived.Test.YtcnbgcoklbmdaaaDoorTie
import Derived.LaidLaws
import Derived.LaidHandle
import Derived.Lib.LaidTab
import Derived.Stop.LaidErr
import Derived.Deep.DeepHandedRow
namespace Go.Proofs.YtcnbgcoklbmdaaaDoor
open Go.ChangeShapes Go.WideShapes Go.ChangeAt Go.RowKit

def valsOf : DataW Unit → Array Value
  | .agg l => (l.map fun d => match d with | .lit (.int k n) => Value.int k n | _ => undef).toArray
  | _ => #[]
def setVar (cs : Array Value) : Obj → Obj
  | .cells _ t frozen => .cells cs t frozen
  | o => o
noncomputable def laidFour (os : Os) : World :=
  { World.holding Tryd.prog os ⟨#[], #[], []⟩ with heap := ((((World.holding Tryd.prog os ⟨#[], #[], []⟩).heap.modify 0 (setVar #[.iface 102 (.agg #[typeHandle Tryd.prog 34])])).modify 1 (setVar (valsOf Rows.laid_internal_strconv_uint64pow10))).modify 2 (setVar (valsOf Rows.laid_math_bits_deBruijn32tab))).modify 3 (setVar (valsOf Rows.laid_math_bits_deBruijn64tab)) }
set_option maxRecDepth 100000 in
theorem four_ok (os : Os) (args : Array Value) : laidMetH Tryd.prog Rows.rpcFaultsRow.laid ((laidFour os).forCall (fun _ _ => 0) ⟨#[], args, []⟩).memory :=
  laidMetH_of_parts (laidMet_of_run' 8 (by kernel_rfl) (by kernel_rfl)) (by kernel_rfl)

theorem fa_et : Tryd.prog.globalNamed "errors.errorType" = some 0 := by kernel_rfl
theorem fa_oneRow : ((List.range 156).filter fun t => Tryd.prog.rowNamed t [101, 114, 114, 111, 114]) = [34] := by kernel_rfl
theorem fa_size : Tryd.prog.types.size = 156 := by kernel_rfl
theorem pow_laid : Rows.laid_internal_strconv_uint64pow10 = (Lib.tabData .u64 Lib.pow10Tab : DataW Unit) := by kernel_rfl
/-- What the card's condition gives the walk. -/
theorem four_gives {W : World} (h : laidMetH Tryd.prog Rows.rpcFaultsRow.laid W) : ErrT W ∧ Tab W := by
  have h' : laidMet Tryd.prog [(Rows.rpcFaultsRow.named.getD 2 "", Rows.laid_math_bits_deBruijn32tab), (Rows.rpcFaultsRow.named.getD 3 "", Rows.laid_math_bits_deBruijn64tab), (tabName, Rows.laid_internal_strconv_uint64pow10)] W ∧ handlesMet Tryd.prog [("errors.errorType", Rows.laid_errors_errorType)] W := h
  constructor
  · obtain ⟨name, u, ty, e1, e2, e3, e4, e5⟩ := h'.2 _ (List.mem_singleton.2 rfl)
    have en : name = [101, 114, 114, 111, 114] := (Option.some.inj e1).symm
    subst en
    obtain rfl : u = 102 := Option.some.inj (e2.symm.trans (by kernel_rfl))
    have hm : ty ∈ (List.range 156).filter fun t => Tryd.prog.rowNamed t [101, 114, 114, 111, 114] := List.mem_filter.2 ⟨List.mem_range.2 (by rw [← fa_size]; exact e3), e4⟩
    rw [fa_oneRow] at hm
    obtain rfl := List.mem_singleton.1 hm
    have hh : typeHandle Tryd.prog 34 = .pointer (some ⟨4, 34, none⟩) := by kernel_rfl
    rw [hh] at e5
    have := World.var?_cell fa_et e5 0
    unfold ErrT
    simpa using this
  · have h3 := h'.1.tail.tail
    rw [pow_laid] at h3
    exact Lib.tabIs_of_head (g := 1) (t := 122) (e := 82) (n := 20) (by kernel_rfl) (by kernel_rfl) Tryd.underlying122 Tryd.underlying82 (by kernel_rfl) (by kernel_rfl) h3
end Go.Proofs.YtcnbgcoklbmdaaaDoor
