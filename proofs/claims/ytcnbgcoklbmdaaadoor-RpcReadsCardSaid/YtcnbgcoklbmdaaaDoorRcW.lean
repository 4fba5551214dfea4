/- A world in which the listed variable reads as the program's text lays it: the witness of the cards. -/
import Derived.Test.YtcnbgcoklbmdaaaDoorRows
import Derived.Test.YtcnbgcoklbmdaaaDoorTie
import Derived.LaidLaws
import Derived.LaidHandle
import Derived.Deep.DeepHandedRow
namespace Go.Proofs.YtcnbgcoklbmdaaaDoor
open Go.ChangeShapes Go.WideShapes

noncomputable def laidWorld (os : Os) : World :=
  { World.holding Tryd.prog os ⟨#[], #[], []⟩ with heap := (World.holding Tryd.prog os ⟨#[], #[], []⟩).heap.modify 0 fun
      | .cells _ t frozen => .cells #[.iface 102 (.agg #[typeHandle Tryd.prog 34])] t frozen
      | o => o }
theorem laid_ok (os : Os) (args : Array Value) : laidMetH Tryd.prog Rows.rpcCutsRow.laid ((laidWorld os).forCall (fun _ _ => 0) ⟨#[], args, []⟩).memory :=
  laidMetH_of_parts (laidMet_nil _ _) (by kernel_rfl)
end Go.Proofs.YtcnbgcoklbmdaaaDoor
