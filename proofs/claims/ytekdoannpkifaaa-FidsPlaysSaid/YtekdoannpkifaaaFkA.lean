/- The numbers by which the shelf's contract of Collect finds the bodies of this program, and maps' keys as an iterator. -/
import Derived.Test.YtekdoannpkifaaaMr1
import Derived.Shelf.SlIterI.Collect
import Derived.OwnWalkIn
import Derived.TacticsInMore
import Derived.LoopNIn
import Derived.LoopIn
namespace Go.Proofs.Ytekdoannpkifaaa
open Go.ChangeShapes Go.WideShapes Go.ChangeAt Go.RowKit
open Go.Shelf

def colRen : Ren := ⟨fun | 8 => 28 | 11 => 31 | n => n, fun | 0 => 0 | 24 => 23 | 26 => 3 | 28 => 66 | 33 => 34 | n => n, fun n => n⟩
theorem colLay : SlLaysZI.n8 Try.prog colRen := {
  mixed := by kernel_rfl
  f8 := ⟨Try.f28.name, by decide, Try.func28.trans (congrArg some (by kernel_rfl))⟩
  f11 := ⟨Try.f31.name, by decide, Try.func31.trans (congrArg some (by kernel_rfl))⟩
  t0 := Try.underlying0
  a0 := Try.isAgg0
  z0 := Try.sizeOf0
  v0 := Try.zeroValue0
  t24 := Try.underlying23
  a24 := Try.isAgg23
  z24 := Try.sizeOf23
  v24 := Try.zeroValue23
  t26 := Try.underlying3
  a26 := Try.isAgg3
  z26 := Try.sizeOf3
  v26 := Try.zeroValue3
  t28 := Try.underlying66
  a28 := Try.isAgg66
  z28 := Try.sizeOf66
  v28 := Try.zeroValue66
  i26 := by kernel_rfl }
end Go.Proofs.Ytekdoannpkifaaa
