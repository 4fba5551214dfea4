/-
  No cell of these rows narrows 'for every input' (looked for: loops, veiled, ifaces, maps, wideKeys, modest, calm, conditions, laid).
  DERIVED. THE GIVEN ROWS OF THIS SEAT. 6 by the template 'for every input the law returns true; each argument reads behind the call as it read before'; 0 by the template 'total and deterministic' (their statements: YtggojigbflbloaaTotals.lean).
  GIVEN WITH THE SEED: the statements are not yours to turn. If you find one false, say at which input.
  Laid BY PROGRAM, IN A SANDBOX (cutbox-rows.mjs): the forced cells as the released guide's own fill.sh prints them over the translation 3d0369f9ca38a5b4… (all of the seat's roots in one cut). By AI agents, Wed Nov 11 2026. No macro, syntax, notation, axiom, sorry.
-/
import Derived.Test.YtggojigbflbloaaChecked
import GoSem.Claim
import GoSem.ClaimJoined
import GoSem.ClaimMapViews
import Derived.JoinedTies
import Derived.KernelRfl
namespace Go.Proofs.Ytggojigbflbloaa
/- THE CELL 'sum', in the pinned program and in every row, IS THE sha256 OF THE DUMP (.gsa) THAT YtggojigbflbloaaProg.lean LOADS. Nothing in Lean hashes anything: it is a label: what it is worth is what the hold of that sum in a sandbox is worth. -/
noncomputable def Try.pinned : Pinned := { name := "ytggojigbflbloaa", sum := "3d0369f9ca38a5b459b9759db9b120580dbe56d2e9bc7a356028afb1bd48d6c4", checked := Try.checked }
namespace Rows
def none {H : Type} : Left H := { results := [], args := [] }

/-- 'truchmanlaw03.MarkSizes': WHATEVER THE INPUT: true; the input reads as it did. -/
def markSizesSpec : ChangeSpec := { name := "markSizes", fn := fun _ => fun
  | [d1, d2] => { results := [.lit (.bool true)], args := [d1, d2] }
  | _ => none }
def markSizesRow : OpenClaim := { program := "ytggojigbflbloaa", sum := "3d0369f9ca38a5b459b9759db9b120580dbe56d2e9bc7a356028afb1bd48d6c4", func := "truchman/truchmanlaw03.MarkSizes", spec := "markSizes", apart := false }
def MarkSizesSaid : Prop := markSizesRow.holds Try.pinned (OpenSpec.ofChange markSizesSpec)

/-- ITS FALSE NEIGHBOUR: 'it returns false'. Refute it at one input. -/
def markSizesWrong : ChangeSpec := { name := "markSizes", fn := fun _ => fun
  | [d1, d2] => { results := [.lit (.bool false)], args := [d1, d2] }
  | _ => none }
def MarkSizesWrongFalsely : Prop := markSizesRow.holds Try.pinned (OpenSpec.ofChange markSizesWrong)

/-- 'truchmanlaw03.MarkMarks': WHATEVER THE INPUT: true; the input reads as it did. -/
def markMarksSpec : ChangeSpec := { name := "markMarks", fn := fun _ => fun
  | [d1, d2] => { results := [.lit (.bool true)], args := [d1, d2] }
  | _ => none }
def markMarksRow : OpenClaim := { program := "ytggojigbflbloaa", sum := "3d0369f9ca38a5b459b9759db9b120580dbe56d2e9bc7a356028afb1bd48d6c4", func := "truchman/truchmanlaw03.MarkMarks", spec := "markMarks", apart := false }
def MarkMarksSaid : Prop := markMarksRow.holds Try.pinned (OpenSpec.ofChange markMarksSpec)

/-- ITS FALSE NEIGHBOUR: 'it returns false'. Refute it at one input. -/
def markMarksWrong : ChangeSpec := { name := "markMarks", fn := fun _ => fun
  | [d1, d2] => { results := [.lit (.bool false)], args := [d1, d2] }
  | _ => none }
def MarkMarksWrongFalsely : Prop := markMarksRow.holds Try.pinned (OpenSpec.ofChange markMarksWrong)

/-- 'truchmanlaw03.MarkBounds': WHATEVER THE INPUT: true; the input reads as it did. -/
def markBoundsSpec : ChangeSpec := { name := "markBounds", fn := fun _ => fun
  | [d1, d2] => { results := [.lit (.bool true)], args := [d1, d2] }
  | _ => none }
def markBoundsRow : OpenClaim := { program := "ytggojigbflbloaa", sum := "3d0369f9ca38a5b459b9759db9b120580dbe56d2e9bc7a356028afb1bd48d6c4", func := "truchman/truchmanlaw03.MarkBounds", spec := "markBounds", apart := false }
def MarkBoundsSaid : Prop := markBoundsRow.holds Try.pinned (OpenSpec.ofChange markBoundsSpec)

/-- ITS FALSE NEIGHBOUR: 'it returns false'. Refute it at one input. -/
def markBoundsWrong : ChangeSpec := { name := "markBounds", fn := fun _ => fun
  | [d1, d2] => { results := [.lit (.bool false)], args := [d1, d2] }
  | _ => none }
def MarkBoundsWrongFalsely : Prop := markBoundsRow.holds Try.pinned (OpenSpec.ofChange markBoundsWrong)

/-- 'truchmanlaw03.MarkAll': WHATEVER THE INPUT: true; the input reads as it did. -/
def markAllSpec : ChangeSpec := { name := "markAll", fn := fun _ => fun
  | [d1, d2] => { results := [.lit (.bool true)], args := [d1, d2] }
  | _ => none }
def markAllRow : OpenClaim := { program := "ytggojigbflbloaa", sum := "3d0369f9ca38a5b459b9759db9b120580dbe56d2e9bc7a356028afb1bd48d6c4", func := "truchman/truchmanlaw03.MarkAll", spec := "markAll", apart := false }
def MarkAllSaid : Prop := markAllRow.holds Try.pinned (OpenSpec.ofChange markAllSpec)

/-- ITS FALSE NEIGHBOUR: 'it returns false'. Refute it at one input. -/
def markAllWrong : ChangeSpec := { name := "markAll", fn := fun _ => fun
  | [d1, d2] => { results := [.lit (.bool false)], args := [d1, d2] }
  | _ => none }
def MarkAllWrongFalsely : Prop := markAllRow.holds Try.pinned (OpenSpec.ofChange markAllWrong)

/-- 'truchmanlaw03.MarkJoins': WHATEVER THE INPUT: true; the input reads as it did. -/
def markJoinsSpec : ChangeSpec := { name := "markJoins", fn := fun _ => fun
  | [d1, d2] => { results := [.lit (.bool true)], args := [d1, d2] }
  | _ => none }
def markJoinsRow : OpenClaim := { program := "ytggojigbflbloaa", sum := "3d0369f9ca38a5b459b9759db9b120580dbe56d2e9bc7a356028afb1bd48d6c4", func := "truchman/truchmanlaw03.MarkJoins", spec := "markJoins", apart := false }
def MarkJoinsSaid : Prop := markJoinsRow.holds Try.pinned (OpenSpec.ofChange markJoinsSpec)

/-- ITS FALSE NEIGHBOUR: 'it returns false'. Refute it at one input. -/
def markJoinsWrong : ChangeSpec := { name := "markJoins", fn := fun _ => fun
  | [d1, d2] => { results := [.lit (.bool false)], args := [d1, d2] }
  | _ => none }
def MarkJoinsWrongFalsely : Prop := markJoinsRow.holds Try.pinned (OpenSpec.ofChange markJoinsWrong)

/-- 'truchmanlaw03.MarkHas': WHATEVER THE INPUT: true; the input reads as it did. -/
def markHasSpec : ChangeSpec := { name := "markHas", fn := fun _ => fun
  | [d1, d2] => { results := [.lit (.bool true)], args := [d1, d2] }
  | _ => none }
def markHasRow : OpenClaim := { program := "ytggojigbflbloaa", sum := "3d0369f9ca38a5b459b9759db9b120580dbe56d2e9bc7a356028afb1bd48d6c4", func := "truchman/truchmanlaw03.MarkHas", spec := "markHas", apart := false }
def MarkHasSaid : Prop := markHasRow.holds Try.pinned (OpenSpec.ofChange markHasSpec)

/-- ITS FALSE NEIGHBOUR: 'it returns false'. Refute it at one input. -/
def markHasWrong : ChangeSpec := { name := "markHas", fn := fun _ => fun
  | [d1, d2] => { results := [.lit (.bool false)], args := [d1, d2] }
  | _ => none }
def MarkHasWrongFalsely : Prop := markHasRow.holds Try.pinned (OpenSpec.ofChange markHasWrong)

/- THE SECOND FORM. 'bulk': how many values and letters a reading holds, each counted each time it is reached (what is shared counts as often as it is met; a slice's spare places count too). A statement '..UptoSaid' is the law's where the arguments, and the package variables that the reading takes, are together of bulk at most 1048576: NARROWER than '..Said'. Prove '..Said' where nothing that the law and all that it calls make is longer than what came in: it says more and counts as full. Else prove '..UptoSaid'. A law counts once. -/
mutual
def uptoBulk {H : Type} : DataW H → Nat
  | .lit (.string bytes) => bytes.length + 1
  | .lit _ => 1
  | .nil => 1
  | .ptr d => uptoBulk d + 1
  | .slice elems spare => uptoBulkAll elems + uptoBulkAll spare + 1
  | .agg parts => uptoBulkAll parts + 1
  | .iface _ d => uptoBulk d + 1
  | .map entries => uptoBulkEntries entries + 1
  | .held _ => 1
def uptoBulkAll {H : Type} : List (DataW H) → Nat
  | [] => 0
  | d :: r => uptoBulk d + uptoBulkAll r
def uptoBulkEntries {H : Type} : List (Lit × DataW H) → Nat
  | [] => 0
  | x :: r => uptoBulkEntry x + uptoBulkEntries r
def uptoBulkEntry {H : Type} : Lit × DataW H → Nat
  | (.string bytes, d) => bytes.length + uptoBulk d + 1
  | (_, d) => uptoBulk d + 1
 end
def uptoSmall : (H : Type) → List (DataW H) → Bool := fun _ ds => decide (uptoBulkAll ds ≤ 1048576)
def OpenSpec.upto (s : _root_.Go.ChangeSpec) : _root_.Go.OpenSpec := { _root_.Go.OpenSpec.ofChange s with cond := some uptoSmall }

/-- 'truchmanlaw03.MarkSizes', WHERE WHAT IT READS IS OF BULK AT MOST 1048576: true; the input reads as it did. -/
def markSizesUptoRow : OpenClaim := { program := "ytggojigbflbloaa", sum := "3d0369f9ca38a5b459b9759db9b120580dbe56d2e9bc7a356028afb1bd48d6c4", func := "truchman/truchmanlaw03.MarkSizes", spec := "markSizes", apart := false, narrowed := true }
def MarkSizesUptoSaid : Prop := markSizesUptoRow.holds Try.pinned (OpenSpec.upto markSizesSpec)

/-- 'truchmanlaw03.MarkMarks', WHERE WHAT IT READS IS OF BULK AT MOST 1048576: true; the input reads as it did. -/
def markMarksUptoRow : OpenClaim := { program := "ytggojigbflbloaa", sum := "3d0369f9ca38a5b459b9759db9b120580dbe56d2e9bc7a356028afb1bd48d6c4", func := "truchman/truchmanlaw03.MarkMarks", spec := "markMarks", apart := false, narrowed := true }
def MarkMarksUptoSaid : Prop := markMarksUptoRow.holds Try.pinned (OpenSpec.upto markMarksSpec)

/-- 'truchmanlaw03.MarkBounds', WHERE WHAT IT READS IS OF BULK AT MOST 1048576: true; the input reads as it did. -/
def markBoundsUptoRow : OpenClaim := { program := "ytggojigbflbloaa", sum := "3d0369f9ca38a5b459b9759db9b120580dbe56d2e9bc7a356028afb1bd48d6c4", func := "truchman/truchmanlaw03.MarkBounds", spec := "markBounds", apart := false, narrowed := true }
def MarkBoundsUptoSaid : Prop := markBoundsUptoRow.holds Try.pinned (OpenSpec.upto markBoundsSpec)

/-- 'truchmanlaw03.MarkAll', WHERE WHAT IT READS IS OF BULK AT MOST 1048576: true; the input reads as it did. -/
def markAllUptoRow : OpenClaim := { program := "ytggojigbflbloaa", sum := "3d0369f9ca38a5b459b9759db9b120580dbe56d2e9bc7a356028afb1bd48d6c4", func := "truchman/truchmanlaw03.MarkAll", spec := "markAll", apart := false, narrowed := true }
def MarkAllUptoSaid : Prop := markAllUptoRow.holds Try.pinned (OpenSpec.upto markAllSpec)

/-- 'truchmanlaw03.MarkJoins', WHERE WHAT IT READS IS OF BULK AT MOST 1048576: true; the input reads as it did. -/
def markJoinsUptoRow : OpenClaim := { program := "ytggojigbflbloaa", sum := "3d0369f9ca38a5b459b9759db9b120580dbe56d2e9bc7a356028afb1bd48d6c4", func := "truchman/truchmanlaw03.MarkJoins", spec := "markJoins", apart := false, narrowed := true }
def MarkJoinsUptoSaid : Prop := markJoinsUptoRow.holds Try.pinned (OpenSpec.upto markJoinsSpec)

/-- 'truchmanlaw03.MarkHas', WHERE WHAT IT READS IS OF BULK AT MOST 1048576: true; the input reads as it did. -/
def markHasUptoRow : OpenClaim := { program := "ytggojigbflbloaa", sum := "3d0369f9ca38a5b459b9759db9b120580dbe56d2e9bc7a356028afb1bd48d6c4", func := "truchman/truchmanlaw03.MarkHas", spec := "markHas", apart := false, narrowed := true }
def MarkHasUptoSaid : Prop := markHasUptoRow.holds Try.pinned (OpenSpec.upto markHasSpec)

end Rows
end Go.Proofs.Ytggojigbflbloaa
