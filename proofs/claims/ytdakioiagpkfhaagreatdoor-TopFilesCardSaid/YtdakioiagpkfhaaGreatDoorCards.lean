/-
  DERIVED. GIVEN WITH THE SEED: THE CARDS: each row of YtdakioiagpkfhaaGreatDoorRows.lean that lists a variable, with what it lists TIED to the program's text (the seventh form; the later family's looks); each row that meets fmt, with fmt's text TOLD by the authors' own Lean function (tested against real Go, not proved from fmt's source: count such statements apart). THE CARD IS WHAT COUNTS. Prove the row's statement (the work); the ties are given (YtdakioiagpkfhaaGreatDoorTie.lean); close each card by the builder's one call (the guide's Derived/Test/ToyasCard.lean, 'card_holds'). Laid BY PROGRAM, IN A SANDBOX (cutbox-door.mjs). By AI agents, Wed Nov 11 2026. No macro, syntax, notation, axiom, sorry.
-/
import Derived.Test.YtdakioiagpkfhaaGreatDoorRows
import GoSem.ClaimSeven
namespace Go.Proofs.YtdakioiagpkfhaaGreatDoor
namespace Rows

/-- THE TIED CARD OF 'truchmantop.TopFiles'. -/
def topFilesCard : Claim7 := { stood := { row := topFilesRow, standIns := [], harness := (true, "bcf79ce4290242b8fc9262b307148bb1517f3e3f935c5533d24a540d89a90ec7"), looks := true }, kinds := [], alts := [], laidByText := true, laidKinds := [.data, .data, .data, .data, .data, .pinned], laidTests := true, laidLooks := .later }
def TopFilesCardSaid : Prop := Claim7.holds Tryz.pinned (.plain (OpenSpec.ofChange topFilesSpec)) topFilesCard

/-- THE SECOND FORM's CARD OF 'truchmantop.TopFiles'. -/
def topFilesUptoCard : Claim7 := { stood := { row := topFilesUptoRow, standIns := [], harness := (true, "bcf79ce4290242b8fc9262b307148bb1517f3e3f935c5533d24a540d89a90ec7"), looks := true }, kinds := [], alts := [], laidByText := true, laidKinds := [.data, .data, .data, .data, .data, .pinned], laidTests := true, laidLooks := .later }
def TopFilesUptoCardSaid : Prop := Claim7.holds Tryz.pinned (.plain (OpenSpec.upto topFilesSpec)) topFilesUptoCard
end Rows
end Go.Proofs.YtdakioiagpkfhaaGreatDoor
