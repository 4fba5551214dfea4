/-
  No cell of these rows narrows 'for every input' (looked for: loops, veiled, ifaces, maps, wideKeys, modest, calm, conditions, laid).
  DERIVED. THE GIVEN ROWS OF THIS SEAT. 5 by the template 'for every input the law returns true; each argument reads behind the call as it read before'; 0 by the template 'total and deterministic' (their statements: YtmdacpkkglhefaaTotals.lean).
  GIVEN WITH THE SEED: the statements are not yours to turn. If you find one false, say at which input.
  Laid BY PROGRAM, IN A SANDBOX (cutbox-rows.mjs): the forced cells as the released guide's own fill.sh prints them over the translation 28796d97815c107f… (all of the seat's roots in one cut). By AI agents, Wed Nov 11 2026. No macro, syntax, notation, axiom, sorry.
-/
import Derived.Test.YtmdacpkkglhefaaChecked
import GoSem.Claim
import GoSem.ClaimJoined
import GoSem.ClaimMapViews
import Derived.JoinedTies
import Derived.KernelRfl
namespace Go.Proofs.Ytmdacpkkglhefaa
/- THE CELL 'sum', in the pinned program and in every row, IS THE sha256 OF THE DUMP (.gsa) THAT YtmdacpkkglhefaaProg.lean LOADS. Nothing in Lean hashes anything: it is a label: what it is worth is what the hold of that sum in a sandbox is worth. -/
noncomputable def Try.pinned : Pinned := { name := "ytmdacpkkglhefaa", sum := "28796d97815c107f7b7898b720f5b49aa35430c4a030ac064f2c2679f76a766e", checked := Try.checked }
namespace Rows
def none {H : Type} : Left H := { results := [], args := [] }

/-- 'truchmanlaw10.InodeNews': WHATEVER THE INPUT: true; the input reads as it did. -/
def inodeNewsSpec : ChangeSpec := { name := "inodeNews", fn := fun _ => fun
  | [d] => { results := [.lit (.bool true)], args := [d] }
  | _ => none }
def inodeNewsRow : OpenClaim := { program := "ytmdacpkkglhefaa", sum := "28796d97815c107f7b7898b720f5b49aa35430c4a030ac064f2c2679f76a766e", func := "truchman/truchmanlaw10.InodeNews", spec := "inodeNews", unfollowed := true, recurses := true, apart := false }
def InodeNewsSaid : Prop := inodeNewsRow.holds Try.pinned (OpenSpec.ofChange inodeNewsSpec)

/-- ITS FALSE NEIGHBOUR: 'it returns false'. Refute it at one input. -/
def inodeNewsWrong : ChangeSpec := { name := "inodeNews", fn := fun _ => fun
  | [d] => { results := [.lit (.bool false)], args := [d] }
  | _ => none }
def InodeNewsWrongFalsely : Prop := inodeNewsRow.holds Try.pinned (OpenSpec.ofChange inodeNewsWrong)

/-- 'truchmanlaw10.InodeStale': WHATEVER THE INPUT: true; the input reads as it did. -/
def inodeStaleSpec : ChangeSpec := { name := "inodeStale", fn := fun _ => fun
  | [d1, d2, d3] => { results := [.lit (.bool true)], args := [d1, d2, d3] }
  | _ => none }
def inodeStaleRow : OpenClaim := { program := "ytmdacpkkglhefaa", sum := "28796d97815c107f7b7898b720f5b49aa35430c4a030ac064f2c2679f76a766e", func := "truchman/truchmanlaw10.InodeStale", spec := "inodeStale", unfollowed := true, recurses := true, apart := false }
def InodeStaleSaid : Prop := inodeStaleRow.holds Try.pinned (OpenSpec.ofChange inodeStaleSpec)

/-- ITS FALSE NEIGHBOUR: 'it returns false'. Refute it at one input. -/
def inodeStaleWrong : ChangeSpec := { name := "inodeStale", fn := fun _ => fun
  | [d1, d2, d3] => { results := [.lit (.bool false)], args := [d1, d2, d3] }
  | _ => none }
def InodeStaleWrongFalsely : Prop := inodeStaleRow.holds Try.pinned (OpenSpec.ofChange inodeStaleWrong)

/-- 'truchmanlaw10.InodeOther': WHATEVER THE INPUT: true; the input reads as it did. -/
def inodeOtherSpec : ChangeSpec := { name := "inodeOther", fn := fun _ => fun
  | [d1, d2, d3] => { results := [.lit (.bool true)], args := [d1, d2, d3] }
  | _ => none }
def inodeOtherRow : OpenClaim := { program := "ytmdacpkkglhefaa", sum := "28796d97815c107f7b7898b720f5b49aa35430c4a030ac064f2c2679f76a766e", func := "truchman/truchmanlaw10.InodeOther", spec := "inodeOther", unfollowed := true, recurses := true, apart := false }
def InodeOtherSaid : Prop := inodeOtherRow.holds Try.pinned (OpenSpec.ofChange inodeOtherSpec)

/-- ITS FALSE NEIGHBOUR: 'it returns false'. Refute it at one input. -/
def inodeOtherWrong : ChangeSpec := { name := "inodeOther", fn := fun _ => fun
  | [d1, d2, d3] => { results := [.lit (.bool false)], args := [d1, d2, d3] }
  | _ => none }
def InodeOtherWrongFalsely : Prop := inodeOtherRow.holds Try.pinned (OpenSpec.ofChange inodeOtherWrong)

/-- 'truchmanlaw10.InodeApart': WHATEVER THE INPUT: true; the input reads as it did. -/
def inodeApartSpec : ChangeSpec := { name := "inodeApart", fn := fun _ => fun
  | [d1, d2, d3, d4] => { results := [.lit (.bool true)], args := [d1, d2, d3, d4] }
  | _ => none }
def inodeApartRow : OpenClaim := { program := "ytmdacpkkglhefaa", sum := "28796d97815c107f7b7898b720f5b49aa35430c4a030ac064f2c2679f76a766e", func := "truchman/truchmanlaw10.InodeApart", spec := "inodeApart", unfollowed := true, recurses := true, apart := false }
def InodeApartSaid : Prop := inodeApartRow.holds Try.pinned (OpenSpec.ofChange inodeApartSpec)

/-- ITS FALSE NEIGHBOUR: 'it returns false'. Refute it at one input. -/
def inodeApartWrong : ChangeSpec := { name := "inodeApart", fn := fun _ => fun
  | [d1, d2, d3, d4] => { results := [.lit (.bool false)], args := [d1, d2, d3, d4] }
  | _ => none }
def InodeApartWrongFalsely : Prop := inodeApartRow.holds Try.pinned (OpenSpec.ofChange inodeApartWrong)

/-- 'truchmanlaw10.InodePlays': WHATEVER THE INPUT: true; the input reads as it did. -/
def inodePlaysSpec : ChangeSpec := { name := "inodePlays", fn := fun _ => fun
  | [d1, d2] => { results := [.lit (.bool true)], args := [d1, d2] }
  | _ => none }
def inodePlaysRow : OpenClaim := { program := "ytmdacpkkglhefaa", sum := "28796d97815c107f7b7898b720f5b49aa35430c4a030ac064f2c2679f76a766e", func := "truchman/truchmanlaw10.InodePlays", spec := "inodePlays", unfollowed := true, recurses := true, apart := false }
def InodePlaysSaid : Prop := inodePlaysRow.holds Try.pinned (OpenSpec.ofChange inodePlaysSpec)

/-- ITS FALSE NEIGHBOUR: 'it returns false'. Refute it at one input. -/
def inodePlaysWrong : ChangeSpec := { name := "inodePlays", fn := fun _ => fun
  | [d1, d2] => { results := [.lit (.bool false)], args := [d1, d2] }
  | _ => none }
def InodePlaysWrongFalsely : Prop := inodePlaysRow.holds Try.pinned (OpenSpec.ofChange inodePlaysWrong)

/- THE SECOND FORM. 'bulk': how many values and letters a reading holds, each counted each time it is reached (what is shared counts as often as it is met; a slice's spare places count too). A statement '..UptoSaid' is the law's where the arguments, and the package variables that the reading takes, are together of bulk at most 1048576: NARROWER than '..Said'. Prove '..Said' where nothing that the law and all that it calls make is longer than what came in: it says more and counts as full. Else prove '..UptoSaid'. A law counts once. -/
mutual
def uptoBulk {H : Type} : DataW H → Nat
  | .lit (.string bytes) => bytes.length + 1
  | .lit _ => 1
  | .nil => 1
  | .ptr d => uptoBulk d + 1
  | .slice elems spare => uptoBulkAll elems + uptoBulkAll spare + 1
  | .agg parts => uptoBulkAll parts + 1
  | .iface _ d => uptoBulk d + 1
  | .map entries => uptoBulkEntries entries + 1
  | .held _ => 1
def uptoBulkAll {H : Type} : List (DataW H) → Nat
  | [] => 0
  | d :: r => uptoBulk d + uptoBulkAll r
def uptoBulkEntries {H : Type} : List (Lit × DataW H) → Nat
  | [] => 0
  | x :: r => uptoBulkEntry x + uptoBulkEntries r
def uptoBulkEntry {H : Type} : Lit × DataW H → Nat
  | (.string bytes, d) => bytes.length + uptoBulk d + 1
  | (_, d) => uptoBulk d + 1
 end
def uptoSmall : (H : Type) → List (DataW H) → Bool := fun _ ds => decide (uptoBulkAll ds ≤ 1048576)
def OpenSpec.upto (s : _root_.Go.ChangeSpec) : _root_.Go.OpenSpec := { _root_.Go.OpenSpec.ofChange s with cond := some uptoSmall }

/-- 'truchmanlaw10.InodeNews', WHERE WHAT IT READS IS OF BULK AT MOST 1048576: true; the input reads as it did. -/
def inodeNewsUptoRow : OpenClaim := { program := "ytmdacpkkglhefaa", sum := "28796d97815c107f7b7898b720f5b49aa35430c4a030ac064f2c2679f76a766e", func := "truchman/truchmanlaw10.InodeNews", spec := "inodeNews", unfollowed := true, recurses := true, apart := false, narrowed := true }
def InodeNewsUptoSaid : Prop := inodeNewsUptoRow.holds Try.pinned (OpenSpec.upto inodeNewsSpec)

/-- 'truchmanlaw10.InodeStale', WHERE WHAT IT READS IS OF BULK AT MOST 1048576: true; the input reads as it did. -/
def inodeStaleUptoRow : OpenClaim := { program := "ytmdacpkkglhefaa", sum := "28796d97815c107f7b7898b720f5b49aa35430c4a030ac064f2c2679f76a766e", func := "truchman/truchmanlaw10.InodeStale", spec := "inodeStale", unfollowed := true, recurses := true, apart := false, narrowed := true }
def InodeStaleUptoSaid : Prop := inodeStaleUptoRow.holds Try.pinned (OpenSpec.upto inodeStaleSpec)

/-- 'truchmanlaw10.InodeOther', WHERE WHAT IT READS IS OF BULK AT MOST 1048576: true; the input reads as it did. -/
def inodeOtherUptoRow : OpenClaim := { program := "ytmdacpkkglhefaa", sum := "28796d97815c107f7b7898b720f5b49aa35430c4a030ac064f2c2679f76a766e", func := "truchman/truchmanlaw10.InodeOther", spec := "inodeOther", unfollowed := true, recurses := true, apart := false, narrowed := true }
def InodeOtherUptoSaid : Prop := inodeOtherUptoRow.holds Try.pinned (OpenSpec.upto inodeOtherSpec)

/-- 'truchmanlaw10.InodeApart', WHERE WHAT IT READS IS OF BULK AT MOST 1048576: true; the input reads as it did. -/
def inodeApartUptoRow : OpenClaim := { program := "ytmdacpkkglhefaa", sum := "28796d97815c107f7b7898b720f5b49aa35430c4a030ac064f2c2679f76a766e", func := "truchman/truchmanlaw10.InodeApart", spec := "inodeApart", unfollowed := true, recurses := true, apart := false, narrowed := true }
def InodeApartUptoSaid : Prop := inodeApartUptoRow.holds Try.pinned (OpenSpec.upto inodeApartSpec)

/-- 'truchmanlaw10.InodePlays', WHERE WHAT IT READS IS OF BULK AT MOST 1048576: true; the input reads as it did. -/
def inodePlaysUptoRow : OpenClaim := { program := "ytmdacpkkglhefaa", sum := "28796d97815c107f7b7898b720f5b49aa35430c4a030ac064f2c2679f76a766e", func := "truchman/truchmanlaw10.InodePlays", spec := "inodePlays", unfollowed := true, recurses := true, apart := false, narrowed := true }
def InodePlaysUptoSaid : Prop := inodePlaysUptoRow.holds Try.pinned (OpenSpec.upto inodePlaysSpec)

end Rows
end Go.Proofs.Ytmdacpkkglhefaa
