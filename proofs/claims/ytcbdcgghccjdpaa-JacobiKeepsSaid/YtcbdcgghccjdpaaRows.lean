/-
  No cell of these rows narrows 'for every input' (looked for: loops, veiled, ifaces, maps, wideKeys, modest, calm, conditions, laid).
  DERIVED. THE GIVEN ROWS OF THIS SEAT. 5 by the template 'for every input the law returns true; each argument reads behind the call as it read before'; 0 by the template 'total and deterministic' (their statements: YtcbdcgghccjdpaaTotals.lean).
  GIVEN WITH THE SEED: the statements are not yours to turn. If you find one false, say at which input.
  Laid BY PROGRAM, IN A SANDBOX (cutbox-rows.mjs): the forced cells as the released guide's own fill.sh prints them over the translation a0933f5f741f0752… (all of the seat's roots in one cut). By AI agents, Wed Nov 11 2026. No macro, syntax, notation, axiom, sorry.
-/
import Derived.Test.YtcbdcgghccjdpaaChecked
import GoSem.Claim
import GoSem.ClaimJoined
import GoSem.ClaimMapViews
import Derived.JoinedTies
import Derived.KernelRfl
namespace Go.Proofs.Ytcbdcgghccjdpaa
/- THE CELL 'sum', in the pinned program and in every row, IS THE sha256 OF THE DUMP (.gsa) THAT YtcbdcgghccjdpaaProg.lean LOADS. Nothing in Lean hashes anything: it is a label: what it is worth is what the hold of that sum in a sandbox is worth. -/
noncomputable def Try.pinned : Pinned := { name := "ytcbdcgghccjdpaa", sum := "a0933f5f741f075266f09deeb72b87a6c4fc48fbdfec1a0aefe9b65953f76331", checked := Try.checked }
namespace Rows
def none {H : Type} : Left H := { results := [], args := [] }

/-- 'billiardlaw17.JacobiMatchesReference': WHATEVER THE INPUT: true; the input reads as it did. -/
def jacobiMatchesReferenceSpec : ChangeSpec := { name := "jacobiMatchesReference", fn := fun _ => fun
  | [d1, d2] => { results := [.lit (.bool true)], args := [d1, d2] }
  | _ => none }
def jacobiMatchesReferenceRow : OpenClaim := { program := "ytcbdcgghccjdpaa", sum := "a0933f5f741f075266f09deeb72b87a6c4fc48fbdfec1a0aefe9b65953f76331", func := "billiard/billiardlaw17.JacobiMatchesReference", spec := "jacobiMatchesReference", inPlace := ["math/bits.Add64"], unfollowed := true, recurses := true, named := ["math/bits.divideError", "math/bits.overflowError"], apart := false }
def JacobiMatchesReferenceSaid : Prop := jacobiMatchesReferenceRow.holds Try.pinned (OpenSpec.ofChange jacobiMatchesReferenceSpec)

/-- ITS FALSE NEIGHBOUR: 'it returns false'. Refute it at one input. -/
def jacobiMatchesReferenceWrong : ChangeSpec := { name := "jacobiMatchesReference", fn := fun _ => fun
  | [d1, d2] => { results := [.lit (.bool false)], args := [d1, d2] }
  | _ => none }
def JacobiMatchesReferenceWrongFalsely : Prop := jacobiMatchesReferenceRow.holds Try.pinned (OpenSpec.ofChange jacobiMatchesReferenceWrong)

/-- 'billiardlaw17.JacobiOrderFree': WHATEVER THE INPUT: true; the input reads as it did. -/
def jacobiOrderFreeSpec : ChangeSpec := { name := "jacobiOrderFree", fn := fun _ => fun
  | [d1, d2, d3] => { results := [.lit (.bool true)], args := [d1, d2, d3] }
  | _ => none }
def jacobiOrderFreeRow : OpenClaim := { program := "ytcbdcgghccjdpaa", sum := "a0933f5f741f075266f09deeb72b87a6c4fc48fbdfec1a0aefe9b65953f76331", func := "billiard/billiardlaw17.JacobiOrderFree", spec := "jacobiOrderFree", inPlace := ["math/bits.Add64"], unfollowed := true, recurses := true, named := ["math/bits.divideError", "math/bits.overflowError"], apart := false }
def JacobiOrderFreeSaid : Prop := jacobiOrderFreeRow.holds Try.pinned (OpenSpec.ofChange jacobiOrderFreeSpec)

/-- ITS FALSE NEIGHBOUR: 'it returns false'. Refute it at one input. -/
def jacobiOrderFreeWrong : ChangeSpec := { name := "jacobiOrderFree", fn := fun _ => fun
  | [d1, d2, d3] => { results := [.lit (.bool false)], args := [d1, d2, d3] }
  | _ => none }
def JacobiOrderFreeWrongFalsely : Prop := jacobiOrderFreeRow.holds Try.pinned (OpenSpec.ofChange jacobiOrderFreeWrong)

/-- 'billiardlaw17.JacobiVelocities': WHATEVER THE INPUT: true; the input reads as it did. -/
def jacobiVelocitiesSpec : ChangeSpec := { name := "jacobiVelocities", fn := fun _ => fun
  | [d1, d2] => { results := [.lit (.bool true)], args := [d1, d2] }
  | _ => none }
def jacobiVelocitiesRow : OpenClaim := { program := "ytcbdcgghccjdpaa", sum := "a0933f5f741f075266f09deeb72b87a6c4fc48fbdfec1a0aefe9b65953f76331", func := "billiard/billiardlaw17.JacobiVelocities", spec := "jacobiVelocities", inPlace := ["math/bits.Add64"], unfollowed := true, recurses := true, named := ["math/bits.divideError", "math/bits.overflowError"], apart := false }
def JacobiVelocitiesSaid : Prop := jacobiVelocitiesRow.holds Try.pinned (OpenSpec.ofChange jacobiVelocitiesSpec)

/-- ITS FALSE NEIGHBOUR: 'it returns false'. Refute it at one input. -/
def jacobiVelocitiesWrong : ChangeSpec := { name := "jacobiVelocities", fn := fun _ => fun
  | [d1, d2] => { results := [.lit (.bool false)], args := [d1, d2] }
  | _ => none }
def JacobiVelocitiesWrongFalsely : Prop := jacobiVelocitiesRow.holds Try.pinned (OpenSpec.ofChange jacobiVelocitiesWrong)

/-- 'billiardlaw17.JacobiResting': WHATEVER THE INPUT: true; the input reads as it did. -/
def jacobiRestingSpec : ChangeSpec := { name := "jacobiResting", fn := fun _ => fun
  | [d1, d2, d3] => { results := [.lit (.bool true)], args := [d1, d2, d3] }
  | _ => none }
def jacobiRestingRow : OpenClaim := { program := "ytcbdcgghccjdpaa", sum := "a0933f5f741f075266f09deeb72b87a6c4fc48fbdfec1a0aefe9b65953f76331", func := "billiard/billiardlaw17.JacobiResting", spec := "jacobiResting", inPlace := ["math/bits.Add64"], unfollowed := true, recurses := true, named := ["math/bits.divideError", "math/bits.overflowError"], apart := false }
def JacobiRestingSaid : Prop := jacobiRestingRow.holds Try.pinned (OpenSpec.ofChange jacobiRestingSpec)

/-- ITS FALSE NEIGHBOUR: 'it returns false'. Refute it at one input. -/
def jacobiRestingWrong : ChangeSpec := { name := "jacobiResting", fn := fun _ => fun
  | [d1, d2, d3] => { results := [.lit (.bool false)], args := [d1, d2, d3] }
  | _ => none }
def JacobiRestingWrongFalsely : Prop := jacobiRestingRow.holds Try.pinned (OpenSpec.ofChange jacobiRestingWrong)

/-- 'billiardlaw17.JacobiKeeps': WHATEVER THE INPUT: true; the input reads as it did. -/
def jacobiKeepsSpec : ChangeSpec := { name := "jacobiKeeps", fn := fun _ => fun
  | [d1, d2] => { results := [.lit (.bool true)], args := [d1, d2] }
  | _ => none }
def jacobiKeepsRow : OpenClaim := { program := "ytcbdcgghccjdpaa", sum := "a0933f5f741f075266f09deeb72b87a6c4fc48fbdfec1a0aefe9b65953f76331", func := "billiard/billiardlaw17.JacobiKeeps", spec := "jacobiKeeps", inPlace := ["math/bits.Add64"], unfollowed := true, recurses := true, named := ["math/bits.divideError", "math/bits.overflowError"], apart := false }
def JacobiKeepsSaid : Prop := jacobiKeepsRow.holds Try.pinned (OpenSpec.ofChange jacobiKeepsSpec)

/-- ITS FALSE NEIGHBOUR: 'it returns false'. Refute it at one input. -/
def jacobiKeepsWrong : ChangeSpec := { name := "jacobiKeeps", fn := fun _ => fun
  | [d1, d2] => { results := [.lit (.bool false)], args := [d1, d2] }
  | _ => none }
def JacobiKeepsWrongFalsely : Prop := jacobiKeepsRow.holds Try.pinned (OpenSpec.ofChange jacobiKeepsWrong)

/- THE SECOND FORM. 'bulk': how many values and letters a reading holds, each counted each time it is reached (what is shared counts as often as it is met; a slice's spare places count too). A statement '..UptoSaid' is the law's where the arguments, and the package variables that the reading takes, are together of bulk at most 1048576: NARROWER than '..Said'. Prove '..Said' where nothing that the law and all that it calls make is longer than what came in: it says more and counts as full. Else prove '..UptoSaid'. A law counts once. -/
mutual
def uptoBulk {H : Type} : DataW H → Nat
  | .lit (.string bytes) => bytes.length + 1
  | .lit _ => 1
  | .nil => 1
  | .ptr d => uptoBulk d + 1
  | .slice elems spare => uptoBulkAll elems + uptoBulkAll spare + 1
  | .agg parts => uptoBulkAll parts + 1
  | .iface _ d => uptoBulk d + 1
  | .map entries => uptoBulkEntries entries + 1
  | .held _ => 1
def uptoBulkAll {H : Type} : List (DataW H) → Nat
  | [] => 0
  | d :: r => uptoBulk d + uptoBulkAll r
def uptoBulkEntries {H : Type} : List (Lit × DataW H) → Nat
  | [] => 0
  | x :: r => uptoBulkEntry x + uptoBulkEntries r
def uptoBulkEntry {H : Type} : Lit × DataW H → Nat
  | (.string bytes, d) => bytes.length + uptoBulk d + 1
  | (_, d) => uptoBulk d + 1
 end
def uptoSmall : (H : Type) → List (DataW H) → Bool := fun _ ds => decide (uptoBulkAll ds ≤ 1048576)
def OpenSpec.upto (s : _root_.Go.ChangeSpec) : _root_.Go.OpenSpec := { _root_.Go.OpenSpec.ofChange s with cond := some uptoSmall }

/-- 'billiardlaw17.JacobiMatchesReference', WHERE WHAT IT READS IS OF BULK AT MOST 1048576: true; the input reads as it did. -/
def jacobiMatchesReferenceUptoRow : OpenClaim := { program := "ytcbdcgghccjdpaa", sum := "a0933f5f741f075266f09deeb72b87a6c4fc48fbdfec1a0aefe9b65953f76331", func := "billiard/billiardlaw17.JacobiMatchesReference", spec := "jacobiMatchesReference", inPlace := ["math/bits.Add64"], unfollowed := true, recurses := true, named := ["math/bits.divideError", "math/bits.overflowError"], apart := false, narrowed := true }
def JacobiMatchesReferenceUptoSaid : Prop := jacobiMatchesReferenceUptoRow.holds Try.pinned (OpenSpec.upto jacobiMatchesReferenceSpec)

/-- 'billiardlaw17.JacobiOrderFree', WHERE WHAT IT READS IS OF BULK AT MOST 1048576: true; the input reads as it did. -/
def jacobiOrderFreeUptoRow : OpenClaim := { program := "ytcbdcgghccjdpaa", sum := "a0933f5f741f075266f09deeb72b87a6c4fc48fbdfec1a0aefe9b65953f76331", func := "billiard/billiardlaw17.JacobiOrderFree", spec := "jacobiOrderFree", inPlace := ["math/bits.Add64"], unfollowed := true, recurses := true, named := ["math/bits.divideError", "math/bits.overflowError"], apart := false, narrowed := true }
def JacobiOrderFreeUptoSaid : Prop := jacobiOrderFreeUptoRow.holds Try.pinned (OpenSpec.upto jacobiOrderFreeSpec)

/-- 'billiardlaw17.JacobiVelocities', WHERE WHAT IT READS IS OF BULK AT MOST 1048576: true; the input reads as it did. -/
def jacobiVelocitiesUptoRow : OpenClaim := { program := "ytcbdcgghccjdpaa", sum := "a0933f5f741f075266f09deeb72b87a6c4fc48fbdfec1a0aefe9b65953f76331", func := "billiard/billiardlaw17.JacobiVelocities", spec := "jacobiVelocities", inPlace := ["math/bits.Add64"], unfollowed := true, recurses := true, named := ["math/bits.divideError", "math/bits.overflowError"], apart := false, narrowed := true }
def JacobiVelocitiesUptoSaid : Prop := jacobiVelocitiesUptoRow.holds Try.pinned (OpenSpec.upto jacobiVelocitiesSpec)

/-- 'billiardlaw17.JacobiResting', WHERE WHAT IT READS IS OF BULK AT MOST 1048576: true; the input reads as it did. -/
def jacobiRestingUptoRow : OpenClaim := { program := "ytcbdcgghccjdpaa", sum := "a0933f5f741f075266f09deeb72b87a6c4fc48fbdfec1a0aefe9b65953f76331", func := "billiard/billiardlaw17.JacobiResting", spec := "jacobiResting", inPlace := ["math/bits.Add64"], unfollowed := true, recurses := true, named := ["math/bits.divideError", "math/bits.overflowError"], apart := false, narrowed := true }
def JacobiRestingUptoSaid : Prop := jacobiRestingUptoRow.holds Try.pinned (OpenSpec.upto jacobiRestingSpec)

/-- 'billiardlaw17.JacobiKeeps', WHERE WHAT IT READS IS OF BULK AT MOST 1048576: true; the input reads as it did. -/
def jacobiKeepsUptoRow : OpenClaim := { program := "ytcbdcgghccjdpaa", sum := "a0933f5f741f075266f09deeb72b87a6c4fc48fbdfec1a0aefe9b65953f76331", func := "billiard/billiardlaw17.JacobiKeeps", spec := "jacobiKeeps", inPlace := ["math/bits.Add64"], unfollowed := true, recurses := true, named := ["math/bits.divideError", "math/bits.overflowError"], apart := false, narrowed := true }
def JacobiKeepsUptoSaid : Prop := jacobiKeepsUptoRow.holds Try.pinned (OpenSpec.upto jacobiKeepsSpec)

end Rows
end Go.Proofs.Ytcbdcgghccjdpaa
