/-
  No cell of these rows narrows 'for every input' (looked for: loops, veiled, ifaces, maps, wideKeys, modest, calm, conditions, laid).
  DERIVED. THE GIVEN ROWS OF THIS SEAT. 3 by the template 'for every input the law returns true; each argument reads behind the call as it read before'; 0 by the template 'total and deterministic' (their statements: YtplmeknmeobanaaTotals.lean).
  GIVEN WITH THE SEED: the statements are not yours to turn. If you find one false, say at which input.
  Laid BY PROGRAM, IN A SANDBOX (cutbox-rows.mjs): the forced cells as the released guide's own fill.sh prints them over the translation e9df00e543b1cb37… (all of the seat's roots in one cut). By AI agents, Wed Nov 11 2026. No macro, syntax, notation, axiom, sorry.
-/
import Derived.Test.YtplmeknmeobanaaChecked
import GoSem.Claim
import GoSem.ClaimJoined
import GoSem.ClaimMapViews
import Derived.JoinedTies
import Derived.KernelRfl
namespace Go.Proofs.Ytplmeknmeobanaa
/- THE CELL 'sum', in the pinned program and in every row, IS THE sha256 OF THE DUMP (.gsa) THAT YtplmeknmeobanaaProg.lean LOADS. Nothing in Lean hashes anything: it is a label: what it is worth is what the hold of that sum in a sandbox is worth. -/
noncomputable def Try.pinned : Pinned := { name := "ytplmeknmeobanaa", sum := "e9df00e543b1cb37b0641a0a904903e85961f86bf71ae9a8b5475e8b47772ef8", checked := Try.checked }
namespace Rows
def none {H : Type} : Left H := { results := [], args := [] }

/-- 'billiardlaw18.CorrectMatchesReference': WHATEVER THE INPUT: true; the input reads as it did. -/
def correctMatchesReferenceSpec : ChangeSpec := { name := "correctMatchesReference", fn := fun _ => fun
  | [d1, d2] => { results := [.lit (.bool true)], args := [d1, d2] }
  | _ => none }
def correctMatchesReferenceRow : OpenClaim := { program := "ytplmeknmeobanaa", sum := "e9df00e543b1cb37b0641a0a904903e85961f86bf71ae9a8b5475e8b47772ef8", func := "billiard/billiardlaw18.CorrectMatchesReference", spec := "correctMatchesReference", unfollowed := true, recurses := true, named := ["math/bits.divideError", "math/bits.overflowError"], apart := false }
def CorrectMatchesReferenceSaid : Prop := correctMatchesReferenceRow.holds Try.pinned (OpenSpec.ofChange correctMatchesReferenceSpec)

/-- ITS FALSE NEIGHBOUR: 'it returns false'. Refute it at one input. -/
def correctMatchesReferenceWrong : ChangeSpec := { name := "correctMatchesReference", fn := fun _ => fun
  | [d1, d2] => { results := [.lit (.bool false)], args := [d1, d2] }
  | _ => none }
def CorrectMatchesReferenceWrongFalsely : Prop := correctMatchesReferenceRow.holds Try.pinned (OpenSpec.ofChange correctMatchesReferenceWrong)

/-- 'billiardlaw18.CorrectOrderFree': WHATEVER THE INPUT: true; the input reads as it did. -/
def correctOrderFreeSpec : ChangeSpec := { name := "correctOrderFree", fn := fun _ => fun
  | [d1, d2, d3] => { results := [.lit (.bool true)], args := [d1, d2, d3] }
  | _ => none }
def correctOrderFreeRow : OpenClaim := { program := "ytplmeknmeobanaa", sum := "e9df00e543b1cb37b0641a0a904903e85961f86bf71ae9a8b5475e8b47772ef8", func := "billiard/billiardlaw18.CorrectOrderFree", spec := "correctOrderFree", unfollowed := true, recurses := true, named := ["math/bits.divideError", "math/bits.overflowError"], apart := false }
def CorrectOrderFreeSaid : Prop := correctOrderFreeRow.holds Try.pinned (OpenSpec.ofChange correctOrderFreeSpec)

/-- ITS FALSE NEIGHBOUR: 'it returns false'. Refute it at one input. -/
def correctOrderFreeWrong : ChangeSpec := { name := "correctOrderFree", fn := fun _ => fun
  | [d1, d2, d3] => { results := [.lit (.bool false)], args := [d1, d2, d3] }
  | _ => none }
def CorrectOrderFreeWrongFalsely : Prop := correctOrderFreeRow.holds Try.pinned (OpenSpec.ofChange correctOrderFreeWrong)

/-- 'billiardlaw18.CorrectKeeps': WHATEVER THE INPUT: true; the input reads as it did. -/
def correctKeepsSpec : ChangeSpec := { name := "correctKeeps", fn := fun _ => fun
  | [d1, d2] => { results := [.lit (.bool true)], args := [d1, d2] }
  | _ => none }
def correctKeepsRow : OpenClaim := { program := "ytplmeknmeobanaa", sum := "e9df00e543b1cb37b0641a0a904903e85961f86bf71ae9a8b5475e8b47772ef8", func := "billiard/billiardlaw18.CorrectKeeps", spec := "correctKeeps", unfollowed := true, recurses := true, named := ["math/bits.divideError", "math/bits.overflowError"], apart := false }
def CorrectKeepsSaid : Prop := correctKeepsRow.holds Try.pinned (OpenSpec.ofChange correctKeepsSpec)

/-- ITS FALSE NEIGHBOUR: 'it returns false'. Refute it at one input. -/
def correctKeepsWrong : ChangeSpec := { name := "correctKeeps", fn := fun _ => fun
  | [d1, d2] => { results := [.lit (.bool false)], args := [d1, d2] }
  | _ => none }
def CorrectKeepsWrongFalsely : Prop := correctKeepsRow.holds Try.pinned (OpenSpec.ofChange correctKeepsWrong)

/- THE SECOND FORM. 'bulk': how many values and letters a reading holds, each counted each time it is reached (what is shared counts as often as it is met; a slice's spare places count too). A statement '..UptoSaid' is the law's where the arguments, and the package variables that the reading takes, are together of bulk at most 1048576: NARROWER than '..Said'. Prove '..Said' where nothing that the law and all that it calls make is longer than what came in: it says more and counts as full. Else prove '..UptoSaid'. A law counts once. -/
mutual
def uptoBulk {H : Type} : DataW H → Nat
  | .lit (.string bytes) => bytes.length + 1
  | .lit _ => 1
  | .nil => 1
  | .ptr d => uptoBulk d + 1
  | .slice elems spare => uptoBulkAll elems + uptoBulkAll spare + 1
  | .agg parts => uptoBulkAll parts + 1
  | .iface _ d => uptoBulk d + 1
  | .map entries => uptoBulkEntries entries + 1
  | .held _ => 1
def uptoBulkAll {H : Type} : List (DataW H) → Nat
  | [] => 0
  | d :: r => uptoBulk d + uptoBulkAll r
def uptoBulkEntries {H : Type} : List (Lit × DataW H) → Nat
  | [] => 0
  | x :: r => uptoBulkEntry x + uptoBulkEntries r
def uptoBulkEntry {H : Type} : Lit × DataW H → Nat
  | (.string bytes, d) => bytes.length + uptoBulk d + 1
  | (_, d) => uptoBulk d + 1
 end
def uptoSmall : (H : Type) → List (DataW H) → Bool := fun _ ds => decide (uptoBulkAll ds ≤ 1048576)
def OpenSpec.upto (s : _root_.Go.ChangeSpec) : _root_.Go.OpenSpec := { _root_.Go.OpenSpec.ofChange s with cond := some uptoSmall }

/-- 'billiardlaw18.CorrectMatchesReference', WHERE WHAT IT READS IS OF BULK AT MOST 1048576: true; the input reads as it did. -/
def correctMatchesReferenceUptoRow : OpenClaim := { program := "ytplmeknmeobanaa", sum := "e9df00e543b1cb37b0641a0a904903e85961f86bf71ae9a8b5475e8b47772ef8", func := "billiard/billiardlaw18.CorrectMatchesReference", spec := "correctMatchesReference", unfollowed := true, recurses := true, named := ["math/bits.divideError", "math/bits.overflowError"], apart := false, narrowed := true }
def CorrectMatchesReferenceUptoSaid : Prop := correctMatchesReferenceUptoRow.holds Try.pinned (OpenSpec.upto correctMatchesReferenceSpec)

/-- 'billiardlaw18.CorrectOrderFree', WHERE WHAT IT READS IS OF BULK AT MOST 1048576: true; the input reads as it did. -/
def correctOrderFreeUptoRow : OpenClaim := { program := "ytplmeknmeobanaa", sum := "e9df00e543b1cb37b0641a0a904903e85961f86bf71ae9a8b5475e8b47772ef8", func := "billiard/billiardlaw18.CorrectOrderFree", spec := "correctOrderFree", unfollowed := true, recurses := true, named := ["math/bits.divideError", "math/bits.overflowError"], apart := false, narrowed := true }
def CorrectOrderFreeUptoSaid : Prop := correctOrderFreeUptoRow.holds Try.pinned (OpenSpec.upto correctOrderFreeSpec)

/-- 'billiardlaw18.CorrectKeeps', WHERE WHAT IT READS IS OF BULK AT MOST 1048576: true; the input reads as it did. -/
def correctKeepsUptoRow : OpenClaim := { program := "ytplmeknmeobanaa", sum := "e9df00e543b1cb37b0641a0a904903e85961f86bf71ae9a8b5475e8b47772ef8", func := "billiard/billiardlaw18.CorrectKeeps", spec := "correctKeeps", unfollowed := true, recurses := true, named := ["math/bits.divideError", "math/bits.overflowError"], apart := false, narrowed := true }
def CorrectKeepsUptoSaid : Prop := correctKeepsUptoRow.holds Try.pinned (OpenSpec.upto correctKeepsSpec)

end Rows
end Go.Proofs.Ytplmeknmeobanaa
