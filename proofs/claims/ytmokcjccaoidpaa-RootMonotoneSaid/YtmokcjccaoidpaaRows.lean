/-
  No cell of these rows narrows 'for every input' (looked for: loops, veiled, ifaces, maps, wideKeys, modest, calm, conditions, laid).
  DERIVED. THE GIVEN ROWS OF THIS SEAT. 4 by the template 'for every input the law returns true; each argument reads behind the call as it read before'; 0 by the template 'total and deterministic' (their statements: YtmokcjccaoidpaaTotals.lean).
  GIVEN WITH THE SEED: the statements are not yours to turn. If you find one false, say at which input.
  Laid BY PROGRAM, IN A SANDBOX (cutbox-rows.mjs): the forced cells as the released guide's own fill.sh prints them over the translation 1c0148b88ead6c69… (all of the seat's roots in one cut). By AI agents, Wed Nov 11 2026. No macro, syntax, notation, axiom, sorry.
-/
import Derived.Test.YtmokcjccaoidpaaChecked
import GoSem.Claim
import GoSem.ClaimJoined
import GoSem.ClaimMapViews
import Derived.JoinedTies
import Derived.KernelRfl
namespace Go.Proofs.Ytmokcjccaoidpaa
/- THE CELL 'sum', in the pinned program and in every row, IS THE sha256 OF THE DUMP (.gsa) THAT YtmokcjccaoidpaaProg.lean LOADS. Nothing in Lean hashes anything: it is a label: what it is worth is what the hold of that sum in a sandbox is worth. -/
noncomputable def Try.pinned : Pinned := { name := "ytmokcjccaoidpaa", sum := "1c0148b88ead6c69be54d44fb2d2be3b3a85bfecf35e34d18452ca26ecdf2cec", checked := Try.checked }
namespace Rows
def none {H : Type} : Left H := { results := [], args := [] }

/-- 'billiardlaw03.RootMatchesReference': WHATEVER THE INPUT: true; the input reads as it did. -/
def rootMatchesReferenceSpec : ChangeSpec := { name := "rootMatchesReference", fn := fun _ => fun
  | [d1, d2] => { results := [.lit (.bool true)], args := [d1, d2] }
  | _ => none }
def rootMatchesReferenceRow : OpenClaim := { program := "ytmokcjccaoidpaa", sum := "1c0148b88ead6c69be54d44fb2d2be3b3a85bfecf35e34d18452ca26ecdf2cec", func := "billiard/billiardlaw03.RootMatchesReference", spec := "rootMatchesReference", apart := false }
def RootMatchesReferenceSaid : Prop := rootMatchesReferenceRow.holds Try.pinned (OpenSpec.ofChange rootMatchesReferenceSpec)

/-- ITS FALSE NEIGHBOUR: 'it returns false'. Refute it at one input. -/
def rootMatchesReferenceWrong : ChangeSpec := { name := "rootMatchesReference", fn := fun _ => fun
  | [d1, d2] => { results := [.lit (.bool false)], args := [d1, d2] }
  | _ => none }
def RootMatchesReferenceWrongFalsely : Prop := rootMatchesReferenceRow.holds Try.pinned (OpenSpec.ofChange rootMatchesReferenceWrong)

/-- 'billiardlaw03.RootFloor': WHATEVER THE INPUT: true; the input reads as it did. -/
def rootFloorSpec : ChangeSpec := { name := "rootFloor", fn := fun _ => fun
  | [d] => { results := [.lit (.bool true)], args := [d] }
  | _ => none }
def rootFloorRow : OpenClaim := { program := "ytmokcjccaoidpaa", sum := "1c0148b88ead6c69be54d44fb2d2be3b3a85bfecf35e34d18452ca26ecdf2cec", func := "billiard/billiardlaw03.RootFloor", spec := "rootFloor", apart := false }
def RootFloorSaid : Prop := rootFloorRow.holds Try.pinned (OpenSpec.ofChange rootFloorSpec)

/-- ITS FALSE NEIGHBOUR: 'it returns false'. Refute it at one input. -/
def rootFloorWrong : ChangeSpec := { name := "rootFloor", fn := fun _ => fun
  | [d] => { results := [.lit (.bool false)], args := [d] }
  | _ => none }
def RootFloorWrongFalsely : Prop := rootFloorRow.holds Try.pinned (OpenSpec.ofChange rootFloorWrong)

/-- 'billiardlaw03.RootMonotone': WHATEVER THE INPUT: true; the input reads as it did. -/
def rootMonotoneSpec : ChangeSpec := { name := "rootMonotone", fn := fun _ => fun
  | [d1, d2] => { results := [.lit (.bool true)], args := [d1, d2] }
  | _ => none }
def rootMonotoneRow : OpenClaim := { program := "ytmokcjccaoidpaa", sum := "1c0148b88ead6c69be54d44fb2d2be3b3a85bfecf35e34d18452ca26ecdf2cec", func := "billiard/billiardlaw03.RootMonotone", spec := "rootMonotone", apart := false }
def RootMonotoneSaid : Prop := rootMonotoneRow.holds Try.pinned (OpenSpec.ofChange rootMonotoneSpec)

/-- ITS FALSE NEIGHBOUR: 'it returns false'. Refute it at one input. -/
def rootMonotoneWrong : ChangeSpec := { name := "rootMonotone", fn := fun _ => fun
  | [d1, d2] => { results := [.lit (.bool false)], args := [d1, d2] }
  | _ => none }
def RootMonotoneWrongFalsely : Prop := rootMonotoneRow.holds Try.pinned (OpenSpec.ofChange rootMonotoneWrong)

/-- 'billiardlaw03.RootSqrt': WHATEVER THE INPUT: true; the input reads as it did. -/
def rootSqrtSpec : ChangeSpec := { name := "rootSqrt", fn := fun _ => fun
  | [d] => { results := [.lit (.bool true)], args := [d] }
  | _ => none }
def rootSqrtRow : OpenClaim := { program := "ytmokcjccaoidpaa", sum := "1c0148b88ead6c69be54d44fb2d2be3b3a85bfecf35e34d18452ca26ecdf2cec", func := "billiard/billiardlaw03.RootSqrt", spec := "rootSqrt", apart := false }
def RootSqrtSaid : Prop := rootSqrtRow.holds Try.pinned (OpenSpec.ofChange rootSqrtSpec)

/-- ITS FALSE NEIGHBOUR: 'it returns false'. Refute it at one input. -/
def rootSqrtWrong : ChangeSpec := { name := "rootSqrt", fn := fun _ => fun
  | [d] => { results := [.lit (.bool false)], args := [d] }
  | _ => none }
def RootSqrtWrongFalsely : Prop := rootSqrtRow.holds Try.pinned (OpenSpec.ofChange rootSqrtWrong)

/- THE SECOND FORM. 'bulk': how many values and letters a reading holds, each counted each time it is reached (what is shared counts as often as it is met; a slice's spare places count too). A statement '..UptoSaid' is the law's where the arguments, and the package variables that the reading takes, are together of bulk at most 1048576: NARROWER than '..Said'. Prove '..Said' where nothing that the law and all that it calls make is longer than what came in: it says more and counts as full. Else prove '..UptoSaid'. A law counts once. -/
mutual
def uptoBulk {H : Type} : DataW H → Nat
  | .lit (.string bytes) => bytes.length + 1
  | .lit _ => 1
  | .nil => 1
  | .ptr d => uptoBulk d + 1
  | .slice elems spare => uptoBulkAll elems + uptoBulkAll spare + 1
  | .agg parts => uptoBulkAll parts + 1
  | .iface _ d => uptoBulk d + 1
  | .map entries => uptoBulkEntries entries + 1
  | .held _ => 1
def uptoBulkAll {H : Type} : List (DataW H) → Nat
  | [] => 0
  | d :: r => uptoBulk d + uptoBulkAll r
def uptoBulkEntries {H : Type} : List (Lit × DataW H) → Nat
  | [] => 0
  | x :: r => uptoBulkEntry x + uptoBulkEntries r
def uptoBulkEntry {H : Type} : Lit × DataW H → Nat
  | (.string bytes, d) => bytes.length + uptoBulk d + 1
  | (_, d) => uptoBulk d + 1
 end
def uptoSmall : (H : Type) → List (DataW H) → Bool := fun _ ds => decide (uptoBulkAll ds ≤ 1048576)
def OpenSpec.upto (s : _root_.Go.ChangeSpec) : _root_.Go.OpenSpec := { _root_.Go.OpenSpec.ofChange s with cond := some uptoSmall }

/-- 'billiardlaw03.RootMatchesReference', WHERE WHAT IT READS IS OF BULK AT MOST 1048576: true; the input reads as it did. -/
def rootMatchesReferenceUptoRow : OpenClaim := { program := "ytmokcjccaoidpaa", sum := "1c0148b88ead6c69be54d44fb2d2be3b3a85bfecf35e34d18452ca26ecdf2cec", func := "billiard/billiardlaw03.RootMatchesReference", spec := "rootMatchesReference", apart := false, narrowed := true }
def RootMatchesReferenceUptoSaid : Prop := rootMatchesReferenceUptoRow.holds Try.pinned (OpenSpec.upto rootMatchesReferenceSpec)

/-- 'billiardlaw03.RootFloor', WHERE WHAT IT READS IS OF BULK AT MOST 1048576: true; the input reads as it did. -/
def rootFloorUptoRow : OpenClaim := { program := "ytmokcjccaoidpaa", sum := "1c0148b88ead6c69be54d44fb2d2be3b3a85bfecf35e34d18452ca26ecdf2cec", func := "billiard/billiardlaw03.RootFloor", spec := "rootFloor", apart := false, narrowed := true }
def RootFloorUptoSaid : Prop := rootFloorUptoRow.holds Try.pinned (OpenSpec.upto rootFloorSpec)

/-- 'billiardlaw03.RootMonotone', WHERE WHAT IT READS IS OF BULK AT MOST 1048576: true; the input reads as it did. -/
def rootMonotoneUptoRow : OpenClaim := { program := "ytmokcjccaoidpaa", sum := "1c0148b88ead6c69be54d44fb2d2be3b3a85bfecf35e34d18452ca26ecdf2cec", func := "billiard/billiardlaw03.RootMonotone", spec := "rootMonotone", apart := false, narrowed := true }
def RootMonotoneUptoSaid : Prop := rootMonotoneUptoRow.holds Try.pinned (OpenSpec.upto rootMonotoneSpec)

/-- 'billiardlaw03.RootSqrt', WHERE WHAT IT READS IS OF BULK AT MOST 1048576: true; the input reads as it did. -/
def rootSqrtUptoRow : OpenClaim := { program := "ytmokcjccaoidpaa", sum := "1c0148b88ead6c69be54d44fb2d2be3b3a85bfecf35e34d18452ca26ecdf2cec", func := "billiard/billiardlaw03.RootSqrt", spec := "rootSqrt", apart := false, narrowed := true }
def RootSqrtUptoSaid : Prop := rootSqrtUptoRow.holds Try.pinned (OpenSpec.upto rootSqrtSpec)

end Rows
end Go.Proofs.Ytmokcjccaoidpaa
