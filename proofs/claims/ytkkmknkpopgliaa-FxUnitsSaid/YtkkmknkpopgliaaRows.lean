/-
  No cell of these rows narrows 'for every input' (looked for: loops, veiled, ifaces, maps, wideKeys, modest, calm, conditions, laid).
  DERIVED. THE GIVEN ROWS OF THIS SEAT. 5 by the template 'for every input the law returns true; each argument reads behind the call as it read before'; 0 by the template 'total and deterministic' (their statements: YtkkmknkpopgliaaTotals.lean).
  GIVEN WITH THE SEED: the statements are not yours to turn. If you find one false, say at which input.
  Laid BY PROGRAM, IN A SANDBOX (cutbox-rows.mjs): the forced cells as the released guide's own fill.sh prints them over the translation fdd8f95a9708e2bb… (all of the seat's roots in one cut). By AI agents, Wed Nov 11 2026. No macro, syntax, notation, axiom, sorry.
-/
import Derived.Test.YtkkmknkpopgliaaChecked
import GoSem.Claim
import GoSem.ClaimJoined
import GoSem.ClaimMapViews
import Derived.JoinedTies
import Derived.KernelRfl
namespace Go.Proofs.Ytkkmknkpopgliaa
/- THE CELL 'sum', in the pinned program and in every row, IS THE sha256 OF THE DUMP (.gsa) THAT YtkkmknkpopgliaaProg.lean LOADS. Nothing in Lean hashes anything: it is a label: what it is worth is what the hold of that sum in a sandbox is worth. -/
noncomputable def Try.pinned : Pinned := { name := "ytkkmknkpopgliaa", sum := "fdd8f95a9708e2bbad3171f929d787f81cf71101e998ca7d8f58267a4c26386f", checked := Try.checked }
namespace Rows
def none {H : Type} : Left H := { results := [], args := [] }

/-- 'billiardlaw02.FxBounds': WHATEVER THE INPUT: true; the input reads as it did. -/
def fxBoundsSpec : ChangeSpec := { name := "fxBounds", fn := fun _ => fun
  | [d1, d2] => { results := [.lit (.bool true)], args := [d1, d2] }
  | _ => none }
def fxBoundsRow : OpenClaim := { program := "ytkkmknkpopgliaa", sum := "fdd8f95a9708e2bbad3171f929d787f81cf71101e998ca7d8f58267a4c26386f", func := "billiard/billiardlaw02.FxBounds", spec := "fxBounds", unfollowed := true, recurses := true, named := ["math/bits.divideError", "math/bits.overflowError"], apart := false }
def FxBoundsSaid : Prop := fxBoundsRow.holds Try.pinned (OpenSpec.ofChange fxBoundsSpec)

/-- ITS FALSE NEIGHBOUR: 'it returns false'. Refute it at one input. -/
def fxBoundsWrong : ChangeSpec := { name := "fxBounds", fn := fun _ => fun
  | [d1, d2] => { results := [.lit (.bool false)], args := [d1, d2] }
  | _ => none }
def FxBoundsWrongFalsely : Prop := fxBoundsRow.holds Try.pinned (OpenSpec.ofChange fxBoundsWrong)

/-- 'billiardlaw02.FxMonotone': WHATEVER THE INPUT: true; the input reads as it did. -/
def fxMonotoneSpec : ChangeSpec := { name := "fxMonotone", fn := fun _ => fun
  | [d1, d2, d3, d4, d5] => { results := [.lit (.bool true)], args := [d1, d2, d3, d4, d5] }
  | _ => none }
def fxMonotoneRow : OpenClaim := { program := "ytkkmknkpopgliaa", sum := "fdd8f95a9708e2bbad3171f929d787f81cf71101e998ca7d8f58267a4c26386f", func := "billiard/billiardlaw02.FxMonotone", spec := "fxMonotone", unfollowed := true, recurses := true, named := ["math/bits.divideError", "math/bits.overflowError"], apart := false }
def FxMonotoneSaid : Prop := fxMonotoneRow.holds Try.pinned (OpenSpec.ofChange fxMonotoneSpec)

/-- ITS FALSE NEIGHBOUR: 'it returns false'. Refute it at one input. -/
def fxMonotoneWrong : ChangeSpec := { name := "fxMonotone", fn := fun _ => fun
  | [d1, d2, d3, d4, d5] => { results := [.lit (.bool false)], args := [d1, d2, d3, d4, d5] }
  | _ => none }
def FxMonotoneWrongFalsely : Prop := fxMonotoneRow.holds Try.pinned (OpenSpec.ofChange fxMonotoneWrong)

/-- 'billiardlaw02.FxInverse': WHATEVER THE INPUT: true; the input reads as it did. -/
def fxInverseSpec : ChangeSpec := { name := "fxInverse", fn := fun _ => fun
  | [d1, d2] => { results := [.lit (.bool true)], args := [d1, d2] }
  | _ => none }
def fxInverseRow : OpenClaim := { program := "ytkkmknkpopgliaa", sum := "fdd8f95a9708e2bbad3171f929d787f81cf71101e998ca7d8f58267a4c26386f", func := "billiard/billiardlaw02.FxInverse", spec := "fxInverse", unfollowed := true, recurses := true, named := ["math/bits.divideError", "math/bits.overflowError"], apart := false }
def FxInverseSaid : Prop := fxInverseRow.holds Try.pinned (OpenSpec.ofChange fxInverseSpec)

/-- ITS FALSE NEIGHBOUR: 'it returns false'. Refute it at one input. -/
def fxInverseWrong : ChangeSpec := { name := "fxInverse", fn := fun _ => fun
  | [d1, d2] => { results := [.lit (.bool false)], args := [d1, d2] }
  | _ => none }
def FxInverseWrongFalsely : Prop := fxInverseRow.holds Try.pinned (OpenSpec.ofChange fxInverseWrong)

/-- 'billiardlaw02.FxMatchesReference': WHATEVER THE INPUT: true; the input reads as it did. -/
def fxMatchesReferenceSpec : ChangeSpec := { name := "fxMatchesReference", fn := fun _ => fun
  | [d1, d2, d3, d4] => { results := [.lit (.bool true)], args := [d1, d2, d3, d4] }
  | _ => none }
def fxMatchesReferenceRow : OpenClaim := { program := "ytkkmknkpopgliaa", sum := "fdd8f95a9708e2bbad3171f929d787f81cf71101e998ca7d8f58267a4c26386f", func := "billiard/billiardlaw02.FxMatchesReference", spec := "fxMatchesReference", unfollowed := true, recurses := true, named := ["math/bits.divideError", "math/bits.overflowError"], apart := false }
def FxMatchesReferenceSaid : Prop := fxMatchesReferenceRow.holds Try.pinned (OpenSpec.ofChange fxMatchesReferenceSpec)

/-- ITS FALSE NEIGHBOUR: 'it returns false'. Refute it at one input. -/
def fxMatchesReferenceWrong : ChangeSpec := { name := "fxMatchesReference", fn := fun _ => fun
  | [d1, d2, d3, d4] => { results := [.lit (.bool false)], args := [d1, d2, d3, d4] }
  | _ => none }
def FxMatchesReferenceWrongFalsely : Prop := fxMatchesReferenceRow.holds Try.pinned (OpenSpec.ofChange fxMatchesReferenceWrong)

/-- 'billiardlaw02.FxUnits': WHATEVER THE INPUT: true; the input reads as it did. -/
def fxUnitsSpec : ChangeSpec := { name := "fxUnits", fn := fun _ => fun
  | [d1, d2] => { results := [.lit (.bool true)], args := [d1, d2] }
  | _ => none }
def fxUnitsRow : OpenClaim := { program := "ytkkmknkpopgliaa", sum := "fdd8f95a9708e2bbad3171f929d787f81cf71101e998ca7d8f58267a4c26386f", func := "billiard/billiardlaw02.FxUnits", spec := "fxUnits", unfollowed := true, recurses := true, named := ["math/bits.divideError", "math/bits.overflowError"], apart := false }
def FxUnitsSaid : Prop := fxUnitsRow.holds Try.pinned (OpenSpec.ofChange fxUnitsSpec)

/-- ITS FALSE NEIGHBOUR: 'it returns false'. Refute it at one input. -/
def fxUnitsWrong : ChangeSpec := { name := "fxUnits", fn := fun _ => fun
  | [d1, d2] => { results := [.lit (.bool false)], args := [d1, d2] }
  | _ => none }
def FxUnitsWrongFalsely : Prop := fxUnitsRow.holds Try.pinned (OpenSpec.ofChange fxUnitsWrong)

/- THE SECOND FORM. 'bulk': how many values and letters a reading holds, each counted each time it is reached (what is shared counts as often as it is met; a slice's spare places count too). A statement '..UptoSaid' is the law's where the arguments, and the package variables that the reading takes, are together of bulk at most 1048576: NARROWER than '..Said'. Prove '..Said' where nothing that the law and all that it calls make is longer than what came in: it says more and counts as full. Else prove '..UptoSaid'. A law counts once. -/
mutual
def uptoBulk {H : Type} : DataW H → Nat
  | .lit (.string bytes) => bytes.length + 1
  | .lit _ => 1
  | .nil => 1
  | .ptr d => uptoBulk d + 1
  | .slice elems spare => uptoBulkAll elems + uptoBulkAll spare + 1
  | .agg parts => uptoBulkAll parts + 1
  | .iface _ d => uptoBulk d + 1
  | .map entries => uptoBulkEntries entries + 1
  | .held _ => 1
def uptoBulkAll {H : Type} : List (DataW H) → Nat
  | [] => 0
  | d :: r => uptoBulk d + uptoBulkAll r
def uptoBulkEntries {H : Type} : List (Lit × DataW H) → Nat
  | [] => 0
  | x :: r => uptoBulkEntry x + uptoBulkEntries r
def uptoBulkEntry {H : Type} : Lit × DataW H → Nat
  | (.string bytes, d) => bytes.length + uptoBulk d + 1
  | (_, d) => uptoBulk d + 1
 end
def uptoSmall : (H : Type) → List (DataW H) → Bool := fun _ ds => decide (uptoBulkAll ds ≤ 1048576)
def OpenSpec.upto (s : _root_.Go.ChangeSpec) : _root_.Go.OpenSpec := { _root_.Go.OpenSpec.ofChange s with cond := some uptoSmall }

/-- 'billiardlaw02.FxBounds', WHERE WHAT IT READS IS OF BULK AT MOST 1048576: true; the input reads as it did. -/
def fxBoundsUptoRow : OpenClaim := { program := "ytkkmknkpopgliaa", sum := "fdd8f95a9708e2bbad3171f929d787f81cf71101e998ca7d8f58267a4c26386f", func := "billiard/billiardlaw02.FxBounds", spec := "fxBounds", unfollowed := true, recurses := true, named := ["math/bits.divideError", "math/bits.overflowError"], apart := false, narrowed := true }
def FxBoundsUptoSaid : Prop := fxBoundsUptoRow.holds Try.pinned (OpenSpec.upto fxBoundsSpec)

/-- 'billiardlaw02.FxMonotone', WHERE WHAT IT READS IS OF BULK AT MOST 1048576: true; the input reads as it did. -/
def fxMonotoneUptoRow : OpenClaim := { program := "ytkkmknkpopgliaa", sum := "fdd8f95a9708e2bbad3171f929d787f81cf71101e998ca7d8f58267a4c26386f", func := "billiard/billiardlaw02.FxMonotone", spec := "fxMonotone", unfollowed := true, recurses := true, named := ["math/bits.divideError", "math/bits.overflowError"], apart := false, narrowed := true }
def FxMonotoneUptoSaid : Prop := fxMonotoneUptoRow.holds Try.pinned (OpenSpec.upto fxMonotoneSpec)

/-- 'billiardlaw02.FxInverse', WHERE WHAT IT READS IS OF BULK AT MOST 1048576: true; the input reads as it did. -/
def fxInverseUptoRow : OpenClaim := { program := "ytkkmknkpopgliaa", sum := "fdd8f95a9708e2bbad3171f929d787f81cf71101e998ca7d8f58267a4c26386f", func := "billiard/billiardlaw02.FxInverse", spec := "fxInverse", unfollowed := true, recurses := true, named := ["math/bits.divideError", "math/bits.overflowError"], apart := false, narrowed := true }
def FxInverseUptoSaid : Prop := fxInverseUptoRow.holds Try.pinned (OpenSpec.upto fxInverseSpec)

/-- 'billiardlaw02.FxMatchesReference', WHERE WHAT IT READS IS OF BULK AT MOST 1048576: true; the input reads as it did. -/
def fxMatchesReferenceUptoRow : OpenClaim := { program := "ytkkmknkpopgliaa", sum := "fdd8f95a9708e2bbad3171f929d787f81cf71101e998ca7d8f58267a4c26386f", func := "billiard/billiardlaw02.FxMatchesReference", spec := "fxMatchesReference", unfollowed := true, recurses := true, named := ["math/bits.divideError", "math/bits.overflowError"], apart := false, narrowed := true }
def FxMatchesReferenceUptoSaid : Prop := fxMatchesReferenceUptoRow.holds Try.pinned (OpenSpec.upto fxMatchesReferenceSpec)

/-- 'billiardlaw02.FxUnits', WHERE WHAT IT READS IS OF BULK AT MOST 1048576: true; the input reads as it did. -/
def fxUnitsUptoRow : OpenClaim := { program := "ytkkmknkpopgliaa", sum := "fdd8f95a9708e2bbad3171f929d787f81cf71101e998ca7d8f58267a4c26386f", func := "billiard/billiardlaw02.FxUnits", spec := "fxUnits", unfollowed := true, recurses := true, named := ["math/bits.divideError", "math/bits.overflowError"], apart := false, narrowed := true }
def FxUnitsUptoSaid : Prop := fxUnitsUptoRow.holds Try.pinned (OpenSpec.upto fxUnitsSpec)

end Rows
end Go.Proofs.Ytkkmknkpopgliaa
