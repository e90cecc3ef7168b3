/-
  No cell of these rows narrows 'for every input' (looked for: loops, veiled, ifaces, maps, wideKeys, modest, calm, conditions, laid).
  DERIVED. THE GIVEN ROWS OF THIS SEAT. 5 by the template 'for every input the law returns true; each argument reads behind the call as it read before'; 0 by the template 'total and deterministic' (their statements: YtecnpbjcdkhnaaaTotals.lean).
  GIVEN WITH THE SEED: the statements are not yours to turn. If you find one false, say at which input.
  Laid BY PROGRAM, IN A SANDBOX (cutbox-rows.mjs): the forced cells as the released guide's own fill.sh prints them over the translation 338bbe395afec482… (all of the seat's roots in one cut). By AI agents, Wed Nov 11 2026. No macro, syntax, notation, axiom, sorry.
-/
import Derived.Test.YtecnpbjcdkhnaaaChecked
import GoSem.Claim
import GoSem.ClaimJoined
import GoSem.ClaimMapViews
import Derived.JoinedTies
import Derived.KernelRfl
namespace Go.Proofs.Ytecnpbjcdkhnaaa
/- THE CELL 'sum', in the pinned program and in every row, IS THE sha256 OF THE DUMP (.gsa) THAT YtecnpbjcdkhnaaaProg.lean LOADS. Nothing in Lean hashes anything: it is a label: what it is worth is what the hold of that sum in a sandbox is worth. -/
noncomputable def Try.pinned : Pinned := { name := "ytecnpbjcdkhnaaa", sum := "338bbe395afec482b348ca933b5c8ab796533e06b0bcf443c66b8ab60f37ae1b", checked := Try.checked }
namespace Rows
def none {H : Type} : Left H := { results := [], args := [] }

/-- 'billiardlaw01.WideMatchesReference': WHATEVER THE INPUT: true; the input reads as it did. -/
def wideMatchesReferenceSpec : ChangeSpec := { name := "wideMatchesReference", fn := fun _ => fun
  | [d1, d2, d3, d4, d5, d6] => { results := [.lit (.bool true)], args := [d1, d2, d3, d4, d5, d6] }
  | _ => none }
def wideMatchesReferenceRow : OpenClaim := { program := "ytecnpbjcdkhnaaa", sum := "338bbe395afec482b348ca933b5c8ab796533e06b0bcf443c66b8ab60f37ae1b", func := "billiard/billiardlaw01.WideMatchesReference", spec := "wideMatchesReference", inPlace := ["math/bits.Add64"], unfollowed := true, recurses := true, named := ["math/bits.divideError", "math/bits.overflowError"], apart := false }
def WideMatchesReferenceSaid : Prop := wideMatchesReferenceRow.holds Try.pinned (OpenSpec.ofChange wideMatchesReferenceSpec)

/-- ITS FALSE NEIGHBOUR: 'it returns false'. Refute it at one input. -/
def wideMatchesReferenceWrong : ChangeSpec := { name := "wideMatchesReference", fn := fun _ => fun
  | [d1, d2, d3, d4, d5, d6] => { results := [.lit (.bool false)], args := [d1, d2, d3, d4, d5, d6] }
  | _ => none }
def WideMatchesReferenceWrongFalsely : Prop := wideMatchesReferenceRow.holds Try.pinned (OpenSpec.ofChange wideMatchesReferenceWrong)

/-- 'billiardlaw01.WideQuotient': WHATEVER THE INPUT: true; the input reads as it did. -/
def wideQuotientSpec : ChangeSpec := { name := "wideQuotient", fn := fun _ => fun
  | [d1, d2, d3] => { results := [.lit (.bool true)], args := [d1, d2, d3] }
  | _ => none }
def wideQuotientRow : OpenClaim := { program := "ytecnpbjcdkhnaaa", sum := "338bbe395afec482b348ca933b5c8ab796533e06b0bcf443c66b8ab60f37ae1b", func := "billiard/billiardlaw01.WideQuotient", spec := "wideQuotient", inPlace := ["math/bits.Add64"], unfollowed := true, recurses := true, named := ["math/bits.divideError", "math/bits.overflowError"], apart := false }
def WideQuotientSaid : Prop := wideQuotientRow.holds Try.pinned (OpenSpec.ofChange wideQuotientSpec)

/-- ITS FALSE NEIGHBOUR: 'it returns false'. Refute it at one input. -/
def wideQuotientWrong : ChangeSpec := { name := "wideQuotient", fn := fun _ => fun
  | [d1, d2, d3] => { results := [.lit (.bool false)], args := [d1, d2, d3] }
  | _ => none }
def WideQuotientWrongFalsely : Prop := wideQuotientRow.holds Try.pinned (OpenSpec.ofChange wideQuotientWrong)

/-- 'billiardlaw01.WideShifts': WHATEVER THE INPUT: true; the input reads as it did. -/
def wideShiftsSpec : ChangeSpec := { name := "wideShifts", fn := fun _ => fun
  | [d1, d2, d3] => { results := [.lit (.bool true)], args := [d1, d2, d3] }
  | _ => none }
def wideShiftsRow : OpenClaim := { program := "ytecnpbjcdkhnaaa", sum := "338bbe395afec482b348ca933b5c8ab796533e06b0bcf443c66b8ab60f37ae1b", func := "billiard/billiardlaw01.WideShifts", spec := "wideShifts", inPlace := ["math/bits.Add64"], unfollowed := true, recurses := true, named := ["math/bits.divideError", "math/bits.overflowError"], apart := false }
def WideShiftsSaid : Prop := wideShiftsRow.holds Try.pinned (OpenSpec.ofChange wideShiftsSpec)

/-- ITS FALSE NEIGHBOUR: 'it returns false'. Refute it at one input. -/
def wideShiftsWrong : ChangeSpec := { name := "wideShifts", fn := fun _ => fun
  | [d1, d2, d3] => { results := [.lit (.bool false)], args := [d1, d2, d3] }
  | _ => none }
def WideShiftsWrongFalsely : Prop := wideShiftsRow.holds Try.pinned (OpenSpec.ofChange wideShiftsWrong)

/-- 'billiardlaw01.WideSymmetric': WHATEVER THE INPUT: true; the input reads as it did. -/
def wideSymmetricSpec : ChangeSpec := { name := "wideSymmetric", fn := fun _ => fun
  | [d1, d2, d3, d4] => { results := [.lit (.bool true)], args := [d1, d2, d3, d4] }
  | _ => none }
def wideSymmetricRow : OpenClaim := { program := "ytecnpbjcdkhnaaa", sum := "338bbe395afec482b348ca933b5c8ab796533e06b0bcf443c66b8ab60f37ae1b", func := "billiard/billiardlaw01.WideSymmetric", spec := "wideSymmetric", inPlace := ["math/bits.Add64"], unfollowed := true, recurses := true, named := ["math/bits.divideError", "math/bits.overflowError"], apart := false }
def WideSymmetricSaid : Prop := wideSymmetricRow.holds Try.pinned (OpenSpec.ofChange wideSymmetricSpec)

/-- ITS FALSE NEIGHBOUR: 'it returns false'. Refute it at one input. -/
def wideSymmetricWrong : ChangeSpec := { name := "wideSymmetric", fn := fun _ => fun
  | [d1, d2, d3, d4] => { results := [.lit (.bool false)], args := [d1, d2, d3, d4] }
  | _ => none }
def WideSymmetricWrongFalsely : Prop := wideSymmetricRow.holds Try.pinned (OpenSpec.ofChange wideSymmetricWrong)

/-- 'billiardlaw01.WideCancels': WHATEVER THE INPUT: true; the input reads as it did. -/
def wideCancelsSpec : ChangeSpec := { name := "wideCancels", fn := fun _ => fun
  | [d1, d2] => { results := [.lit (.bool true)], args := [d1, d2] }
  | _ => none }
def wideCancelsRow : OpenClaim := { program := "ytecnpbjcdkhnaaa", sum := "338bbe395afec482b348ca933b5c8ab796533e06b0bcf443c66b8ab60f37ae1b", func := "billiard/billiardlaw01.WideCancels", spec := "wideCancels", inPlace := ["math/bits.Add64"], unfollowed := true, recurses := true, named := ["math/bits.divideError", "math/bits.overflowError"], apart := false }
def WideCancelsSaid : Prop := wideCancelsRow.holds Try.pinned (OpenSpec.ofChange wideCancelsSpec)

/-- ITS FALSE NEIGHBOUR: 'it returns false'. Refute it at one input. -/
def wideCancelsWrong : ChangeSpec := { name := "wideCancels", fn := fun _ => fun
  | [d1, d2] => { results := [.lit (.bool false)], args := [d1, d2] }
  | _ => none }
def WideCancelsWrongFalsely : Prop := wideCancelsRow.holds Try.pinned (OpenSpec.ofChange wideCancelsWrong)

/- THE SECOND FORM. 'bulk': how many values and letters a reading holds, each counted each time it is reached (what is shared counts as often as it is met; a slice's spare places count too). A statement '..UptoSaid' is the law's where the arguments, and the package variables that the reading takes, are together of bulk at most 1048576: NARROWER than '..Said'. Prove '..Said' where nothing that the law and all that it calls make is longer than what came in: it says more and counts as full. Else prove '..UptoSaid'. A law counts once. -/
mutual
def uptoBulk {H : Type} : DataW H → Nat
  | .lit (.string bytes) => bytes.length + 1
  | .lit _ => 1
  | .nil => 1
  | .ptr d => uptoBulk d + 1
  | .slice elems spare => uptoBulkAll elems + uptoBulkAll spare + 1
  | .agg parts => uptoBulkAll parts + 1
  | .iface _ d => uptoBulk d + 1
  | .map entries => uptoBulkEntries entries + 1
  | .held _ => 1
def uptoBulkAll {H : Type} : List (DataW H) → Nat
  | [] => 0
  | d :: r => uptoBulk d + uptoBulkAll r
def uptoBulkEntries {H : Type} : List (Lit × DataW H) → Nat
  | [] => 0
  | x :: r => uptoBulkEntry x + uptoBulkEntries r
def uptoBulkEntry {H : Type} : Lit × DataW H → Nat
  | (.string bytes, d) => bytes.length + uptoBulk d + 1
  | (_, d) => uptoBulk d + 1
 end
def uptoSmall : (H : Type) → List (DataW H) → Bool := fun _ ds => decide (uptoBulkAll ds ≤ 1048576)
def OpenSpec.upto (s : _root_.Go.ChangeSpec) : _root_.Go.OpenSpec := { _root_.Go.OpenSpec.ofChange s with cond := some uptoSmall }

/-- 'billiardlaw01.WideMatchesReference', WHERE WHAT IT READS IS OF BULK AT MOST 1048576: true; the input reads as it did. -/
def wideMatchesReferenceUptoRow : OpenClaim := { program := "ytecnpbjcdkhnaaa", sum := "338bbe395afec482b348ca933b5c8ab796533e06b0bcf443c66b8ab60f37ae1b", func := "billiard/billiardlaw01.WideMatchesReference", spec := "wideMatchesReference", inPlace := ["math/bits.Add64"], unfollowed := true, recurses := true, named := ["math/bits.divideError", "math/bits.overflowError"], apart := false, narrowed := true }
def WideMatchesReferenceUptoSaid : Prop := wideMatchesReferenceUptoRow.holds Try.pinned (OpenSpec.upto wideMatchesReferenceSpec)

/-- 'billiardlaw01.WideQuotient', WHERE WHAT IT READS IS OF BULK AT MOST 1048576: true; the input reads as it did. -/
def wideQuotientUptoRow : OpenClaim := { program := "ytecnpbjcdkhnaaa", sum := "338bbe395afec482b348ca933b5c8ab796533e06b0bcf443c66b8ab60f37ae1b", func := "billiard/billiardlaw01.WideQuotient", spec := "wideQuotient", inPlace := ["math/bits.Add64"], unfollowed := true, recurses := true, named := ["math/bits.divideError", "math/bits.overflowError"], apart := false, narrowed := true }
def WideQuotientUptoSaid : Prop := wideQuotientUptoRow.holds Try.pinned (OpenSpec.upto wideQuotientSpec)

/-- 'billiardlaw01.WideShifts', WHERE WHAT IT READS IS OF BULK AT MOST 1048576: true; the input reads as it did. -/
def wideShiftsUptoRow : OpenClaim := { program := "ytecnpbjcdkhnaaa", sum := "338bbe395afec482b348ca933b5c8ab796533e06b0bcf443c66b8ab60f37ae1b", func := "billiard/billiardlaw01.WideShifts", spec := "wideShifts", inPlace := ["math/bits.Add64"], unfollowed := true, recurses := true, named := ["math/bits.divideError", "math/bits.overflowError"], apart := false, narrowed := true }
def WideShiftsUptoSaid : Prop := wideShiftsUptoRow.holds Try.pinned (OpenSpec.upto wideShiftsSpec)

/-- 'billiardlaw01.WideSymmetric', WHERE WHAT IT READS IS OF BULK AT MOST 1048576: true; the input reads as it did. -/
def wideSymmetricUptoRow : OpenClaim := { program := "ytecnpbjcdkhnaaa", sum := "338bbe395afec482b348ca933b5c8ab796533e06b0bcf443c66b8ab60f37ae1b", func := "billiard/billiardlaw01.WideSymmetric", spec := "wideSymmetric", inPlace := ["math/bits.Add64"], unfollowed := true, recurses := true, named := ["math/bits.divideError", "math/bits.overflowError"], apart := false, narrowed := true }
def WideSymmetricUptoSaid : Prop := wideSymmetricUptoRow.holds Try.pinned (OpenSpec.upto wideSymmetricSpec)

/-- 'billiardlaw01.WideCancels', WHERE WHAT IT READS IS OF BULK AT MOST 1048576: true; the input reads as it did. -/
def wideCancelsUptoRow : OpenClaim := { program := "ytecnpbjcdkhnaaa", sum := "338bbe395afec482b348ca933b5c8ab796533e06b0bcf443c66b8ab60f37ae1b", func := "billiard/billiardlaw01.WideCancels", spec := "wideCancels", inPlace := ["math/bits.Add64"], unfollowed := true, recurses := true, named := ["math/bits.divideError", "math/bits.overflowError"], apart := false, narrowed := true }
def WideCancelsUptoSaid : Prop := wideCancelsUptoRow.holds Try.pinned (OpenSpec.upto wideCancelsSpec)

end Rows
end Go.Proofs.Ytecnpbjcdkhnaaa
