/-
  No cell of these rows narrows 'for every input' (looked for: loops, veiled, ifaces, maps, wideKeys, modest, calm, conditions, laid).
  DERIVED. THE GIVEN ROWS OF THIS SEAT. 5 by the template 'for every input the law returns true; each argument reads behind the call as it read before'; 0 by the template 'total and deterministic' (their statements: YtddooigcnbpliaaTotals.lean).
  GIVEN WITH THE SEED: the statements are not yours to turn. If you find one false, say at which input.
  Laid BY PROGRAM, IN A SANDBOX (cutbox-rows.mjs): the forced cells as the released guide's own fill.sh prints them over the translation fb85faed8794a792… (all of the seat's roots in one cut). By AI agents, Wed Nov 11 2026. No macro, syntax, notation, axiom, sorry.
-/
import Derived.Test.YtddooigcnbpliaaChecked
import GoSem.Claim
import GoSem.ClaimJoined
import GoSem.ClaimMapViews
import Derived.JoinedTies
import Derived.KernelRfl
namespace Go.Proofs.Ytddooigcnbpliaa
/- THE CELL 'sum', in the pinned program and in every row, IS THE sha256 OF THE DUMP (.gsa) THAT YtddooigcnbpliaaProg.lean LOADS. Nothing in Lean hashes anything: it is a label: what it is worth is what the hold of that sum in a sandbox is worth. -/
noncomputable def Try.pinned : Pinned := { name := "ytddooigcnbpliaa", sum := "fb85faed8794a79209217cd61ae352c4216d99be54be38a6b54b9dfaabca922a", checked := Try.checked }
namespace Rows
def none {H : Type} : Left H := { results := [], args := [] }

/-- 'billiardlaw13.SegmentMatchesReference': WHATEVER THE INPUT: true; the input reads as it did. -/
def segmentMatchesReferenceSpec : ChangeSpec := { name := "segmentMatchesReference", fn := fun _ => fun
  | [d1, d2, d3, d4] => { results := [.lit (.bool true)], args := [d1, d2, d3, d4] }
  | _ => none }
def segmentMatchesReferenceRow : OpenClaim := { program := "ytddooigcnbpliaa", sum := "fb85faed8794a79209217cd61ae352c4216d99be54be38a6b54b9dfaabca922a", func := "billiard/billiardlaw13.SegmentMatchesReference", spec := "segmentMatchesReference", unfollowed := true, recurses := true, named := ["math/bits.divideError", "math/bits.overflowError"], apart := false }
def SegmentMatchesReferenceSaid : Prop := segmentMatchesReferenceRow.holds Try.pinned (OpenSpec.ofChange segmentMatchesReferenceSpec)

/-- ITS FALSE NEIGHBOUR: 'it returns false'. Refute it at one input. -/
def segmentMatchesReferenceWrong : ChangeSpec := { name := "segmentMatchesReference", fn := fun _ => fun
  | [d1, d2, d3, d4] => { results := [.lit (.bool false)], args := [d1, d2, d3, d4] }
  | _ => none }
def SegmentMatchesReferenceWrongFalsely : Prop := segmentMatchesReferenceRow.holds Try.pinned (OpenSpec.ofChange segmentMatchesReferenceWrong)

/-- 'billiardlaw13.SegmentLeast': WHATEVER THE INPUT: true; the input reads as it did. -/
def segmentLeastSpec : ChangeSpec := { name := "segmentLeast", fn := fun _ => fun
  | [d1, d2, d3, d4] => { results := [.lit (.bool true)], args := [d1, d2, d3, d4] }
  | _ => none }
def segmentLeastRow : OpenClaim := { program := "ytddooigcnbpliaa", sum := "fb85faed8794a79209217cd61ae352c4216d99be54be38a6b54b9dfaabca922a", func := "billiard/billiardlaw13.SegmentLeast", spec := "segmentLeast", unfollowed := true, recurses := true, named := ["math/bits.divideError", "math/bits.overflowError"], apart := false }
def SegmentLeastSaid : Prop := segmentLeastRow.holds Try.pinned (OpenSpec.ofChange segmentLeastSpec)

/-- ITS FALSE NEIGHBOUR: 'it returns false'. Refute it at one input. -/
def segmentLeastWrong : ChangeSpec := { name := "segmentLeast", fn := fun _ => fun
  | [d1, d2, d3, d4] => { results := [.lit (.bool false)], args := [d1, d2, d3, d4] }
  | _ => none }
def SegmentLeastWrongFalsely : Prop := segmentLeastRow.holds Try.pinned (OpenSpec.ofChange segmentLeastWrong)

/-- 'billiardlaw13.SegmentSymmetric': WHATEVER THE INPUT: true; the input reads as it did. -/
def segmentSymmetricSpec : ChangeSpec := { name := "segmentSymmetric", fn := fun _ => fun
  | [d1, d2, d3, d4] => { results := [.lit (.bool true)], args := [d1, d2, d3, d4] }
  | _ => none }
def segmentSymmetricRow : OpenClaim := { program := "ytddooigcnbpliaa", sum := "fb85faed8794a79209217cd61ae352c4216d99be54be38a6b54b9dfaabca922a", func := "billiard/billiardlaw13.SegmentSymmetric", spec := "segmentSymmetric", unfollowed := true, recurses := true, named := ["math/bits.divideError", "math/bits.overflowError"], apart := false }
def SegmentSymmetricSaid : Prop := segmentSymmetricRow.holds Try.pinned (OpenSpec.ofChange segmentSymmetricSpec)

/-- ITS FALSE NEIGHBOUR: 'it returns false'. Refute it at one input. -/
def segmentSymmetricWrong : ChangeSpec := { name := "segmentSymmetric", fn := fun _ => fun
  | [d1, d2, d3, d4] => { results := [.lit (.bool false)], args := [d1, d2, d3, d4] }
  | _ => none }
def SegmentSymmetricWrongFalsely : Prop := segmentSymmetricRow.holds Try.pinned (OpenSpec.ofChange segmentSymmetricWrong)

/-- 'billiardlaw13.SegmentMoves': WHATEVER THE INPUT: true; the input reads as it did. -/
def segmentMovesSpec : ChangeSpec := { name := "segmentMoves", fn := fun _ => fun
  | [d1, d2, d3, d4, d5] => { results := [.lit (.bool true)], args := [d1, d2, d3, d4, d5] }
  | _ => none }
def segmentMovesRow : OpenClaim := { program := "ytddooigcnbpliaa", sum := "fb85faed8794a79209217cd61ae352c4216d99be54be38a6b54b9dfaabca922a", func := "billiard/billiardlaw13.SegmentMoves", spec := "segmentMoves", unfollowed := true, recurses := true, named := ["math/bits.divideError", "math/bits.overflowError"], apart := false }
def SegmentMovesSaid : Prop := segmentMovesRow.holds Try.pinned (OpenSpec.ofChange segmentMovesSpec)

/-- ITS FALSE NEIGHBOUR: 'it returns false'. Refute it at one input. -/
def segmentMovesWrong : ChangeSpec := { name := "segmentMoves", fn := fun _ => fun
  | [d1, d2, d3, d4, d5] => { results := [.lit (.bool false)], args := [d1, d2, d3, d4, d5] }
  | _ => none }
def SegmentMovesWrongFalsely : Prop := segmentMovesRow.holds Try.pinned (OpenSpec.ofChange segmentMovesWrong)

/-- 'billiardlaw13.SegmentPoints': WHATEVER THE INPUT: true; the input reads as it did. -/
def segmentPointsSpec : ChangeSpec := { name := "segmentPoints", fn := fun _ => fun
  | [d1, d2, d3] => { results := [.lit (.bool true)], args := [d1, d2, d3] }
  | _ => none }
def segmentPointsRow : OpenClaim := { program := "ytddooigcnbpliaa", sum := "fb85faed8794a79209217cd61ae352c4216d99be54be38a6b54b9dfaabca922a", func := "billiard/billiardlaw13.SegmentPoints", spec := "segmentPoints", unfollowed := true, recurses := true, named := ["math/bits.divideError", "math/bits.overflowError"], apart := false }
def SegmentPointsSaid : Prop := segmentPointsRow.holds Try.pinned (OpenSpec.ofChange segmentPointsSpec)

/-- ITS FALSE NEIGHBOUR: 'it returns false'. Refute it at one input. -/
def segmentPointsWrong : ChangeSpec := { name := "segmentPoints", fn := fun _ => fun
  | [d1, d2, d3] => { results := [.lit (.bool false)], args := [d1, d2, d3] }
  | _ => none }
def SegmentPointsWrongFalsely : Prop := segmentPointsRow.holds Try.pinned (OpenSpec.ofChange segmentPointsWrong)

/- THE SECOND FORM. 'bulk': how many values and letters a reading holds, each counted each time it is reached (what is shared counts as often as it is met; a slice's spare places count too). A statement '..UptoSaid' is the law's where the arguments, and the package variables that the reading takes, are together of bulk at most 1048576: NARROWER than '..Said'. Prove '..Said' where nothing that the law and all that it calls make is longer than what came in: it says more and counts as full. Else prove '..UptoSaid'. A law counts once. -/
mutual
def uptoBulk {H : Type} : DataW H → Nat
  | .lit (.string bytes) => bytes.length + 1
  | .lit _ => 1
  | .nil => 1
  | .ptr d => uptoBulk d + 1
  | .slice elems spare => uptoBulkAll elems + uptoBulkAll spare + 1
  | .agg parts => uptoBulkAll parts + 1
  | .iface _ d => uptoBulk d + 1
  | .map entries => uptoBulkEntries entries + 1
  | .held _ => 1
def uptoBulkAll {H : Type} : List (DataW H) → Nat
  | [] => 0
  | d :: r => uptoBulk d + uptoBulkAll r
def uptoBulkEntries {H : Type} : List (Lit × DataW H) → Nat
  | [] => 0
  | x :: r => uptoBulkEntry x + uptoBulkEntries r
def uptoBulkEntry {H : Type} : Lit × DataW H → Nat
  | (.string bytes, d) => bytes.length + uptoBulk d + 1
  | (_, d) => uptoBulk d + 1
 end
def uptoSmall : (H : Type) → List (DataW H) → Bool := fun _ ds => decide (uptoBulkAll ds ≤ 1048576)
def OpenSpec.upto (s : _root_.Go.ChangeSpec) : _root_.Go.OpenSpec := { _root_.Go.OpenSpec.ofChange s with cond := some uptoSmall }

/-- 'billiardlaw13.SegmentMatchesReference', WHERE WHAT IT READS IS OF BULK AT MOST 1048576: true; the input reads as it did. -/
def segmentMatchesReferenceUptoRow : OpenClaim := { program := "ytddooigcnbpliaa", sum := "fb85faed8794a79209217cd61ae352c4216d99be54be38a6b54b9dfaabca922a", func := "billiard/billiardlaw13.SegmentMatchesReference", spec := "segmentMatchesReference", unfollowed := true, recurses := true, named := ["math/bits.divideError", "math/bits.overflowError"], apart := false, narrowed := true }
def SegmentMatchesReferenceUptoSaid : Prop := segmentMatchesReferenceUptoRow.holds Try.pinned (OpenSpec.upto segmentMatchesReferenceSpec)

/-- 'billiardlaw13.SegmentLeast', WHERE WHAT IT READS IS OF BULK AT MOST 1048576: true; the input reads as it did. -/
def segmentLeastUptoRow : OpenClaim := { program := "ytddooigcnbpliaa", sum := "fb85faed8794a79209217cd61ae352c4216d99be54be38a6b54b9dfaabca922a", func := "billiard/billiardlaw13.SegmentLeast", spec := "segmentLeast", unfollowed := true, recurses := true, named := ["math/bits.divideError", "math/bits.overflowError"], apart := false, narrowed := true }
def SegmentLeastUptoSaid : Prop := segmentLeastUptoRow.holds Try.pinned (OpenSpec.upto segmentLeastSpec)

/-- 'billiardlaw13.SegmentSymmetric', WHERE WHAT IT READS IS OF BULK AT MOST 1048576: true; the input reads as it did. -/
def segmentSymmetricUptoRow : OpenClaim := { program := "ytddooigcnbpliaa", sum := "fb85faed8794a79209217cd61ae352c4216d99be54be38a6b54b9dfaabca922a", func := "billiard/billiardlaw13.SegmentSymmetric", spec := "segmentSymmetric", unfollowed := true, recurses := true, named := ["math/bits.divideError", "math/bits.overflowError"], apart := false, narrowed := true }
def SegmentSymmetricUptoSaid : Prop := segmentSymmetricUptoRow.holds Try.pinned (OpenSpec.upto segmentSymmetricSpec)

/-- 'billiardlaw13.SegmentMoves', WHERE WHAT IT READS IS OF BULK AT MOST 1048576: true; the input reads as it did. -/
def segmentMovesUptoRow : OpenClaim := { program := "ytddooigcnbpliaa", sum := "fb85faed8794a79209217cd61ae352c4216d99be54be38a6b54b9dfaabca922a", func := "billiard/billiardlaw13.SegmentMoves", spec := "segmentMoves", unfollowed := true, recurses := true, named := ["math/bits.divideError", "math/bits.overflowError"], apart := false, narrowed := true }
def SegmentMovesUptoSaid : Prop := segmentMovesUptoRow.holds Try.pinned (OpenSpec.upto segmentMovesSpec)

/-- 'billiardlaw13.SegmentPoints', WHERE WHAT IT READS IS OF BULK AT MOST 1048576: true; the input reads as it did. -/
def segmentPointsUptoRow : OpenClaim := { program := "ytddooigcnbpliaa", sum := "fb85faed8794a79209217cd61ae352c4216d99be54be38a6b54b9dfaabca922a", func := "billiard/billiardlaw13.SegmentPoints", spec := "segmentPoints", unfollowed := true, recurses := true, named := ["math/bits.divideError", "math/bits.overflowError"], apart := false, narrowed := true }
def SegmentPointsUptoSaid : Prop := segmentPointsUptoRow.holds Try.pinned (OpenSpec.upto segmentPointsSpec)

end Rows
end Go.Proofs.Ytddooigcnbpliaa
