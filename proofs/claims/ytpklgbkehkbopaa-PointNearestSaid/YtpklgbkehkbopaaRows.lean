/-
  No cell of these rows narrows 'for every input' (looked for: loops, veiled, ifaces, maps, wideKeys, modest, calm, conditions, laid).
  DERIVED. THE GIVEN ROWS OF THIS SEAT. 5 by the template 'for every input the law returns true; each argument reads behind the call as it read before'; 0 by the template 'total and deterministic' (their statements: YtpklgbkehkbopaaTotals.lean).
  GIVEN WITH THE SEED: the statements are not yours to turn. If you find one false, say at which input.
  Laid BY PROGRAM, IN A SANDBOX (cutbox-rows.mjs): the forced cells as the released guide's own fill.sh prints them over the translation ca19f49e3c169e09… (all of the seat's roots in one cut). By AI agents, Wed Nov 11 2026. No macro, syntax, notation, axiom, sorry.
-/
import Derived.Test.YtpklgbkehkbopaaChecked
import GoSem.Claim
import GoSem.ClaimJoined
import GoSem.ClaimMapViews
import Derived.JoinedTies
import Derived.KernelRfl
namespace Go.Proofs.Ytpklgbkehkbopaa
/- THE CELL 'sum', in the pinned program and in every row, IS THE sha256 OF THE DUMP (.gsa) THAT YtpklgbkehkbopaaProg.lean LOADS. Nothing in Lean hashes anything: it is a label: what it is worth is what the hold of that sum in a sandbox is worth. -/
noncomputable def Try.pinned : Pinned := { name := "ytpklgbkehkbopaa", sum := "ca19f49e3c169e097d4be1592403c0f0335e91d6bd2d71cbeb23700f53a2f59e", checked := Try.checked }
namespace Rows
def none {H : Type} : Left H := { results := [], args := [] }

/-- 'billiardlaw12.PointMatchesReference': WHATEVER THE INPUT: true; the input reads as it did. -/
def pointMatchesReferenceSpec : ChangeSpec := { name := "pointMatchesReference", fn := fun _ => fun
  | [d1, d2, d3] => { results := [.lit (.bool true)], args := [d1, d2, d3] }
  | _ => none }
def pointMatchesReferenceRow : OpenClaim := { program := "ytpklgbkehkbopaa", sum := "ca19f49e3c169e097d4be1592403c0f0335e91d6bd2d71cbeb23700f53a2f59e", func := "billiard/billiardlaw12.PointMatchesReference", spec := "pointMatchesReference", unfollowed := true, recurses := true, named := ["math/bits.divideError", "math/bits.overflowError"], apart := false }
def PointMatchesReferenceSaid : Prop := pointMatchesReferenceRow.holds Try.pinned (OpenSpec.ofChange pointMatchesReferenceSpec)

/-- ITS FALSE NEIGHBOUR: 'it returns false'. Refute it at one input. -/
def pointMatchesReferenceWrong : ChangeSpec := { name := "pointMatchesReference", fn := fun _ => fun
  | [d1, d2, d3] => { results := [.lit (.bool false)], args := [d1, d2, d3] }
  | _ => none }
def PointMatchesReferenceWrongFalsely : Prop := pointMatchesReferenceRow.holds Try.pinned (OpenSpec.ofChange pointMatchesReferenceWrong)

/-- 'billiardlaw12.PointNearest': WHATEVER THE INPUT: true; the input reads as it did. -/
def pointNearestSpec : ChangeSpec := { name := "pointNearest", fn := fun _ => fun
  | [d1, d2, d3] => { results := [.lit (.bool true)], args := [d1, d2, d3] }
  | _ => none }
def pointNearestRow : OpenClaim := { program := "ytpklgbkehkbopaa", sum := "ca19f49e3c169e097d4be1592403c0f0335e91d6bd2d71cbeb23700f53a2f59e", func := "billiard/billiardlaw12.PointNearest", spec := "pointNearest", unfollowed := true, recurses := true, named := ["math/bits.divideError", "math/bits.overflowError"], apart := false }
def PointNearestSaid : Prop := pointNearestRow.holds Try.pinned (OpenSpec.ofChange pointNearestSpec)

/-- ITS FALSE NEIGHBOUR: 'it returns false'. Refute it at one input. -/
def pointNearestWrong : ChangeSpec := { name := "pointNearest", fn := fun _ => fun
  | [d1, d2, d3] => { results := [.lit (.bool false)], args := [d1, d2, d3] }
  | _ => none }
def PointNearestWrongFalsely : Prop := pointNearestRow.holds Try.pinned (OpenSpec.ofChange pointNearestWrong)

/-- 'billiardlaw12.PointEnds': WHATEVER THE INPUT: true; the input reads as it did. -/
def pointEndsSpec : ChangeSpec := { name := "pointEnds", fn := fun _ => fun
  | [d1, d2, d3] => { results := [.lit (.bool true)], args := [d1, d2, d3] }
  | _ => none }
def pointEndsRow : OpenClaim := { program := "ytpklgbkehkbopaa", sum := "ca19f49e3c169e097d4be1592403c0f0335e91d6bd2d71cbeb23700f53a2f59e", func := "billiard/billiardlaw12.PointEnds", spec := "pointEnds", unfollowed := true, recurses := true, named := ["math/bits.divideError", "math/bits.overflowError"], apart := false }
def PointEndsSaid : Prop := pointEndsRow.holds Try.pinned (OpenSpec.ofChange pointEndsSpec)

/-- ITS FALSE NEIGHBOUR: 'it returns false'. Refute it at one input. -/
def pointEndsWrong : ChangeSpec := { name := "pointEnds", fn := fun _ => fun
  | [d1, d2, d3] => { results := [.lit (.bool false)], args := [d1, d2, d3] }
  | _ => none }
def PointEndsWrongFalsely : Prop := pointEndsRow.holds Try.pinned (OpenSpec.ofChange pointEndsWrong)

/-- 'billiardlaw12.PointMoves': WHATEVER THE INPUT: true; the input reads as it did. -/
def pointMovesSpec : ChangeSpec := { name := "pointMoves", fn := fun _ => fun
  | [d1, d2, d3, d4] => { results := [.lit (.bool true)], args := [d1, d2, d3, d4] }
  | _ => none }
def pointMovesRow : OpenClaim := { program := "ytpklgbkehkbopaa", sum := "ca19f49e3c169e097d4be1592403c0f0335e91d6bd2d71cbeb23700f53a2f59e", func := "billiard/billiardlaw12.PointMoves", spec := "pointMoves", unfollowed := true, recurses := true, named := ["math/bits.divideError", "math/bits.overflowError"], apart := false }
def PointMovesSaid : Prop := pointMovesRow.holds Try.pinned (OpenSpec.ofChange pointMovesSpec)

/-- ITS FALSE NEIGHBOUR: 'it returns false'. Refute it at one input. -/
def pointMovesWrong : ChangeSpec := { name := "pointMoves", fn := fun _ => fun
  | [d1, d2, d3, d4] => { results := [.lit (.bool false)], args := [d1, d2, d3, d4] }
  | _ => none }
def PointMovesWrongFalsely : Prop := pointMovesRow.holds Try.pinned (OpenSpec.ofChange pointMovesWrong)

/-- 'billiardlaw12.PointTurned': WHATEVER THE INPUT: true; the input reads as it did. -/
def pointTurnedSpec : ChangeSpec := { name := "pointTurned", fn := fun _ => fun
  | [d1, d2, d3] => { results := [.lit (.bool true)], args := [d1, d2, d3] }
  | _ => none }
def pointTurnedRow : OpenClaim := { program := "ytpklgbkehkbopaa", sum := "ca19f49e3c169e097d4be1592403c0f0335e91d6bd2d71cbeb23700f53a2f59e", func := "billiard/billiardlaw12.PointTurned", spec := "pointTurned", unfollowed := true, recurses := true, named := ["math/bits.divideError", "math/bits.overflowError"], apart := false }
def PointTurnedSaid : Prop := pointTurnedRow.holds Try.pinned (OpenSpec.ofChange pointTurnedSpec)

/-- ITS FALSE NEIGHBOUR: 'it returns false'. Refute it at one input. -/
def pointTurnedWrong : ChangeSpec := { name := "pointTurned", fn := fun _ => fun
  | [d1, d2, d3] => { results := [.lit (.bool false)], args := [d1, d2, d3] }
  | _ => none }
def PointTurnedWrongFalsely : Prop := pointTurnedRow.holds Try.pinned (OpenSpec.ofChange pointTurnedWrong)

/- THE SECOND FORM. 'bulk': how many values and letters a reading holds, each counted each time it is reached (what is shared counts as often as it is met; a slice's spare places count too). A statement '..UptoSaid' is the law's where the arguments, and the package variables that the reading takes, are together of bulk at most 1048576: NARROWER than '..Said'. Prove '..Said' where nothing that the law and all that it calls make is longer than what came in: it says more and counts as full. Else prove '..UptoSaid'. A law counts once. -/
mutual
def uptoBulk {H : Type} : DataW H → Nat
  | .lit (.string bytes) => bytes.length + 1
  | .lit _ => 1
  | .nil => 1
  | .ptr d => uptoBulk d + 1
  | .slice elems spare => uptoBulkAll elems + uptoBulkAll spare + 1
  | .agg parts => uptoBulkAll parts + 1
  | .iface _ d => uptoBulk d + 1
  | .map entries => uptoBulkEntries entries + 1
  | .held _ => 1
def uptoBulkAll {H : Type} : List (DataW H) → Nat
  | [] => 0
  | d :: r => uptoBulk d + uptoBulkAll r
def uptoBulkEntries {H : Type} : List (Lit × DataW H) → Nat
  | [] => 0
  | x :: r => uptoBulkEntry x + uptoBulkEntries r
def uptoBulkEntry {H : Type} : Lit × DataW H → Nat
  | (.string bytes, d) => bytes.length + uptoBulk d + 1
  | (_, d) => uptoBulk d + 1
 end
def uptoSmall : (H : Type) → List (DataW H) → Bool := fun _ ds => decide (uptoBulkAll ds ≤ 1048576)
def OpenSpec.upto (s : _root_.Go.ChangeSpec) : _root_.Go.OpenSpec := { _root_.Go.OpenSpec.ofChange s with cond := some uptoSmall }

/-- 'billiardlaw12.PointMatchesReference', WHERE WHAT IT READS IS OF BULK AT MOST 1048576: true; the input reads as it did. -/
def pointMatchesReferenceUptoRow : OpenClaim := { program := "ytpklgbkehkbopaa", sum := "ca19f49e3c169e097d4be1592403c0f0335e91d6bd2d71cbeb23700f53a2f59e", func := "billiard/billiardlaw12.PointMatchesReference", spec := "pointMatchesReference", unfollowed := true, recurses := true, named := ["math/bits.divideError", "math/bits.overflowError"], apart := false, narrowed := true }
def PointMatchesReferenceUptoSaid : Prop := pointMatchesReferenceUptoRow.holds Try.pinned (OpenSpec.upto pointMatchesReferenceSpec)

/-- 'billiardlaw12.PointNearest', WHERE WHAT IT READS IS OF BULK AT MOST 1048576: true; the input reads as it did. -/
def pointNearestUptoRow : OpenClaim := { program := "ytpklgbkehkbopaa", sum := "ca19f49e3c169e097d4be1592403c0f0335e91d6bd2d71cbeb23700f53a2f59e", func := "billiard/billiardlaw12.PointNearest", spec := "pointNearest", unfollowed := true, recurses := true, named := ["math/bits.divideError", "math/bits.overflowError"], apart := false, narrowed := true }
def PointNearestUptoSaid : Prop := pointNearestUptoRow.holds Try.pinned (OpenSpec.upto pointNearestSpec)

/-- 'billiardlaw12.PointEnds', WHERE WHAT IT READS IS OF BULK AT MOST 1048576: true; the input reads as it did. -/
def pointEndsUptoRow : OpenClaim := { program := "ytpklgbkehkbopaa", sum := "ca19f49e3c169e097d4be1592403c0f0335e91d6bd2d71cbeb23700f53a2f59e", func := "billiard/billiardlaw12.PointEnds", spec := "pointEnds", unfollowed := true, recurses := true, named := ["math/bits.divideError", "math/bits.overflowError"], apart := false, narrowed := true }
def PointEndsUptoSaid : Prop := pointEndsUptoRow.holds Try.pinned (OpenSpec.upto pointEndsSpec)

/-- 'billiardlaw12.PointMoves', WHERE WHAT IT READS IS OF BULK AT MOST 1048576: true; the input reads as it did. -/
def pointMovesUptoRow : OpenClaim := { program := "ytpklgbkehkbopaa", sum := "ca19f49e3c169e097d4be1592403c0f0335e91d6bd2d71cbeb23700f53a2f59e", func := "billiard/billiardlaw12.PointMoves", spec := "pointMoves", unfollowed := true, recurses := true, named := ["math/bits.divideError", "math/bits.overflowError"], apart := false, narrowed := true }
def PointMovesUptoSaid : Prop := pointMovesUptoRow.holds Try.pinned (OpenSpec.upto pointMovesSpec)

/-- 'billiardlaw12.PointTurned', WHERE WHAT IT READS IS OF BULK AT MOST 1048576: true; the input reads as it did. -/
def pointTurnedUptoRow : OpenClaim := { program := "ytpklgbkehkbopaa", sum := "ca19f49e3c169e097d4be1592403c0f0335e91d6bd2d71cbeb23700f53a2f59e", func := "billiard/billiardlaw12.PointTurned", spec := "pointTurned", unfollowed := true, recurses := true, named := ["math/bits.divideError", "math/bits.overflowError"], apart := false, narrowed := true }
def PointTurnedUptoSaid : Prop := pointTurnedUptoRow.holds Try.pinned (OpenSpec.upto pointTurnedSpec)

end Rows
end Go.Proofs.Ytpklgbkehkbopaa
