/-
  No cell of these rows narrows 'for every input' (looked for: loops, veiled, ifaces, maps, wideKeys, modest, calm, conditions, laid).
  DERIVED. THE GIVEN ROWS OF THIS SEAT. 5 by the template 'for every input the law returns true; each argument reads behind the call as it read before'; 0 by the template 'total and deterministic' (their statements: YtjgeakahbelgiaaTotals.lean).
  GIVEN WITH THE SEED: the statements are not yours to turn. If you find one false, say at which input.
  Laid BY PROGRAM, IN A SANDBOX (cutbox-rows.mjs): the forced cells as the released guide's own fill.sh prints them over the translation d4a396d44a9846e3… (all of the seat's roots in one cut). By AI agents, Wed Nov 11 2026. No macro, syntax, notation, axiom, sorry.
-/
import Derived.Test.YtjgeakahbelgiaaChecked
import GoSem.Claim
import GoSem.ClaimJoined
import GoSem.ClaimMapViews
import Derived.JoinedTies
import Derived.KernelRfl
namespace Go.Proofs.Ytjgeakahbelgiaa
/- THE CELL 'sum', in the pinned program and in every row, IS THE sha256 OF THE DUMP (.gsa) THAT YtjgeakahbelgiaaProg.lean LOADS. Nothing in Lean hashes anything: it is a label: what it is worth is what the hold of that sum in a sandbox is worth. -/
noncomputable def Try.pinned : Pinned := { name := "ytjgeakahbelgiaa", sum := "d4a396d44a9846e3fd08ba32c30b6286695f53f2898474b18d48b5a0920a1240", checked := Try.checked }
namespace Rows
def none {H : Type} : Left H := { results := [], args := [] }

/-- 'billiardlaw04.VecUnit': WHATEVER THE INPUT: true; the input reads as it did. -/
def vecUnitSpec : ChangeSpec := { name := "vecUnit", fn := fun _ => fun
  | [d1, d2] => { results := [.lit (.bool true)], args := [d1, d2] }
  | _ => none }
def vecUnitRow : OpenClaim := { program := "ytjgeakahbelgiaa", sum := "d4a396d44a9846e3fd08ba32c30b6286695f53f2898474b18d48b5a0920a1240", func := "billiard/billiardlaw04.VecUnit", spec := "vecUnit", unfollowed := true, recurses := true, apart := false }
def VecUnitSaid : Prop := vecUnitRow.holds Try.pinned (OpenSpec.ofChange vecUnitSpec)

/-- ITS FALSE NEIGHBOUR: 'it returns false'. Refute it at one input. -/
def vecUnitWrong : ChangeSpec := { name := "vecUnit", fn := fun _ => fun
  | [d1, d2] => { results := [.lit (.bool false)], args := [d1, d2] }
  | _ => none }
def VecUnitWrongFalsely : Prop := vecUnitRow.holds Try.pinned (OpenSpec.ofChange vecUnitWrong)

/-- 'billiardlaw04.VecSymmetric': WHATEVER THE INPUT: true; the input reads as it did. -/
def vecSymmetricSpec : ChangeSpec := { name := "vecSymmetric", fn := fun _ => fun
  | [d1, d2, d3, d4] => { results := [.lit (.bool true)], args := [d1, d2, d3, d4] }
  | _ => none }
def vecSymmetricRow : OpenClaim := { program := "ytjgeakahbelgiaa", sum := "d4a396d44a9846e3fd08ba32c30b6286695f53f2898474b18d48b5a0920a1240", func := "billiard/billiardlaw04.VecSymmetric", spec := "vecSymmetric", unfollowed := true, recurses := true, apart := false }
def VecSymmetricSaid : Prop := vecSymmetricRow.holds Try.pinned (OpenSpec.ofChange vecSymmetricSpec)

/-- ITS FALSE NEIGHBOUR: 'it returns false'. Refute it at one input. -/
def vecSymmetricWrong : ChangeSpec := { name := "vecSymmetric", fn := fun _ => fun
  | [d1, d2, d3, d4] => { results := [.lit (.bool false)], args := [d1, d2, d3, d4] }
  | _ => none }
def VecSymmetricWrongFalsely : Prop := vecSymmetricRow.holds Try.pinned (OpenSpec.ofChange vecSymmetricWrong)

/-- 'billiardlaw04.VecLength': WHATEVER THE INPUT: true; the input reads as it did. -/
def vecLengthSpec : ChangeSpec := { name := "vecLength", fn := fun _ => fun
  | [d1, d2] => { results := [.lit (.bool true)], args := [d1, d2] }
  | _ => none }
def vecLengthRow : OpenClaim := { program := "ytjgeakahbelgiaa", sum := "d4a396d44a9846e3fd08ba32c30b6286695f53f2898474b18d48b5a0920a1240", func := "billiard/billiardlaw04.VecLength", spec := "vecLength", unfollowed := true, recurses := true, apart := false }
def VecLengthSaid : Prop := vecLengthRow.holds Try.pinned (OpenSpec.ofChange vecLengthSpec)

/-- ITS FALSE NEIGHBOUR: 'it returns false'. Refute it at one input. -/
def vecLengthWrong : ChangeSpec := { name := "vecLength", fn := fun _ => fun
  | [d1, d2] => { results := [.lit (.bool false)], args := [d1, d2] }
  | _ => none }
def VecLengthWrongFalsely : Prop := vecLengthRow.holds Try.pinned (OpenSpec.ofChange vecLengthWrong)

/-- 'billiardlaw04.VecTriangle': WHATEVER THE INPUT: true; the input reads as it did. -/
def vecTriangleSpec : ChangeSpec := { name := "vecTriangle", fn := fun _ => fun
  | [d1, d2, d3, d4] => { results := [.lit (.bool true)], args := [d1, d2, d3, d4] }
  | _ => none }
def vecTriangleRow : OpenClaim := { program := "ytjgeakahbelgiaa", sum := "d4a396d44a9846e3fd08ba32c30b6286695f53f2898474b18d48b5a0920a1240", func := "billiard/billiardlaw04.VecTriangle", spec := "vecTriangle", unfollowed := true, recurses := true, apart := false }
def VecTriangleSaid : Prop := vecTriangleRow.holds Try.pinned (OpenSpec.ofChange vecTriangleSpec)

/-- ITS FALSE NEIGHBOUR: 'it returns false'. Refute it at one input. -/
def vecTriangleWrong : ChangeSpec := { name := "vecTriangle", fn := fun _ => fun
  | [d1, d2, d3, d4] => { results := [.lit (.bool false)], args := [d1, d2, d3, d4] }
  | _ => none }
def VecTriangleWrongFalsely : Prop := vecTriangleRow.holds Try.pinned (OpenSpec.ofChange vecTriangleWrong)

/-- 'billiardlaw04.VecMatchesReference': WHATEVER THE INPUT: true; the input reads as it did. -/
def vecMatchesReferenceSpec : ChangeSpec := { name := "vecMatchesReference", fn := fun _ => fun
  | [d1, d2, d3, d4, d5] => { results := [.lit (.bool true)], args := [d1, d2, d3, d4, d5] }
  | _ => none }
def vecMatchesReferenceRow : OpenClaim := { program := "ytjgeakahbelgiaa", sum := "d4a396d44a9846e3fd08ba32c30b6286695f53f2898474b18d48b5a0920a1240", func := "billiard/billiardlaw04.VecMatchesReference", spec := "vecMatchesReference", unfollowed := true, recurses := true, apart := false }
def VecMatchesReferenceSaid : Prop := vecMatchesReferenceRow.holds Try.pinned (OpenSpec.ofChange vecMatchesReferenceSpec)

/-- ITS FALSE NEIGHBOUR: 'it returns false'. Refute it at one input. -/
def vecMatchesReferenceWrong : ChangeSpec := { name := "vecMatchesReference", fn := fun _ => fun
  | [d1, d2, d3, d4, d5] => { results := [.lit (.bool false)], args := [d1, d2, d3, d4, d5] }
  | _ => none }
def VecMatchesReferenceWrongFalsely : Prop := vecMatchesReferenceRow.holds Try.pinned (OpenSpec.ofChange vecMatchesReferenceWrong)

/- THE SECOND FORM. 'bulk': how many values and letters a reading holds, each counted each time it is reached (what is shared counts as often as it is met; a slice's spare places count too). A statement '..UptoSaid' is the law's where the arguments, and the package variables that the reading takes, are together of bulk at most 1048576: NARROWER than '..Said'. Prove '..Said' where nothing that the law and all that it calls make is longer than what came in: it says more and counts as full. Else prove '..UptoSaid'. A law counts once. -/
mutual
def uptoBulk {H : Type} : DataW H → Nat
  | .lit (.string bytes) => bytes.length + 1
  | .lit _ => 1
  | .nil => 1
  | .ptr d => uptoBulk d + 1
  | .slice elems spare => uptoBulkAll elems + uptoBulkAll spare + 1
  | .agg parts => uptoBulkAll parts + 1
  | .iface _ d => uptoBulk d + 1
  | .map entries => uptoBulkEntries entries + 1
  | .held _ => 1
def uptoBulkAll {H : Type} : List (DataW H) → Nat
  | [] => 0
  | d :: r => uptoBulk d + uptoBulkAll r
def uptoBulkEntries {H : Type} : List (Lit × DataW H) → Nat
  | [] => 0
  | x :: r => uptoBulkEntry x + uptoBulkEntries r
def uptoBulkEntry {H : Type} : Lit × DataW H → Nat
  | (.string bytes, d) => bytes.length + uptoBulk d + 1
  | (_, d) => uptoBulk d + 1
 end
def uptoSmall : (H : Type) → List (DataW H) → Bool := fun _ ds => decide (uptoBulkAll ds ≤ 1048576)
def OpenSpec.upto (s : _root_.Go.ChangeSpec) : _root_.Go.OpenSpec := { _root_.Go.OpenSpec.ofChange s with cond := some uptoSmall }

/-- 'billiardlaw04.VecUnit', WHERE WHAT IT READS IS OF BULK AT MOST 1048576: true; the input reads as it did. -/
def vecUnitUptoRow : OpenClaim := { program := "ytjgeakahbelgiaa", sum := "d4a396d44a9846e3fd08ba32c30b6286695f53f2898474b18d48b5a0920a1240", func := "billiard/billiardlaw04.VecUnit", spec := "vecUnit", unfollowed := true, recurses := true, apart := false, narrowed := true }
def VecUnitUptoSaid : Prop := vecUnitUptoRow.holds Try.pinned (OpenSpec.upto vecUnitSpec)

/-- 'billiardlaw04.VecSymmetric', WHERE WHAT IT READS IS OF BULK AT MOST 1048576: true; the input reads as it did. -/
def vecSymmetricUptoRow : OpenClaim := { program := "ytjgeakahbelgiaa", sum := "d4a396d44a9846e3fd08ba32c30b6286695f53f2898474b18d48b5a0920a1240", func := "billiard/billiardlaw04.VecSymmetric", spec := "vecSymmetric", unfollowed := true, recurses := true, apart := false, narrowed := true }
def VecSymmetricUptoSaid : Prop := vecSymmetricUptoRow.holds Try.pinned (OpenSpec.upto vecSymmetricSpec)

/-- 'billiardlaw04.VecLength', WHERE WHAT IT READS IS OF BULK AT MOST 1048576: true; the input reads as it did. -/
def vecLengthUptoRow : OpenClaim := { program := "ytjgeakahbelgiaa", sum := "d4a396d44a9846e3fd08ba32c30b6286695f53f2898474b18d48b5a0920a1240", func := "billiard/billiardlaw04.VecLength", spec := "vecLength", unfollowed := true, recurses := true, apart := false, narrowed := true }
def VecLengthUptoSaid : Prop := vecLengthUptoRow.holds Try.pinned (OpenSpec.upto vecLengthSpec)

/-- 'billiardlaw04.VecTriangle', WHERE WHAT IT READS IS OF BULK AT MOST 1048576: true; the input reads as it did. -/
def vecTriangleUptoRow : OpenClaim := { program := "ytjgeakahbelgiaa", sum := "d4a396d44a9846e3fd08ba32c30b6286695f53f2898474b18d48b5a0920a1240", func := "billiard/billiardlaw04.VecTriangle", spec := "vecTriangle", unfollowed := true, recurses := true, apart := false, narrowed := true }
def VecTriangleUptoSaid : Prop := vecTriangleUptoRow.holds Try.pinned (OpenSpec.upto vecTriangleSpec)

/-- 'billiardlaw04.VecMatchesReference', WHERE WHAT IT READS IS OF BULK AT MOST 1048576: true; the input reads as it did. -/
def vecMatchesReferenceUptoRow : OpenClaim := { program := "ytjgeakahbelgiaa", sum := "d4a396d44a9846e3fd08ba32c30b6286695f53f2898474b18d48b5a0920a1240", func := "billiard/billiardlaw04.VecMatchesReference", spec := "vecMatchesReference", unfollowed := true, recurses := true, apart := false, narrowed := true }
def VecMatchesReferenceUptoSaid : Prop := vecMatchesReferenceUptoRow.holds Try.pinned (OpenSpec.upto vecMatchesReferenceSpec)

end Rows
end Go.Proofs.Ytjgeakahbelgiaa
