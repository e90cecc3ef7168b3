/-
  No cell of these rows narrows 'for every input' (looked for: loops, veiled, ifaces, maps, wideKeys, modest, calm, conditions, laid).
  DERIVED. THE GIVEN ROWS OF THIS SEAT. 5 by the template 'for every input the law returns true; each argument reads behind the call as it read before'; 0 by the template 'total and deterministic' (their statements: YtahbfafnodeimaaTotals.lean).
  GIVEN WITH THE SEED: the statements are not yours to turn. If you find one false, say at which input.
  Laid BY PROGRAM, IN A SANDBOX (cutbox-rows.mjs): the forced cells as the released guide's own fill.sh prints them over the translation e371bdfef80b02ed… (all of the seat's roots in one cut). By AI agents, Wed Nov 11 2026. No macro, syntax, notation, axiom, sorry.
-/
import Derived.Test.YtahbfafnodeimaaChecked
import GoSem.Claim
import GoSem.ClaimJoined
import GoSem.ClaimMapViews
import Derived.JoinedTies
import Derived.KernelRfl
namespace Go.Proofs.Ytahbfafnodeimaa
/- THE CELL 'sum', in the pinned program and in every row, IS THE sha256 OF THE DUMP (.gsa) THAT YtahbfafnodeimaaProg.lean LOADS. Nothing in Lean hashes anything: it is a label: what it is worth is what the hold of that sum in a sandbox is worth. -/
noncomputable def Try.pinned : Pinned := { name := "ytahbfafnodeimaa", sum := "e371bdfef80b02ed65d60407ab217081b27ce00fa8d860928cafaa0102ffc96d", checked := Try.checked }
namespace Rows
def none {H : Type} : Left H := { results := [], args := [] }

/-- 'billiardlaw14.ContactMatchesReference': WHATEVER THE INPUT: true; the input reads as it did. -/
def contactMatchesReferenceSpec : ChangeSpec := { name := "contactMatchesReference", fn := fun _ => fun
  | [d1, d2] => { results := [.lit (.bool true)], args := [d1, d2] }
  | _ => none }
def contactMatchesReferenceRow : OpenClaim := { program := "ytahbfafnodeimaa", sum := "e371bdfef80b02ed65d60407ab217081b27ce00fa8d860928cafaa0102ffc96d", func := "billiard/billiardlaw14.ContactMatchesReference", spec := "contactMatchesReference", unfollowed := true, recurses := true, named := ["math/bits.divideError", "math/bits.overflowError"], apart := false }
def ContactMatchesReferenceSaid : Prop := contactMatchesReferenceRow.holds Try.pinned (OpenSpec.ofChange contactMatchesReferenceSpec)

/-- ITS FALSE NEIGHBOUR: 'it returns false'. Refute it at one input. -/
def contactMatchesReferenceWrong : ChangeSpec := { name := "contactMatchesReference", fn := fun _ => fun
  | [d1, d2] => { results := [.lit (.bool false)], args := [d1, d2] }
  | _ => none }
def ContactMatchesReferenceWrongFalsely : Prop := contactMatchesReferenceRow.holds Try.pinned (OpenSpec.ofChange contactMatchesReferenceWrong)

/-- 'billiardlaw14.ContactDepth': WHATEVER THE INPUT: true; the input reads as it did. -/
def contactDepthSpec : ChangeSpec := { name := "contactDepth", fn := fun _ => fun
  | [d1, d2] => { results := [.lit (.bool true)], args := [d1, d2] }
  | _ => none }
def contactDepthRow : OpenClaim := { program := "ytahbfafnodeimaa", sum := "e371bdfef80b02ed65d60407ab217081b27ce00fa8d860928cafaa0102ffc96d", func := "billiard/billiardlaw14.ContactDepth", spec := "contactDepth", unfollowed := true, recurses := true, named := ["math/bits.divideError", "math/bits.overflowError"], apart := false }
def ContactDepthSaid : Prop := contactDepthRow.holds Try.pinned (OpenSpec.ofChange contactDepthSpec)

/-- ITS FALSE NEIGHBOUR: 'it returns false'. Refute it at one input. -/
def contactDepthWrong : ChangeSpec := { name := "contactDepth", fn := fun _ => fun
  | [d1, d2] => { results := [.lit (.bool false)], args := [d1, d2] }
  | _ => none }
def ContactDepthWrongFalsely : Prop := contactDepthRow.holds Try.pinned (OpenSpec.ofChange contactDepthWrong)

/-- 'billiardlaw14.ContactSymmetric': WHATEVER THE INPUT: true; the input reads as it did. -/
def contactSymmetricSpec : ChangeSpec := { name := "contactSymmetric", fn := fun _ => fun
  | [d1, d2] => { results := [.lit (.bool true)], args := [d1, d2] }
  | _ => none }
def contactSymmetricRow : OpenClaim := { program := "ytahbfafnodeimaa", sum := "e371bdfef80b02ed65d60407ab217081b27ce00fa8d860928cafaa0102ffc96d", func := "billiard/billiardlaw14.ContactSymmetric", spec := "contactSymmetric", unfollowed := true, recurses := true, named := ["math/bits.divideError", "math/bits.overflowError"], apart := false }
def ContactSymmetricSaid : Prop := contactSymmetricRow.holds Try.pinned (OpenSpec.ofChange contactSymmetricSpec)

/-- ITS FALSE NEIGHBOUR: 'it returns false'. Refute it at one input. -/
def contactSymmetricWrong : ChangeSpec := { name := "contactSymmetric", fn := fun _ => fun
  | [d1, d2] => { results := [.lit (.bool false)], args := [d1, d2] }
  | _ => none }
def ContactSymmetricWrongFalsely : Prop := contactSymmetricRow.holds Try.pinned (OpenSpec.ofChange contactSymmetricWrong)

/-- 'billiardlaw14.ContactMoves': WHATEVER THE INPUT: true; the input reads as it did. -/
def contactMovesSpec : ChangeSpec := { name := "contactMoves", fn := fun _ => fun
  | [d1, d2, d3] => { results := [.lit (.bool true)], args := [d1, d2, d3] }
  | _ => none }
def contactMovesRow : OpenClaim := { program := "ytahbfafnodeimaa", sum := "e371bdfef80b02ed65d60407ab217081b27ce00fa8d860928cafaa0102ffc96d", func := "billiard/billiardlaw14.ContactMoves", spec := "contactMoves", unfollowed := true, recurses := true, named := ["math/bits.divideError", "math/bits.overflowError"], apart := false }
def ContactMovesSaid : Prop := contactMovesRow.holds Try.pinned (OpenSpec.ofChange contactMovesSpec)

/-- ITS FALSE NEIGHBOUR: 'it returns false'. Refute it at one input. -/
def contactMovesWrong : ChangeSpec := { name := "contactMoves", fn := fun _ => fun
  | [d1, d2, d3] => { results := [.lit (.bool false)], args := [d1, d2, d3] }
  | _ => none }
def ContactMovesWrongFalsely : Prop := contactMovesRow.holds Try.pinned (OpenSpec.ofChange contactMovesWrong)

/-- 'billiardlaw14.ContactGrows': WHATEVER THE INPUT: true; the input reads as it did. -/
def contactGrowsSpec : ChangeSpec := { name := "contactGrows", fn := fun _ => fun
  | [d1, d2, d3] => { results := [.lit (.bool true)], args := [d1, d2, d3] }
  | _ => none }
def contactGrowsRow : OpenClaim := { program := "ytahbfafnodeimaa", sum := "e371bdfef80b02ed65d60407ab217081b27ce00fa8d860928cafaa0102ffc96d", func := "billiard/billiardlaw14.ContactGrows", spec := "contactGrows", unfollowed := true, recurses := true, named := ["math/bits.divideError", "math/bits.overflowError"], apart := false }
def ContactGrowsSaid : Prop := contactGrowsRow.holds Try.pinned (OpenSpec.ofChange contactGrowsSpec)

/-- ITS FALSE NEIGHBOUR: 'it returns false'. Refute it at one input. -/
def contactGrowsWrong : ChangeSpec := { name := "contactGrows", fn := fun _ => fun
  | [d1, d2, d3] => { results := [.lit (.bool false)], args := [d1, d2, d3] }
  | _ => none }
def ContactGrowsWrongFalsely : Prop := contactGrowsRow.holds Try.pinned (OpenSpec.ofChange contactGrowsWrong)

/- THE SECOND FORM. 'bulk': how many values and letters a reading holds, each counted each time it is reached (what is shared counts as often as it is met; a slice's spare places count too). A statement '..UptoSaid' is the law's where the arguments, and the package variables that the reading takes, are together of bulk at most 1048576: NARROWER than '..Said'. Prove '..Said' where nothing that the law and all that it calls make is longer than what came in: it says more and counts as full. Else prove '..UptoSaid'. A law counts once. -/
mutual
def uptoBulk {H : Type} : DataW H → Nat
  | .lit (.string bytes) => bytes.length + 1
  | .lit _ => 1
  | .nil => 1
  | .ptr d => uptoBulk d + 1
  | .slice elems spare => uptoBulkAll elems + uptoBulkAll spare + 1
  | .agg parts => uptoBulkAll parts + 1
  | .iface _ d => uptoBulk d + 1
  | .map entries => uptoBulkEntries entries + 1
  | .held _ => 1
def uptoBulkAll {H : Type} : List (DataW H) → Nat
  | [] => 0
  | d :: r => uptoBulk d + uptoBulkAll r
def uptoBulkEntries {H : Type} : List (Lit × DataW H) → Nat
  | [] => 0
  | x :: r => uptoBulkEntry x + uptoBulkEntries r
def uptoBulkEntry {H : Type} : Lit × DataW H → Nat
  | (.string bytes, d) => bytes.length + uptoBulk d + 1
  | (_, d) => uptoBulk d + 1
 end
def uptoSmall : (H : Type) → List (DataW H) → Bool := fun _ ds => decide (uptoBulkAll ds ≤ 1048576)
def OpenSpec.upto (s : _root_.Go.ChangeSpec) : _root_.Go.OpenSpec := { _root_.Go.OpenSpec.ofChange s with cond := some uptoSmall }

/-- 'billiardlaw14.ContactMatchesReference', WHERE WHAT IT READS IS OF BULK AT MOST 1048576: true; the input reads as it did. -/
def contactMatchesReferenceUptoRow : OpenClaim := { program := "ytahbfafnodeimaa", sum := "e371bdfef80b02ed65d60407ab217081b27ce00fa8d860928cafaa0102ffc96d", func := "billiard/billiardlaw14.ContactMatchesReference", spec := "contactMatchesReference", unfollowed := true, recurses := true, named := ["math/bits.divideError", "math/bits.overflowError"], apart := false, narrowed := true }
def ContactMatchesReferenceUptoSaid : Prop := contactMatchesReferenceUptoRow.holds Try.pinned (OpenSpec.upto contactMatchesReferenceSpec)

/-- 'billiardlaw14.ContactDepth', WHERE WHAT IT READS IS OF BULK AT MOST 1048576: true; the input reads as it did. -/
def contactDepthUptoRow : OpenClaim := { program := "ytahbfafnodeimaa", sum := "e371bdfef80b02ed65d60407ab217081b27ce00fa8d860928cafaa0102ffc96d", func := "billiard/billiardlaw14.ContactDepth", spec := "contactDepth", unfollowed := true, recurses := true, named := ["math/bits.divideError", "math/bits.overflowError"], apart := false, narrowed := true }
def ContactDepthUptoSaid : Prop := contactDepthUptoRow.holds Try.pinned (OpenSpec.upto contactDepthSpec)

/-- 'billiardlaw14.ContactSymmetric', WHERE WHAT IT READS IS OF BULK AT MOST 1048576: true; the input reads as it did. -/
def contactSymmetricUptoRow : OpenClaim := { program := "ytahbfafnodeimaa", sum := "e371bdfef80b02ed65d60407ab217081b27ce00fa8d860928cafaa0102ffc96d", func := "billiard/billiardlaw14.ContactSymmetric", spec := "contactSymmetric", unfollowed := true, recurses := true, named := ["math/bits.divideError", "math/bits.overflowError"], apart := false, narrowed := true }
def ContactSymmetricUptoSaid : Prop := contactSymmetricUptoRow.holds Try.pinned (OpenSpec.upto contactSymmetricSpec)

/-- 'billiardlaw14.ContactMoves', WHERE WHAT IT READS IS OF BULK AT MOST 1048576: true; the input reads as it did. -/
def contactMovesUptoRow : OpenClaim := { program := "ytahbfafnodeimaa", sum := "e371bdfef80b02ed65d60407ab217081b27ce00fa8d860928cafaa0102ffc96d", func := "billiard/billiardlaw14.ContactMoves", spec := "contactMoves", unfollowed := true, recurses := true, named := ["math/bits.divideError", "math/bits.overflowError"], apart := false, narrowed := true }
def ContactMovesUptoSaid : Prop := contactMovesUptoRow.holds Try.pinned (OpenSpec.upto contactMovesSpec)

/-- 'billiardlaw14.ContactGrows', WHERE WHAT IT READS IS OF BULK AT MOST 1048576: true; the input reads as it did. -/
def contactGrowsUptoRow : OpenClaim := { program := "ytahbfafnodeimaa", sum := "e371bdfef80b02ed65d60407ab217081b27ce00fa8d860928cafaa0102ffc96d", func := "billiard/billiardlaw14.ContactGrows", spec := "contactGrows", unfollowed := true, recurses := true, named := ["math/bits.divideError", "math/bits.overflowError"], apart := false, narrowed := true }
def ContactGrowsUptoSaid : Prop := contactGrowsUptoRow.holds Try.pinned (OpenSpec.upto contactGrowsSpec)

end Rows
end Go.Proofs.Ytahbfafnodeimaa
