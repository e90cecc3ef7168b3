/-
  No cell of these rows narrows 'for every input' (looked for: loops, veiled, ifaces, maps, wideKeys, modest, calm, conditions, laid).
  DERIVED. THE GIVEN ROWS OF THIS SEAT. 4 by the template 'for every input the law returns true; each argument reads behind the call as it read before'; 0 by the template 'total and deterministic' (their statements: YtabcnaceffpekaaTotals.lean).
  GIVEN WITH THE SEED: the statements are not yours to turn. If you find one false, say at which input.
  Laid BY PROGRAM, IN A SANDBOX (cutbox-rows.mjs): the forced cells as the released guide's own fill.sh prints them over the translation ad2965be61497fb0… (all of the seat's roots in one cut). By AI agents, Wed Nov 11 2026. No macro, syntax, notation, axiom, sorry.
-/
import Derived.Test.YtabcnaceffpekaaChecked
import GoSem.Claim
import GoSem.ClaimJoined
import GoSem.ClaimMapViews
import Derived.JoinedTies
import Derived.KernelRfl
namespace Go.Proofs.Ytabcnaceffpekaa
/- THE CELL 'sum', in the pinned program and in every row, IS THE sha256 OF THE DUMP (.gsa) THAT YtabcnaceffpekaaProg.lean LOADS. Nothing in Lean hashes anything: it is a label: what it is worth is what the hold of that sum in a sandbox is worth. -/
noncomputable def Try.pinned : Pinned := { name := "ytabcnaceffpekaa", sum := "ad2965be61497fb09a325d42714888e88138130a74dd22895349032c13d8133f", checked := Try.checked }
namespace Rows
def none {H : Type} : Left H := { results := [], args := [] }

/-- 'billiardlaw24.QueryMatchesReference': WHATEVER THE INPUT: true; the input reads as it did. -/
def queryMatchesReferenceSpec : ChangeSpec := { name := "queryMatchesReference", fn := fun _ => fun
  | [d1, d2, d3] => { results := [.lit (.bool true)], args := [d1, d2, d3] }
  | _ => none }
def queryMatchesReferenceRow : OpenClaim := { program := "ytabcnaceffpekaa", sum := "ad2965be61497fb09a325d42714888e88138130a74dd22895349032c13d8133f", func := "billiard/billiardlaw24.QueryMatchesReference", spec := "queryMatchesReference", unfollowed := true, recurses := true, apart := false }
def QueryMatchesReferenceSaid : Prop := queryMatchesReferenceRow.holds Try.pinned (OpenSpec.ofChange queryMatchesReferenceSpec)

/-- ITS FALSE NEIGHBOUR: 'it returns false'. Refute it at one input. -/
def queryMatchesReferenceWrong : ChangeSpec := { name := "queryMatchesReference", fn := fun _ => fun
  | [d1, d2, d3] => { results := [.lit (.bool false)], args := [d1, d2, d3] }
  | _ => none }
def QueryMatchesReferenceWrongFalsely : Prop := queryMatchesReferenceRow.holds Try.pinned (OpenSpec.ofChange queryMatchesReferenceWrong)

/-- 'billiardlaw24.QueryClosest': WHATEVER THE INPUT: true; the input reads as it did. -/
def queryClosestSpec : ChangeSpec := { name := "queryClosest", fn := fun _ => fun
  | [d1, d2] => { results := [.lit (.bool true)], args := [d1, d2] }
  | _ => none }
def queryClosestRow : OpenClaim := { program := "ytabcnaceffpekaa", sum := "ad2965be61497fb09a325d42714888e88138130a74dd22895349032c13d8133f", func := "billiard/billiardlaw24.QueryClosest", spec := "queryClosest", unfollowed := true, recurses := true, apart := false }
def QueryClosestSaid : Prop := queryClosestRow.holds Try.pinned (OpenSpec.ofChange queryClosestSpec)

/-- ITS FALSE NEIGHBOUR: 'it returns false'. Refute it at one input. -/
def queryClosestWrong : ChangeSpec := { name := "queryClosest", fn := fun _ => fun
  | [d1, d2] => { results := [.lit (.bool false)], args := [d1, d2] }
  | _ => none }
def QueryClosestWrongFalsely : Prop := queryClosestRow.holds Try.pinned (OpenSpec.ofChange queryClosestWrong)

/-- 'billiardlaw24.QueryBodies': WHATEVER THE INPUT: true; the input reads as it did. -/
def queryBodiesSpec : ChangeSpec := { name := "queryBodies", fn := fun _ => fun
  | [d1, d2] => { results := [.lit (.bool true)], args := [d1, d2] }
  | _ => none }
def queryBodiesRow : OpenClaim := { program := "ytabcnaceffpekaa", sum := "ad2965be61497fb09a325d42714888e88138130a74dd22895349032c13d8133f", func := "billiard/billiardlaw24.QueryBodies", spec := "queryBodies", unfollowed := true, recurses := true, apart := false }
def QueryBodiesSaid : Prop := queryBodiesRow.holds Try.pinned (OpenSpec.ofChange queryBodiesSpec)

/-- ITS FALSE NEIGHBOUR: 'it returns false'. Refute it at one input. -/
def queryBodiesWrong : ChangeSpec := { name := "queryBodies", fn := fun _ => fun
  | [d1, d2] => { results := [.lit (.bool false)], args := [d1, d2] }
  | _ => none }
def QueryBodiesWrongFalsely : Prop := queryBodiesRow.holds Try.pinned (OpenSpec.ofChange queryBodiesWrong)

/-- 'billiardlaw24.QueryNear': WHATEVER THE INPUT: true; the input reads as it did. -/
def queryNearSpec : ChangeSpec := { name := "queryNear", fn := fun _ => fun
  | [d1, d2, d3, d4] => { results := [.lit (.bool true)], args := [d1, d2, d3, d4] }
  | _ => none }
def queryNearRow : OpenClaim := { program := "ytabcnaceffpekaa", sum := "ad2965be61497fb09a325d42714888e88138130a74dd22895349032c13d8133f", func := "billiard/billiardlaw24.QueryNear", spec := "queryNear", unfollowed := true, recurses := true, apart := false }
def QueryNearSaid : Prop := queryNearRow.holds Try.pinned (OpenSpec.ofChange queryNearSpec)

/-- ITS FALSE NEIGHBOUR: 'it returns false'. Refute it at one input. -/
def queryNearWrong : ChangeSpec := { name := "queryNear", fn := fun _ => fun
  | [d1, d2, d3, d4] => { results := [.lit (.bool false)], args := [d1, d2, d3, d4] }
  | _ => none }
def QueryNearWrongFalsely : Prop := queryNearRow.holds Try.pinned (OpenSpec.ofChange queryNearWrong)

/- THE SECOND FORM. 'bulk': how many values and letters a reading holds, each counted each time it is reached (what is shared counts as often as it is met; a slice's spare places count too). A statement '..UptoSaid' is the law's where the arguments, and the package variables that the reading takes, are together of bulk at most 1048576: NARROWER than '..Said'. Prove '..Said' where nothing that the law and all that it calls make is longer than what came in: it says more and counts as full. Else prove '..UptoSaid'. A law counts once. -/
mutual
def uptoBulk {H : Type} : DataW H → Nat
  | .lit (.string bytes) => bytes.length + 1
  | .lit _ => 1
  | .nil => 1
  | .ptr d => uptoBulk d + 1
  | .slice elems spare => uptoBulkAll elems + uptoBulkAll spare + 1
  | .agg parts => uptoBulkAll parts + 1
  | .iface _ d => uptoBulk d + 1
  | .map entries => uptoBulkEntries entries + 1
  | .held _ => 1
def uptoBulkAll {H : Type} : List (DataW H) → Nat
  | [] => 0
  | d :: r => uptoBulk d + uptoBulkAll r
def uptoBulkEntries {H : Type} : List (Lit × DataW H) → Nat
  | [] => 0
  | x :: r => uptoBulkEntry x + uptoBulkEntries r
def uptoBulkEntry {H : Type} : Lit × DataW H → Nat
  | (.string bytes, d) => bytes.length + uptoBulk d + 1
  | (_, d) => uptoBulk d + 1
 end
def uptoSmall : (H : Type) → List (DataW H) → Bool := fun _ ds => decide (uptoBulkAll ds ≤ 1048576)
def OpenSpec.upto (s : _root_.Go.ChangeSpec) : _root_.Go.OpenSpec := { _root_.Go.OpenSpec.ofChange s with cond := some uptoSmall }

/-- 'billiardlaw24.QueryMatchesReference', WHERE WHAT IT READS IS OF BULK AT MOST 1048576: true; the input reads as it did. -/
def queryMatchesReferenceUptoRow : OpenClaim := { program := "ytabcnaceffpekaa", sum := "ad2965be61497fb09a325d42714888e88138130a74dd22895349032c13d8133f", func := "billiard/billiardlaw24.QueryMatchesReference", spec := "queryMatchesReference", unfollowed := true, recurses := true, apart := false, narrowed := true }
def QueryMatchesReferenceUptoSaid : Prop := queryMatchesReferenceUptoRow.holds Try.pinned (OpenSpec.upto queryMatchesReferenceSpec)

/-- 'billiardlaw24.QueryClosest', WHERE WHAT IT READS IS OF BULK AT MOST 1048576: true; the input reads as it did. -/
def queryClosestUptoRow : OpenClaim := { program := "ytabcnaceffpekaa", sum := "ad2965be61497fb09a325d42714888e88138130a74dd22895349032c13d8133f", func := "billiard/billiardlaw24.QueryClosest", spec := "queryClosest", unfollowed := true, recurses := true, apart := false, narrowed := true }
def QueryClosestUptoSaid : Prop := queryClosestUptoRow.holds Try.pinned (OpenSpec.upto queryClosestSpec)

/-- 'billiardlaw24.QueryBodies', WHERE WHAT IT READS IS OF BULK AT MOST 1048576: true; the input reads as it did. -/
def queryBodiesUptoRow : OpenClaim := { program := "ytabcnaceffpekaa", sum := "ad2965be61497fb09a325d42714888e88138130a74dd22895349032c13d8133f", func := "billiard/billiardlaw24.QueryBodies", spec := "queryBodies", unfollowed := true, recurses := true, apart := false, narrowed := true }
def QueryBodiesUptoSaid : Prop := queryBodiesUptoRow.holds Try.pinned (OpenSpec.upto queryBodiesSpec)

/-- 'billiardlaw24.QueryNear', WHERE WHAT IT READS IS OF BULK AT MOST 1048576: true; the input reads as it did. -/
def queryNearUptoRow : OpenClaim := { program := "ytabcnaceffpekaa", sum := "ad2965be61497fb09a325d42714888e88138130a74dd22895349032c13d8133f", func := "billiard/billiardlaw24.QueryNear", spec := "queryNear", unfollowed := true, recurses := true, apart := false, narrowed := true }
def QueryNearUptoSaid : Prop := queryNearUptoRow.holds Try.pinned (OpenSpec.upto queryNearSpec)

end Rows
end Go.Proofs.Ytabcnaceffpekaa
