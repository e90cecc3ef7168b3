/-
  NARROWER THAN 'FOR EVERY INPUT', by the rows' own cells (each row's printed sentence says how): BoxMatchesReference: laid · BoxMeets: laid · BoxSymmetric: laid · BoxGrows: laid.
  DERIVED. THE GIVEN ROWS OF THIS SEAT. 4 by the template 'for every input the law returns true; each argument reads behind the call as it read before'; 0 by the template 'total and deterministic' (their statements: YtniiffbcdjoelaaDoorTotals.lean).
  GIVEN WITH THE SEED: the statements are not yours to turn. If you find one false, say at which input.
  Laid BY PROGRAM, IN A SANDBOX (cutbox-rows.mjs): the forced cells as the released guide's own fill.sh prints them over the translation ee1ac372455f54c8… (all of the seat's roots in one cut). By AI agents, Wed Nov 11 2026. No macro, syntax, notation, axiom, sorry.
-/
import Derived.Test.YtniiffbcdjoelaaDoorChecked
import GoSem.Claim
import GoSem.ClaimJoined
import GoSem.ClaimMapViews
import Derived.JoinedTies
import Derived.KernelRfl
namespace Go.Proofs.YtniiffbcdjoelaaDoor
/- THE CELL 'sum', in the pinned program and in every row, IS THE sha256 OF THE DUMP (.gsa) THAT YtniiffbcdjoelaaDoorProg.lean LOADS. Nothing in Lean hashes anything: it is a label: what it is worth is what the hold of that sum in a sandbox is worth. -/
noncomputable def Tryd.pinned : Pinned := { name := "ytniiffbcdjoelaadoor", sum := "ee1ac372455f54c83848bdd2e20db55914ed8024c36e1aa46f8a1fe8af3ce951", checked := Tryd.checked }
namespace Rows
def none {H : Type} : Left H := { results := [], args := [] }

/- WHAT THE LISTED PACKAGE-LEVEL VARIABLES READ AS WHEN THE CALL BEGINS. Each datum BY PROGRAM (the guide's laid-datum.mjs) off the statement by which the dump's own 'gosem.cut.vars' lays the variable. In a bare row this is a premise. The card (YtniiffbcdjoelaaDoorCards.lean) ties it to the program's text. -/
def laid_billiard_box_none {H : Type} : DataW H := .agg [.lit (.int .i32 1), .lit (.int .i32 0), .lit (.int .i32 0), .lit (.int .i32 0)]

/-- 'billiardlaw08.BoxMatchesReference': WHATEVER THE INPUT: true; the input reads as it did. -/
def boxMatchesReferenceSpec : ChangeSpec := { name := "boxMatchesReference", fn := fun _ => fun
  | [d1, d2, d3, d4] => { results := [.lit (.bool true)], args := [d1, d2, d3, d4] }
  | _ => none }
def boxMatchesReferenceRow : OpenClaim := { program := "ytniiffbcdjoelaadoor", sum := "ee1ac372455f54c83848bdd2e20db55914ed8024c36e1aa46f8a1fe8af3ce951", func := "billiard/billiardlaw08.BoxMatchesReference", spec := "boxMatchesReference", named := ["billiard/box.none"], apart := false, laid := [("billiard/box.none", laid_billiard_box_none)] }
def BoxMatchesReferenceSaid : Prop := boxMatchesReferenceRow.holds Tryd.pinned (OpenSpec.ofChange boxMatchesReferenceSpec)

/-- ITS FALSE NEIGHBOUR: 'it returns false'. Refute it at one input. -/
def boxMatchesReferenceWrong : ChangeSpec := { name := "boxMatchesReference", fn := fun _ => fun
  | [d1, d2, d3, d4] => { results := [.lit (.bool false)], args := [d1, d2, d3, d4] }
  | _ => none }
def BoxMatchesReferenceWrongFalsely : Prop := boxMatchesReferenceRow.holds Tryd.pinned (OpenSpec.ofChange boxMatchesReferenceWrong)

/-- 'billiardlaw08.BoxMeets': WHATEVER THE INPUT: true; the input reads as it did. -/
def boxMeetsSpec : ChangeSpec := { name := "boxMeets", fn := fun _ => fun
  | [d1, d2, d3] => { results := [.lit (.bool true)], args := [d1, d2, d3] }
  | _ => none }
def boxMeetsRow : OpenClaim := { program := "ytniiffbcdjoelaadoor", sum := "ee1ac372455f54c83848bdd2e20db55914ed8024c36e1aa46f8a1fe8af3ce951", func := "billiard/billiardlaw08.BoxMeets", spec := "boxMeets", named := ["billiard/box.none"], apart := false, laid := [("billiard/box.none", laid_billiard_box_none)] }
def BoxMeetsSaid : Prop := boxMeetsRow.holds Tryd.pinned (OpenSpec.ofChange boxMeetsSpec)

/-- ITS FALSE NEIGHBOUR: 'it returns false'. Refute it at one input. -/
def boxMeetsWrong : ChangeSpec := { name := "boxMeets", fn := fun _ => fun
  | [d1, d2, d3] => { results := [.lit (.bool false)], args := [d1, d2, d3] }
  | _ => none }
def BoxMeetsWrongFalsely : Prop := boxMeetsRow.holds Tryd.pinned (OpenSpec.ofChange boxMeetsWrong)

/-- 'billiardlaw08.BoxSymmetric': WHATEVER THE INPUT: true; the input reads as it did. -/
def boxSymmetricSpec : ChangeSpec := { name := "boxSymmetric", fn := fun _ => fun
  | [d1, d2] => { results := [.lit (.bool true)], args := [d1, d2] }
  | _ => none }
def boxSymmetricRow : OpenClaim := { program := "ytniiffbcdjoelaadoor", sum := "ee1ac372455f54c83848bdd2e20db55914ed8024c36e1aa46f8a1fe8af3ce951", func := "billiard/billiardlaw08.BoxSymmetric", spec := "boxSymmetric", named := ["billiard/box.none"], apart := false, laid := [("billiard/box.none", laid_billiard_box_none)] }
def BoxSymmetricSaid : Prop := boxSymmetricRow.holds Tryd.pinned (OpenSpec.ofChange boxSymmetricSpec)

/-- ITS FALSE NEIGHBOUR: 'it returns false'. Refute it at one input. -/
def boxSymmetricWrong : ChangeSpec := { name := "boxSymmetric", fn := fun _ => fun
  | [d1, d2] => { results := [.lit (.bool false)], args := [d1, d2] }
  | _ => none }
def BoxSymmetricWrongFalsely : Prop := boxSymmetricRow.holds Tryd.pinned (OpenSpec.ofChange boxSymmetricWrong)

/-- 'billiardlaw08.BoxGrows': WHATEVER THE INPUT: true; the input reads as it did. -/
def boxGrowsSpec : ChangeSpec := { name := "boxGrows", fn := fun _ => fun
  | [d1, d2] => { results := [.lit (.bool true)], args := [d1, d2] }
  | _ => none }
def boxGrowsRow : OpenClaim := { program := "ytniiffbcdjoelaadoor", sum := "ee1ac372455f54c83848bdd2e20db55914ed8024c36e1aa46f8a1fe8af3ce951", func := "billiard/billiardlaw08.BoxGrows", spec := "boxGrows", named := ["billiard/box.none"], apart := false, laid := [("billiard/box.none", laid_billiard_box_none)] }
def BoxGrowsSaid : Prop := boxGrowsRow.holds Tryd.pinned (OpenSpec.ofChange boxGrowsSpec)

/-- ITS FALSE NEIGHBOUR: 'it returns false'. Refute it at one input. -/
def boxGrowsWrong : ChangeSpec := { name := "boxGrows", fn := fun _ => fun
  | [d1, d2] => { results := [.lit (.bool false)], args := [d1, d2] }
  | _ => none }
def BoxGrowsWrongFalsely : Prop := boxGrowsRow.holds Tryd.pinned (OpenSpec.ofChange boxGrowsWrong)

/- THE SECOND FORM. 'bulk': how many values and letters a reading holds, each counted each time it is reached (what is shared counts as often as it is met; a slice's spare places count too). A statement '..UptoSaid' is the law's where the arguments, and the package variables that the reading takes, are together of bulk at most 1048576: NARROWER than '..Said'. Prove '..Said' where nothing that the law and all that it calls make is longer than what came in: it says more and counts as full. Else prove '..UptoSaid'. A law counts once. -/
mutual
def uptoBulk {H : Type} : DataW H → Nat
  | .lit (.string bytes) => bytes.length + 1
  | .lit _ => 1
  | .nil => 1
  | .ptr d => uptoBulk d + 1
  | .slice elems spare => uptoBulkAll elems + uptoBulkAll spare + 1
  | .agg parts => uptoBulkAll parts + 1
  | .iface _ d => uptoBulk d + 1
  | .map entries => uptoBulkEntries entries + 1
  | .held _ => 1
def uptoBulkAll {H : Type} : List (DataW H) → Nat
  | [] => 0
  | d :: r => uptoBulk d + uptoBulkAll r
def uptoBulkEntries {H : Type} : List (Lit × DataW H) → Nat
  | [] => 0
  | x :: r => uptoBulkEntry x + uptoBulkEntries r
def uptoBulkEntry {H : Type} : Lit × DataW H → Nat
  | (.string bytes, d) => bytes.length + uptoBulk d + 1
  | (_, d) => uptoBulk d + 1
 end
def uptoSmall : (H : Type) → List (DataW H) → Bool := fun _ ds => decide (uptoBulkAll ds ≤ 1048576)
def OpenSpec.upto (s : _root_.Go.ChangeSpec) : _root_.Go.OpenSpec := { _root_.Go.OpenSpec.ofChange s with cond := some uptoSmall }

/-- 'billiardlaw08.BoxMatchesReference', WHERE WHAT IT READS IS OF BULK AT MOST 1048576: true; the input reads as it did. -/
def boxMatchesReferenceUptoRow : OpenClaim := { program := "ytniiffbcdjoelaadoor", sum := "ee1ac372455f54c83848bdd2e20db55914ed8024c36e1aa46f8a1fe8af3ce951", func := "billiard/billiardlaw08.BoxMatchesReference", spec := "boxMatchesReference", named := ["billiard/box.none"], apart := false, laid := [("billiard/box.none", laid_billiard_box_none)], narrowed := true }
def BoxMatchesReferenceUptoSaid : Prop := boxMatchesReferenceUptoRow.holds Tryd.pinned (OpenSpec.upto boxMatchesReferenceSpec)

/-- 'billiardlaw08.BoxMeets', WHERE WHAT IT READS IS OF BULK AT MOST 1048576: true; the input reads as it did. -/
def boxMeetsUptoRow : OpenClaim := { program := "ytniiffbcdjoelaadoor", sum := "ee1ac372455f54c83848bdd2e20db55914ed8024c36e1aa46f8a1fe8af3ce951", func := "billiard/billiardlaw08.BoxMeets", spec := "boxMeets", named := ["billiard/box.none"], apart := false, laid := [("billiard/box.none", laid_billiard_box_none)], narrowed := true }
def BoxMeetsUptoSaid : Prop := boxMeetsUptoRow.holds Tryd.pinned (OpenSpec.upto boxMeetsSpec)

/-- 'billiardlaw08.BoxSymmetric', WHERE WHAT IT READS IS OF BULK AT MOST 1048576: true; the input reads as it did. -/
def boxSymmetricUptoRow : OpenClaim := { program := "ytniiffbcdjoelaadoor", sum := "ee1ac372455f54c83848bdd2e20db55914ed8024c36e1aa46f8a1fe8af3ce951", func := "billiard/billiardlaw08.BoxSymmetric", spec := "boxSymmetric", named := ["billiard/box.none"], apart := false, laid := [("billiard/box.none", laid_billiard_box_none)], narrowed := true }
def BoxSymmetricUptoSaid : Prop := boxSymmetricUptoRow.holds Tryd.pinned (OpenSpec.upto boxSymmetricSpec)

/-- 'billiardlaw08.BoxGrows', WHERE WHAT IT READS IS OF BULK AT MOST 1048576: true; the input reads as it did. -/
def boxGrowsUptoRow : OpenClaim := { program := "ytniiffbcdjoelaadoor", sum := "ee1ac372455f54c83848bdd2e20db55914ed8024c36e1aa46f8a1fe8af3ce951", func := "billiard/billiardlaw08.BoxGrows", spec := "boxGrows", named := ["billiard/box.none"], apart := false, laid := [("billiard/box.none", laid_billiard_box_none)], narrowed := true }
def BoxGrowsUptoSaid : Prop := boxGrowsUptoRow.holds Tryd.pinned (OpenSpec.upto boxGrowsSpec)

end Rows
end Go.Proofs.YtniiffbcdjoelaaDoor
