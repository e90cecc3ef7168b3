/-
  NARROWER THAN 'FOR EVERY INPUT', by the rows' own cells (each row's printed sentence says how): CellMatchesReference: laid · CellNeighbours: laid · CellBodies: laid · CellBounds: laid · CellCovers: laid.
  DERIVED. THE GIVEN ROWS OF THIS SEAT. 5 by the template 'for every input the law returns true; each argument reads behind the call as it read before'; 0 by the template 'total and deterministic' (their statements: YticjhncpglcgnaaDoorTotals.lean).
  GIVEN WITH THE SEED: the statements are not yours to turn. If you find one false, say at which input.
  Laid BY PROGRAM, IN A SANDBOX (cutbox-rows.mjs): the forced cells as the released guide's own fill.sh prints them over the translation 9079d5db1b44c829… (all of the seat's roots in one cut). By AI agents, Wed Nov 11 2026. No macro, syntax, notation, axiom, sorry.
-/
import Derived.Test.YticjhncpglcgnaaDoorChecked
import GoSem.Claim
import GoSem.ClaimJoined
import GoSem.ClaimMapViews
import Derived.JoinedTies
import Derived.KernelRfl
namespace Go.Proofs.YticjhncpglcgnaaDoor
/- THE CELL 'sum', in the pinned program and in every row, IS THE sha256 OF THE DUMP (.gsa) THAT YticjhncpglcgnaaDoorProg.lean LOADS. Nothing in Lean hashes anything: it is a label: what it is worth is what the hold of that sum in a sandbox is worth. -/
noncomputable def Tryd.pinned : Pinned := { name := "yticjhncpglcgnaadoor", sum := "9079d5db1b44c829f5af0305b5b189fe40d3336308c90a95794cf280fe66a7af", checked := Tryd.checked }
namespace Rows
def none {H : Type} : Left H := { results := [], args := [] }

/- WHAT THE LISTED PACKAGE-LEVEL VARIABLES READ AS WHEN THE CALL BEGINS. Each datum BY PROGRAM (the guide's laid-datum.mjs) off the statement by which the dump's own 'gosem.cut.vars' lays the variable. In a bare row this is a premise. The card (YticjhncpglcgnaaDoorCards.lean) ties it to the program's text. -/
def laid_billiard_cell_factors {H : Type} : DataW H := .agg [.lit (.int .u32 73856093), .lit (.int .u32 19349663)]
def laid_billiard_box_none {H : Type} : DataW H := .agg [.lit (.int .i32 1), .lit (.int .i32 0), .lit (.int .i32 0), .lit (.int .i32 0)]

/-- 'billiardlaw09.CellMatchesReference': WHATEVER THE INPUT: true; the input reads as it did. -/
def cellMatchesReferenceSpec : ChangeSpec := { name := "cellMatchesReference", fn := fun _ => fun
  | [d1, d2, d3] => { results := [.lit (.bool true)], args := [d1, d2, d3] }
  | _ => none }
def cellMatchesReferenceRow : OpenClaim := { program := "yticjhncpglcgnaadoor", sum := "9079d5db1b44c829f5af0305b5b189fe40d3336308c90a95794cf280fe66a7af", func := "billiard/billiardlaw09.CellMatchesReference", spec := "cellMatchesReference", unfollowed := true, recurses := true, named := ["billiard/cell.factors"], apart := false, laid := [("billiard/cell.factors", laid_billiard_cell_factors)] }
def CellMatchesReferenceSaid : Prop := cellMatchesReferenceRow.holds Tryd.pinned (OpenSpec.ofChange cellMatchesReferenceSpec)

/-- ITS FALSE NEIGHBOUR: 'it returns false'. Refute it at one input. -/
def cellMatchesReferenceWrong : ChangeSpec := { name := "cellMatchesReference", fn := fun _ => fun
  | [d1, d2, d3] => { results := [.lit (.bool false)], args := [d1, d2, d3] }
  | _ => none }
def CellMatchesReferenceWrongFalsely : Prop := cellMatchesReferenceRow.holds Tryd.pinned (OpenSpec.ofChange cellMatchesReferenceWrong)

/-- 'billiardlaw09.CellNeighbours': WHATEVER THE INPUT: true; the input reads as it did. -/
def cellNeighboursSpec : ChangeSpec := { name := "cellNeighbours", fn := fun _ => fun
  | [d1, d2, d3] => { results := [.lit (.bool true)], args := [d1, d2, d3] }
  | _ => none }
def cellNeighboursRow : OpenClaim := { program := "yticjhncpglcgnaadoor", sum := "9079d5db1b44c829f5af0305b5b189fe40d3336308c90a95794cf280fe66a7af", func := "billiard/billiardlaw09.CellNeighbours", spec := "cellNeighbours", unfollowed := true, recurses := true, named := ["billiard/cell.factors"], apart := false, laid := [("billiard/cell.factors", laid_billiard_cell_factors)] }
def CellNeighboursSaid : Prop := cellNeighboursRow.holds Tryd.pinned (OpenSpec.ofChange cellNeighboursSpec)

/-- ITS FALSE NEIGHBOUR: 'it returns false'. Refute it at one input. -/
def cellNeighboursWrong : ChangeSpec := { name := "cellNeighbours", fn := fun _ => fun
  | [d1, d2, d3] => { results := [.lit (.bool false)], args := [d1, d2, d3] }
  | _ => none }
def CellNeighboursWrongFalsely : Prop := cellNeighboursRow.holds Tryd.pinned (OpenSpec.ofChange cellNeighboursWrong)

/-- 'billiardlaw09.CellBodies': WHATEVER THE INPUT: true; the input reads as it did. -/
def cellBodiesSpec : ChangeSpec := { name := "cellBodies", fn := fun _ => fun
  | [d1, d2] => { results := [.lit (.bool true)], args := [d1, d2] }
  | _ => none }
def cellBodiesRow : OpenClaim := { program := "yticjhncpglcgnaadoor", sum := "9079d5db1b44c829f5af0305b5b189fe40d3336308c90a95794cf280fe66a7af", func := "billiard/billiardlaw09.CellBodies", spec := "cellBodies", unfollowed := true, recurses := true, named := ["billiard/cell.factors"], apart := false, laid := [("billiard/cell.factors", laid_billiard_cell_factors)] }
def CellBodiesSaid : Prop := cellBodiesRow.holds Tryd.pinned (OpenSpec.ofChange cellBodiesSpec)

/-- ITS FALSE NEIGHBOUR: 'it returns false'. Refute it at one input. -/
def cellBodiesWrong : ChangeSpec := { name := "cellBodies", fn := fun _ => fun
  | [d1, d2] => { results := [.lit (.bool false)], args := [d1, d2] }
  | _ => none }
def CellBodiesWrongFalsely : Prop := cellBodiesRow.holds Tryd.pinned (OpenSpec.ofChange cellBodiesWrong)

/-- 'billiardlaw09.CellBounds': WHATEVER THE INPUT: true; the input reads as it did. -/
def cellBoundsSpec : ChangeSpec := { name := "cellBounds", fn := fun _ => fun
  | [d1, d2] => { results := [.lit (.bool true)], args := [d1, d2] }
  | _ => none }
def cellBoundsRow : OpenClaim := { program := "yticjhncpglcgnaadoor", sum := "9079d5db1b44c829f5af0305b5b189fe40d3336308c90a95794cf280fe66a7af", func := "billiard/billiardlaw09.CellBounds", spec := "cellBounds", unfollowed := true, recurses := true, named := ["billiard/cell.factors"], apart := false, laid := [("billiard/cell.factors", laid_billiard_cell_factors)] }
def CellBoundsSaid : Prop := cellBoundsRow.holds Tryd.pinned (OpenSpec.ofChange cellBoundsSpec)

/-- ITS FALSE NEIGHBOUR: 'it returns false'. Refute it at one input. -/
def cellBoundsWrong : ChangeSpec := { name := "cellBounds", fn := fun _ => fun
  | [d1, d2] => { results := [.lit (.bool false)], args := [d1, d2] }
  | _ => none }
def CellBoundsWrongFalsely : Prop := cellBoundsRow.holds Tryd.pinned (OpenSpec.ofChange cellBoundsWrong)

/-- 'billiardlaw09.CellCovers': WHATEVER THE INPUT: true; the input reads as it did. -/
def cellCoversSpec : ChangeSpec := { name := "cellCovers", fn := fun _ => fun
  | [d1, d2] => { results := [.lit (.bool true)], args := [d1, d2] }
  | _ => none }
def cellCoversRow : OpenClaim := { program := "yticjhncpglcgnaadoor", sum := "9079d5db1b44c829f5af0305b5b189fe40d3336308c90a95794cf280fe66a7af", func := "billiard/billiardlaw09.CellCovers", spec := "cellCovers", unfollowed := true, recurses := true, named := ["billiard/cell.factors", "billiard/box.none"], apart := false, laid := [("billiard/box.none", laid_billiard_box_none), ("billiard/cell.factors", laid_billiard_cell_factors)] }
def CellCoversSaid : Prop := cellCoversRow.holds Tryd.pinned (OpenSpec.ofChange cellCoversSpec)

/-- ITS FALSE NEIGHBOUR: 'it returns false'. Refute it at one input. -/
def cellCoversWrong : ChangeSpec := { name := "cellCovers", fn := fun _ => fun
  | [d1, d2] => { results := [.lit (.bool false)], args := [d1, d2] }
  | _ => none }
def CellCoversWrongFalsely : Prop := cellCoversRow.holds Tryd.pinned (OpenSpec.ofChange cellCoversWrong)

/- THE SECOND FORM. 'bulk': how many values and letters a reading holds, each counted each time it is reached (what is shared counts as often as it is met; a slice's spare places count too). A statement '..UptoSaid' is the law's where the arguments, and the package variables that the reading takes, are together of bulk at most 1048576: NARROWER than '..Said'. Prove '..Said' where nothing that the law and all that it calls make is longer than what came in: it says more and counts as full. Else prove '..UptoSaid'. A law counts once. -/
mutual
def uptoBulk {H : Type} : DataW H → Nat
  | .lit (.string bytes) => bytes.length + 1
  | .lit _ => 1
  | .nil => 1
  | .ptr d => uptoBulk d + 1
  | .slice elems spare => uptoBulkAll elems + uptoBulkAll spare + 1
  | .agg parts => uptoBulkAll parts + 1
  | .iface _ d => uptoBulk d + 1
  | .map entries => uptoBulkEntries entries + 1
  | .held _ => 1
def uptoBulkAll {H : Type} : List (DataW H) → Nat
  | [] => 0
  | d :: r => uptoBulk d + uptoBulkAll r
def uptoBulkEntries {H : Type} : List (Lit × DataW H) → Nat
  | [] => 0
  | x :: r => uptoBulkEntry x + uptoBulkEntries r
def uptoBulkEntry {H : Type} : Lit × DataW H → Nat
  | (.string bytes, d) => bytes.length + uptoBulk d + 1
  | (_, d) => uptoBulk d + 1
 end
def uptoSmall : (H : Type) → List (DataW H) → Bool := fun _ ds => decide (uptoBulkAll ds ≤ 1048576)
def OpenSpec.upto (s : _root_.Go.ChangeSpec) : _root_.Go.OpenSpec := { _root_.Go.OpenSpec.ofChange s with cond := some uptoSmall }

/-- 'billiardlaw09.CellMatchesReference', WHERE WHAT IT READS IS OF BULK AT MOST 1048576: true; the input reads as it did. -/
def cellMatchesReferenceUptoRow : OpenClaim := { program := "yticjhncpglcgnaadoor", sum := "9079d5db1b44c829f5af0305b5b189fe40d3336308c90a95794cf280fe66a7af", func := "billiard/billiardlaw09.CellMatchesReference", spec := "cellMatchesReference", unfollowed := true, recurses := true, named := ["billiard/cell.factors"], apart := false, laid := [("billiard/cell.factors", laid_billiard_cell_factors)], narrowed := true }
def CellMatchesReferenceUptoSaid : Prop := cellMatchesReferenceUptoRow.holds Tryd.pinned (OpenSpec.upto cellMatchesReferenceSpec)

/-- 'billiardlaw09.CellNeighbours', WHERE WHAT IT READS IS OF BULK AT MOST 1048576: true; the input reads as it did. -/
def cellNeighboursUptoRow : OpenClaim := { program := "yticjhncpglcgnaadoor", sum := "9079d5db1b44c829f5af0305b5b189fe40d3336308c90a95794cf280fe66a7af", func := "billiard/billiardlaw09.CellNeighbours", spec := "cellNeighbours", unfollowed := true, recurses := true, named := ["billiard/cell.factors"], apart := false, laid := [("billiard/cell.factors", laid_billiard_cell_factors)], narrowed := true }
def CellNeighboursUptoSaid : Prop := cellNeighboursUptoRow.holds Tryd.pinned (OpenSpec.upto cellNeighboursSpec)

/-- 'billiardlaw09.CellBodies', WHERE WHAT IT READS IS OF BULK AT MOST 1048576: true; the input reads as it did. -/
def cellBodiesUptoRow : OpenClaim := { program := "yticjhncpglcgnaadoor", sum := "9079d5db1b44c829f5af0305b5b189fe40d3336308c90a95794cf280fe66a7af", func := "billiard/billiardlaw09.CellBodies", spec := "cellBodies", unfollowed := true, recurses := true, named := ["billiard/cell.factors"], apart := false, laid := [("billiard/cell.factors", laid_billiard_cell_factors)], narrowed := true }
def CellBodiesUptoSaid : Prop := cellBodiesUptoRow.holds Tryd.pinned (OpenSpec.upto cellBodiesSpec)

/-- 'billiardlaw09.CellBounds', WHERE WHAT IT READS IS OF BULK AT MOST 1048576: true; the input reads as it did. -/
def cellBoundsUptoRow : OpenClaim := { program := "yticjhncpglcgnaadoor", sum := "9079d5db1b44c829f5af0305b5b189fe40d3336308c90a95794cf280fe66a7af", func := "billiard/billiardlaw09.CellBounds", spec := "cellBounds", unfollowed := true, recurses := true, named := ["billiard/cell.factors"], apart := false, laid := [("billiard/cell.factors", laid_billiard_cell_factors)], narrowed := true }
def CellBoundsUptoSaid : Prop := cellBoundsUptoRow.holds Tryd.pinned (OpenSpec.upto cellBoundsSpec)

/-- 'billiardlaw09.CellCovers', WHERE WHAT IT READS IS OF BULK AT MOST 1048576: true; the input reads as it did. -/
def cellCoversUptoRow : OpenClaim := { program := "yticjhncpglcgnaadoor", sum := "9079d5db1b44c829f5af0305b5b189fe40d3336308c90a95794cf280fe66a7af", func := "billiard/billiardlaw09.CellCovers", spec := "cellCovers", unfollowed := true, recurses := true, named := ["billiard/cell.factors", "billiard/box.none"], apart := false, laid := [("billiard/box.none", laid_billiard_box_none), ("billiard/cell.factors", laid_billiard_cell_factors)], narrowed := true }
def CellCoversUptoSaid : Prop := cellCoversUptoRow.holds Tryd.pinned (OpenSpec.upto cellCoversSpec)

end Rows
end Go.Proofs.YticjhncpglcgnaaDoor
