/-
  DERIVED. GIVEN WITH THE SEED: THE CARDS: each row of YticjhncpglcgnaaDoorRows.lean that lists a variable, with what it lists TIED to the program's text (the seventh form; the later family's looks); each row that meets fmt, with fmt's text TOLD by the authors' own Lean function (tested against real Go, not proved from fmt's source: count such statements apart). THE CARD IS WHAT COUNTS. Prove the row's statement (the work); the ties are given (YticjhncpglcgnaaDoorTie.lean); close each card by the builder's one call (the guide's Derived/Test/ToyasCard.lean, 'card_holds'). Laid BY PROGRAM, IN A SANDBOX (cutbox-door.mjs). By AI agents, Wed Nov 11 2026. No macro, syntax, notation, axiom, sorry.
-/
import Derived.Test.YticjhncpglcgnaaDoorRows
import GoSem.ClaimSeven
namespace Go.Proofs.YticjhncpglcgnaaDoor
namespace Rows

/-- THE TIED CARD OF 'billiardlaw09.CellMatchesReference'. -/
def cellMatchesReferenceCard : Claim7 := { stood := { row := cellMatchesReferenceRow, standIns := [], harness := (true, "9462c2c6bcf3c47ede2d0fc9f249c4b7f1d8f1c957d58c2624d65b3d85393c62"), looks := false }, kinds := [], alts := [], laidByText := true, laidKinds := [.data], laidTests := true, laidLooks := .later }
def CellMatchesReferenceCardSaid : Prop := Claim7.holds Tryd.pinned (.plain (OpenSpec.ofChange cellMatchesReferenceSpec)) cellMatchesReferenceCard

/-- THE TIED CARD OF 'billiardlaw09.CellNeighbours'. -/
def cellNeighboursCard : Claim7 := { stood := { row := cellNeighboursRow, standIns := [], harness := (true, "9462c2c6bcf3c47ede2d0fc9f249c4b7f1d8f1c957d58c2624d65b3d85393c62"), looks := false }, kinds := [], alts := [], laidByText := true, laidKinds := [.data], laidTests := true, laidLooks := .later }
def CellNeighboursCardSaid : Prop := Claim7.holds Tryd.pinned (.plain (OpenSpec.ofChange cellNeighboursSpec)) cellNeighboursCard

/-- THE TIED CARD OF 'billiardlaw09.CellBodies'. -/
def cellBodiesCard : Claim7 := { stood := { row := cellBodiesRow, standIns := [], harness := (true, "9462c2c6bcf3c47ede2d0fc9f249c4b7f1d8f1c957d58c2624d65b3d85393c62"), looks := false }, kinds := [], alts := [], laidByText := true, laidKinds := [.data], laidTests := true, laidLooks := .later }
def CellBodiesCardSaid : Prop := Claim7.holds Tryd.pinned (.plain (OpenSpec.ofChange cellBodiesSpec)) cellBodiesCard

/-- THE TIED CARD OF 'billiardlaw09.CellBounds'. -/
def cellBoundsCard : Claim7 := { stood := { row := cellBoundsRow, standIns := [], harness := (true, "9462c2c6bcf3c47ede2d0fc9f249c4b7f1d8f1c957d58c2624d65b3d85393c62"), looks := false }, kinds := [], alts := [], laidByText := true, laidKinds := [.data], laidTests := true, laidLooks := .later }
def CellBoundsCardSaid : Prop := Claim7.holds Tryd.pinned (.plain (OpenSpec.ofChange cellBoundsSpec)) cellBoundsCard

/-- THE TIED CARD OF 'billiardlaw09.CellCovers'. -/
def cellCoversCard : Claim7 := { stood := { row := cellCoversRow, standIns := [], harness := (true, "9462c2c6bcf3c47ede2d0fc9f249c4b7f1d8f1c957d58c2624d65b3d85393c62"), looks := false }, kinds := [], alts := [], laidByText := true, laidKinds := [.data, .data], laidTests := true, laidLooks := .later }
def CellCoversCardSaid : Prop := Claim7.holds Tryd.pinned (.plain (OpenSpec.ofChange cellCoversSpec)) cellCoversCard

/-- THE SECOND FORM's CARD OF 'billiardlaw09.CellMatchesReference'. -/
def cellMatchesReferenceUptoCard : Claim7 := { stood := { row := cellMatchesReferenceUptoRow, standIns := [], harness := (true, "9462c2c6bcf3c47ede2d0fc9f249c4b7f1d8f1c957d58c2624d65b3d85393c62"), looks := false }, kinds := [], alts := [], laidByText := true, laidKinds := [.data], laidTests := true, laidLooks := .later }
def CellMatchesReferenceUptoCardSaid : Prop := Claim7.holds Tryd.pinned (.plain (OpenSpec.upto cellMatchesReferenceSpec)) cellMatchesReferenceUptoCard

/-- THE SECOND FORM's CARD OF 'billiardlaw09.CellNeighbours'. -/
def cellNeighboursUptoCard : Claim7 := { stood := { row := cellNeighboursUptoRow, standIns := [], harness := (true, "9462c2c6bcf3c47ede2d0fc9f249c4b7f1d8f1c957d58c2624d65b3d85393c62"), looks := false }, kinds := [], alts := [], laidByText := true, laidKinds := [.data], laidTests := true, laidLooks := .later }
def CellNeighboursUptoCardSaid : Prop := Claim7.holds Tryd.pinned (.plain (OpenSpec.upto cellNeighboursSpec)) cellNeighboursUptoCard

/-- THE SECOND FORM's CARD OF 'billiardlaw09.CellBodies'. -/
def cellBodiesUptoCard : Claim7 := { stood := { row := cellBodiesUptoRow, standIns := [], harness := (true, "9462c2c6bcf3c47ede2d0fc9f249c4b7f1d8f1c957d58c2624d65b3d85393c62"), looks := false }, kinds := [], alts := [], laidByText := true, laidKinds := [.data], laidTests := true, laidLooks := .later }
def CellBodiesUptoCardSaid : Prop := Claim7.holds Tryd.pinned (.plain (OpenSpec.upto cellBodiesSpec)) cellBodiesUptoCard

/-- THE SECOND FORM's CARD OF 'billiardlaw09.CellBounds'. -/
def cellBoundsUptoCard : Claim7 := { stood := { row := cellBoundsUptoRow, standIns := [], harness := (true, "9462c2c6bcf3c47ede2d0fc9f249c4b7f1d8f1c957d58c2624d65b3d85393c62"), looks := false }, kinds := [], alts := [], laidByText := true, laidKinds := [.data], laidTests := true, laidLooks := .later }
def CellBoundsUptoCardSaid : Prop := Claim7.holds Tryd.pinned (.plain (OpenSpec.upto cellBoundsSpec)) cellBoundsUptoCard

/-- THE SECOND FORM's CARD OF 'billiardlaw09.CellCovers'. -/
def cellCoversUptoCard : Claim7 := { stood := { row := cellCoversUptoRow, standIns := [], harness := (true, "9462c2c6bcf3c47ede2d0fc9f249c4b7f1d8f1c957d58c2624d65b3d85393c62"), looks := false }, kinds := [], alts := [], laidByText := true, laidKinds := [.data, .data], laidTests := true, laidLooks := .later }
def CellCoversUptoCardSaid : Prop := Claim7.holds Tryd.pinned (.plain (OpenSpec.upto cellCoversSpec)) cellCoversUptoCard
end Rows
end Go.Proofs.YticjhncpglcgnaaDoor
