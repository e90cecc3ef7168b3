/-
  DERIVED. GIVEN WITH THE SEED: THE CARDS: each row of YtniiffbcdjoelaaDoorRows.lean that lists a variable, with what it lists TIED to the program's text (the seventh form; the later family's looks); each row that meets fmt, with fmt's text TOLD by the authors' own Lean function (tested against real Go, not proved from fmt's source: count such statements apart). THE CARD IS WHAT COUNTS. Prove the row's statement (the work); the ties are given (YtniiffbcdjoelaaDoorTie.lean); close each card by the builder's one call (the guide's Derived/Test/ToyasCard.lean, 'card_holds'). Laid BY PROGRAM, IN A SANDBOX (cutbox-door.mjs). By AI agents, Wed Nov 11 2026. No macro, syntax, notation, axiom, sorry.
-/
import Derived.Test.YtniiffbcdjoelaaDoorRows
import GoSem.ClaimSeven
namespace Go.Proofs.YtniiffbcdjoelaaDoor
namespace Rows

/-- THE TIED CARD OF 'billiardlaw08.BoxMatchesReference'. -/
def boxMatchesReferenceCard : Claim7 := { stood := { row := boxMatchesReferenceRow, standIns := [], harness := (true, "ce01809768814ccbe52c5227425e1c108a839b93189a4181d1eb56c5a3eaa608"), looks := false }, kinds := [], alts := [], laidByText := true, laidKinds := [.data], laidTests := true, laidLooks := .later }
def BoxMatchesReferenceCardSaid : Prop := Claim7.holds Tryd.pinned (.plain (OpenSpec.ofChange boxMatchesReferenceSpec)) boxMatchesReferenceCard

/-- THE TIED CARD OF 'billiardlaw08.BoxMeets'. -/
def boxMeetsCard : Claim7 := { stood := { row := boxMeetsRow, standIns := [], harness := (true, "ce01809768814ccbe52c5227425e1c108a839b93189a4181d1eb56c5a3eaa608"), looks := false }, kinds := [], alts := [], laidByText := true, laidKinds := [.data], laidTests := true, laidLooks := .later }
def BoxMeetsCardSaid : Prop := Claim7.holds Tryd.pinned (.plain (OpenSpec.ofChange boxMeetsSpec)) boxMeetsCard

/-- THE TIED CARD OF 'billiardlaw08.BoxSymmetric'. -/
def boxSymmetricCard : Claim7 := { stood := { row := boxSymmetricRow, standIns := [], harness := (true, "ce01809768814ccbe52c5227425e1c108a839b93189a4181d1eb56c5a3eaa608"), looks := false }, kinds := [], alts := [], laidByText := true, laidKinds := [.data], laidTests := true, laidLooks := .later }
def BoxSymmetricCardSaid : Prop := Claim7.holds Tryd.pinned (.plain (OpenSpec.ofChange boxSymmetricSpec)) boxSymmetricCard

/-- THE TIED CARD OF 'billiardlaw08.BoxGrows'. -/
def boxGrowsCard : Claim7 := { stood := { row := boxGrowsRow, standIns := [], harness := (true, "ce01809768814ccbe52c5227425e1c108a839b93189a4181d1eb56c5a3eaa608"), looks := false }, kinds := [], alts := [], laidByText := true, laidKinds := [.data], laidTests := true, laidLooks := .later }
def BoxGrowsCardSaid : Prop := Claim7.holds Tryd.pinned (.plain (OpenSpec.ofChange boxGrowsSpec)) boxGrowsCard

/-- THE SECOND FORM's CARD OF 'billiardlaw08.BoxMatchesReference'. -/
def boxMatchesReferenceUptoCard : Claim7 := { stood := { row := boxMatchesReferenceUptoRow, standIns := [], harness := (true, "ce01809768814ccbe52c5227425e1c108a839b93189a4181d1eb56c5a3eaa608"), looks := false }, kinds := [], alts := [], laidByText := true, laidKinds := [.data], laidTests := true, laidLooks := .later }
def BoxMatchesReferenceUptoCardSaid : Prop := Claim7.holds Tryd.pinned (.plain (OpenSpec.upto boxMatchesReferenceSpec)) boxMatchesReferenceUptoCard

/-- THE SECOND FORM's CARD OF 'billiardlaw08.BoxMeets'. -/
def boxMeetsUptoCard : Claim7 := { stood := { row := boxMeetsUptoRow, standIns := [], harness := (true, "ce01809768814ccbe52c5227425e1c108a839b93189a4181d1eb56c5a3eaa608"), looks := false }, kinds := [], alts := [], laidByText := true, laidKinds := [.data], laidTests := true, laidLooks := .later }
def BoxMeetsUptoCardSaid : Prop := Claim7.holds Tryd.pinned (.plain (OpenSpec.upto boxMeetsSpec)) boxMeetsUptoCard

/-- THE SECOND FORM's CARD OF 'billiardlaw08.BoxSymmetric'. -/
def boxSymmetricUptoCard : Claim7 := { stood := { row := boxSymmetricUptoRow, standIns := [], harness := (true, "ce01809768814ccbe52c5227425e1c108a839b93189a4181d1eb56c5a3eaa608"), looks := false }, kinds := [], alts := [], laidByText := true, laidKinds := [.data], laidTests := true, laidLooks := .later }
def BoxSymmetricUptoCardSaid : Prop := Claim7.holds Tryd.pinned (.plain (OpenSpec.upto boxSymmetricSpec)) boxSymmetricUptoCard

/-- THE SECOND FORM's CARD OF 'billiardlaw08.BoxGrows'. -/
def boxGrowsUptoCard : Claim7 := { stood := { row := boxGrowsUptoRow, standIns := [], harness := (true, "ce01809768814ccbe52c5227425e1c108a839b93189a4181d1eb56c5a3eaa608"), looks := false }, kinds := [], alts := [], laidByText := true, laidKinds := [.data], laidTests := true, laidLooks := .later }
def BoxGrowsUptoCardSaid : Prop := Claim7.holds Tryd.pinned (.plain (OpenSpec.upto boxGrowsSpec)) boxGrowsUptoCard
end Rows
end Go.Proofs.YtniiffbcdjoelaaDoor
