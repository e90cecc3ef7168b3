/- The order of two boxes does not matter, and every box that is not empty overlaps itself: for all boxes. -/
import Derived.Test.YtniiffbcdjoelaaDoorQBoxSymmetric
import Derived.Test.YtniiffbcdjoelaaDoorMbox
namespace Go.Proofs.YtniiffbcdjoelaaDoor.Pure
open Go.RowKit Go.Proofs.YtniiffbcdjoelaaDoor.Q Go.Proofs.YtniiffbcdjoelaaDoorW.PrintWords Go.Proofs.YtniiffbcdjoelaaDoorW.PrintLast
theorem BoxSymmetric : billiardlaw08_BoxSymmetric.Pure := by
  intro a b c d e f g h _ _ _ _ _ _ _ _
  have aw : billiardlaw08_awake.f = some true := by decide +kernel
  unfold billiardlaw08_BoxSymmetric.f billiardlaw08_forward.f
  rw [aw]
  simp only [Option.bind_some, box_Overlap.is, box_Meet.is, box_Union.is, billiardref08_Empty.is]
  rw [overB_comm e f g h a b c d, meetB_comm e f g h a b c d, unionB_comm e f g h a b c d]
  have self : overB a b c d a b c d = !emptyB a b c d := by
    unfold overB
    have e1 : ∀ x : Int, mx x x = x := fun x => by rw [box_mx]; split <;> rfl
    have e2 : ∀ x : Int, mn x x = x := fun x => by rw [box_mn]; split <;> rfl
    rw [e1, e1, e2, e2]
  rw [self]
  simp
end Go.Proofs.YtniiffbcdjoelaaDoor.Pure
