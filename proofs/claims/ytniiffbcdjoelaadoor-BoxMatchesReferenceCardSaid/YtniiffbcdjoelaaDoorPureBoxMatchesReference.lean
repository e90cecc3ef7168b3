/- The box of a body, and what is reported of boxes and points, are those of the reference: for all bodies, boxes and points. -/
import Derived.Test.YtniiffbcdjoelaaDoorQBoxMatchesReference
import Derived.Test.YtniiffbcdjoelaaDoorMbox
import Derived.Test.YtniiffbcdjoelaaDoorMbody
namespace Go.Proofs.YtniiffbcdjoelaaDoor.Pure
open Go.RowKit Go.Proofs.YtniiffbcdjoelaaDoor.Q Go.Proofs.YtniiffbcdjoelaaDoorW.PrintWords Go.Proofs.YtniiffbcdjoelaaDoorW.PrintLast
theorem BoxMatchesReference : billiardlaw08_BoxMatchesReference.Pure := by
  intro key r ax ay m b px py vx vy a0 a1 a2 a3 b0 b1 b2 b3 p q _ _ _ _ _ _ _ _ _ _ _ _ _ _ _ _ _ _ _ _
  have aw : billiardlaw08_awake.f = some true := by decide +kernel
  refine ⟨0 + 5, ?_⟩
  unfold billiardlaw08_BoxMatchesReference.f
  rw [aw]
  simp only [Option.bind_some, if_true]
  have out : billiardlaw08_BoxMatchesReference.j0 (0 + 5) false a0 a1 a2 a3 b0 b1 b2 b3 p q = some true := by
    simp only [billiardlaw08_BoxMatchesReference.j0, Bool.false_eq_true, if_false, billiardlaw08_forward.f, Option.bind_some, box_Empty.is, billiardref08_Empty.is, box_Overlap.is, billiardref08_Overlap.is, box_Contains.is, billiardref08_Contains.is, beq_self_eq_true, if_true]
  rcases Check_cases 0 key r ax ay m b px py vx vy with ⟨e1, V⟩ | ⟨x, hx, e1⟩
  rotate_left
  · rw [e1, Option.bind_some, if_neg hx]; exact out
  rw [e1, Option.bind_some, if_pos rfl]
  have hr := V.r
  rw [box_Of.is (by omega) V.ax V.ay V.px V.py, billiardref08_Of.is (by omega) V.ax V.ay V.px V.py]
  simp only [Option.bind_some, billiardlaw08_forward.f, beq_self_eq_true, Bool.not_true, Bool.or_self]
  exact out
end Go.Proofs.YtniiffbcdjoelaaDoor.Pure
