/- With the ends exchanged, the nearest point is another one by at most one unit in each direction. No condition. -/
import Derived.Test.YtpklgbkehkbopaaQPointTurned
import Derived.Test.YtpklgbkehkbopaaMpoint
namespace Go.Proofs.Ytpklgbkehkbopaa.Pure
open Go.RowKit Go.Proofs.Ytpklgbkehkbopaa.Q Go.Proofs.YtpklgbkehkbopaaW.PrintWords Go.Proofs.YtpklgbkehkbopaaW.PrintLast Go.Proofs.YtpklgbkehkbopaaW.PrintMore
set_option linter.unusedVariables false

theorem PointTurned : billiardlaw12_PointTurned.Pure := by
  intro p0 p1 q0 q1 c0 c1 _ _ _ _ _ _
  refine ⟨1, ?_⟩
  unfold billiardlaw12_PointTurned.f
  rw [billiardlaw12_awake.yes]
  simp only [Option.bind_some, if_true]
  rcases Right_cases p0 p1 q0 q1 c0 c1 with ⟨e, h⟩ | e
  · rw [e]
    simp only [Option.bind_some, Bool.not_true, billiardlaw12_PointTurned.j0]
    rw [if_neg (by decide), point_Nearest.is h, point_Nearest.is h.turned, dS_turned p0 p1 q0 q1, parN_turned p0 p1 q0 q1 c0 c1, ptS_turned (fun e => (dS_zero e).1), ptS_turned (fun e => (dS_zero e).2)]
    simp only [Option.bind_some, Int.sub_self]
    rw [w32_id (n := (0 : Int)) (by decide) (by decide)]
    simp
  · rw [e]
    simp [billiardlaw12_PointTurned.j0, billiardlaw12_awake.yes]

end Go.Proofs.Ytpklgbkehkbopaa.Pure
