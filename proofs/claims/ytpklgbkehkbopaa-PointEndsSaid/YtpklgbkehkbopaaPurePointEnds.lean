/- If the point is beyond an end, the nearest point is the end; the nearest point to an end is this end. No condition. -/
import Derived.Test.YtpklgbkehkbopaaQPointEnds
import Derived.Test.YtpklgbkehkbopaaMpoint
namespace Go.Proofs.Ytpklgbkehkbopaa.Pure
open Go.RowKit Go.Proofs.Ytpklgbkehkbopaa.Q Go.Proofs.YtpklgbkehkbopaaW.PrintWords Go.Proofs.YtpklgbkehkbopaaW.PrintLast Go.Proofs.YtpklgbkehkbopaaW.PrintMore
set_option linter.unusedVariables false

theorem ends_last {p0 p1 q0 q1 c0 c1 : Int} (h : RightP p0 p1 q0 q1 c0 c1) (k : Nat) : billiardlaw12_PointEnds.j1 (k + 1) false p0 p1 q0 q1 = some true := by
  simp only [billiardlaw12_PointEnds.j1]
  have e : point_DistSq.f p0 p1 q0 q1 q0 q1 = some 0 := by
    unfold point_DistSq.f
    rw [nearest_last h]
    obtain ⟨a1, a2, b1, b2, d1, d2, hx, hy⟩ := h
    simp only [Option.bind_some, vec_Diff.f]
    rw [wdiff b1 b1, wdiff b2 b2, Int.sub_self, Int.sub_self]
    rfl
  rw [if_neg (by decide), nearest_first h, nearest_last h, e]
  simp
theorem PointEnds : billiardlaw12_PointEnds.Pure := by
  intro p0 p1 q0 q1 c0 c1 _ _ _ _ _ _
  refine ⟨2, ?_⟩
  unfold billiardlaw12_PointEnds.f
  rw [billiardlaw12_awake.yes]
  simp only [Option.bind_some, if_true]
  rcases Right_cases p0 p1 q0 q1 c0 c1 with ⟨e, h⟩ | e
  · rw [e]
    simp only [Option.bind_some, Bool.not_true, billiardlaw12_PointEnds.j0]
    have hl := ends_last h 0
    have hb := parN_bd (q0 - p0) (q1 - p1) (c0 - p0) (c1 - p1)
    have hz : dS (q0 - p0) (q1 - p1) = 0 → q0 - p0 = 0 ∧ q1 - p1 = 0 := dS_zero
    rw [if_neg (by decide), (point_Param.is h).1, point_Nearest.is h]
    generalize parN (q0 - p0) (q1 - p1) (c0 - p0) (c1 - p1) = n at *
    generalize dS (q0 - p0) (q1 - p1) = d at *
    simp only [Option.bind_some]
    rw [if_neg (by omega), if_neg (by omega)]
    by_cases c : n = 0
    · subst c
      rw [if_pos rfl, ptS_zero, ptS_zero, if_neg (by simp)]
      by_cases g : d > 0
      · rw [if_pos g, if_neg (by omega)]
        exact hl
      · rw [if_neg g]
        exact hl
    · rw [if_neg c, if_pos (by omega)]
      by_cases g : n = d
      · subst g
        rw [if_pos rfl, ptS_full (fun e => (hz e).1), ptS_full (fun e => (hz e).2)]
        simpa using hl
      · rw [if_neg g]
        exact hl
  · rw [e]
    simp [billiardlaw12_PointEnds.j0, billiardlaw12_awake.yes]

end Go.Proofs.Ytpklgbkehkbopaa.Pure
