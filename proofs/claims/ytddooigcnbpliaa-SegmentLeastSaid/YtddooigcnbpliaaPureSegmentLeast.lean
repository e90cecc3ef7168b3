/- The square of the distance is at most that of each end to the nearest point of the other segment, and one of the chosen points is an end. No condition. -/
import Derived.Test.YtddooigcnbpliaaQSegmentLeast
import Derived.Test.YtddooigcnbpliaaMseg
namespace Go.Proofs.Ytddooigcnbpliaa.Pure
open Go.RowKit Go.Proofs.Ytddooigcnbpliaa.Q Go.Proofs.YtddooigcnbpliaaW.PrintWords Go.Proofs.YtddooigcnbpliaaW.PrintLast Go.Proofs.YtddooigcnbpliaaW.PrintMore
set_option linter.unusedVariables false
theorem SegmentLeast : billiardlaw13_SegmentLeast.Pure := by
  intro p0 p1 q0 q1 u0 u1 v0 v1 _ _ _ _ _ _ _ _
  refine ⟨2, ?_⟩
  unfold billiardlaw13_SegmentLeast.f
  rw [billiardlaw13_awake.yes]
  simp only [Option.bind_some, if_true]
  rcases Right4_cases p0 p1 q0 q1 u0 u1 v0 v1 with ⟨e, h⟩ | e
  · rw [e]
    simp only [Option.bind_some, Bool.not_true, billiardlaw13_SegmentLeast.j0]
    obtain ⟨d1, d2, d3, d4, hF⟩ := Four.ex h
    obtain ⟨h1, h2, h3, h4⟩ := h.all
    obtain ⟨g1, g2, g3, g4, gd⟩ := Four.dist h
    have hD := billiardref13_DistSq.is g1 g2 g3 g4
    rw [gd] at hD
    rw [if_neg (by decide), segment_DistSq.is h, segment_Chosen.is h, ref12_DistSq.is h1, ref12_DistSq.is h2, ref12_DistSq.is h3, ref12_DistSq.is h4, hF.e1, hF.e2, dS_neg _ u0 _ u1, hF.e3, dS_neg _ v0 _ v1, hF.e4]
    simp only [Option.bind_some, billiardlaw13_SegmentLeast.j1]
    rcases hF.chosen with ⟨e, k⟩ | ⟨e, k⟩ | ⟨e, k⟩ | ⟨e, k⟩
    all_goals
      rw [hD]
      rw [e]
      simp only
      rw [if_neg (by omega), if_neg (by omega), if_neg (by omega), if_neg (by first | (simp; done) | (simp; omega))]
      simp
  · rw [e]
    simp [billiardlaw13_SegmentLeast.j0, billiardlaw13_awake.yes]

end Go.Proofs.Ytddooigcnbpliaa.Pure
