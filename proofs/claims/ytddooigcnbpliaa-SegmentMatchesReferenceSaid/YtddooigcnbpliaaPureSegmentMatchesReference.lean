/- For all segments, the chosen points and their distance are those of the reference implementation. No condition. -/
import Derived.Test.YtddooigcnbpliaaQSegmentMatchesReference
import Derived.Test.YtddooigcnbpliaaMseg13
namespace Go.Proofs.Ytddooigcnbpliaa.Pure
open Go.RowKit Go.Proofs.Ytddooigcnbpliaa.Q Go.Proofs.YtddooigcnbpliaaW.PrintWords Go.Proofs.YtddooigcnbpliaaW.PrintLast Go.Proofs.YtddooigcnbpliaaW.PrintMore
set_option linter.unusedVariables false
theorem SegmentMatchesReference : billiardlaw13_SegmentMatchesReference.Pure := by
  intro p0 p1 q0 q1 u0 u1 v0 v1 _ _ _ _ _ _ _ _
  refine ⟨5, ?_⟩
  unfold billiardlaw13_SegmentMatchesReference.f
  rw [billiardlaw13_awake.yes]
  simp only [Option.bind_some, if_true]
  rcases Right4_cases p0 p1 q0 q1 u0 u1 v0 v1 with ⟨e, h⟩ | e
  · rw [e]
    simp only [Option.bind_some, Bool.not_true, billiardlaw13_SegmentMatchesReference.j0]
    obtain ⟨g1, g2, g3, g4, gd⟩ := Four.dist h
    have hD := billiardref13_DistSq.is g1 g2 g3 g4
    rw [gd] at hD
    rw [if_neg (by decide), segment_DistSq.is h, segment_Chosen.is h, ref13_Chosen.is h 0]
    simp only [Option.bind_some]
    rw [hD]
    simp
  · rw [e]
    simp [billiardlaw13_SegmentMatchesReference.j0, billiardlaw13_awake.yes]

end Go.Proofs.Ytddooigcnbpliaa.Pure
