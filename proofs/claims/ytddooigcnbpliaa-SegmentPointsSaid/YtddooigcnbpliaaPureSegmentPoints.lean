/- For a segment of a single point, the square of the distance is that of this point and the nearest point of the other segment, or less by rounding. No condition. -/
import Derived.Test.YtddooigcnbpliaaQSegmentPoints
import Derived.Test.YtddooigcnbpliaaMseg
namespace Go.Proofs.Ytddooigcnbpliaa.Pure
open Go.RowKit Go.Proofs.Ytddooigcnbpliaa.Q Go.Proofs.YtddooigcnbpliaaW.PrintWords Go.Proofs.YtddooigcnbpliaaW.PrintLast Go.Proofs.YtddooigcnbpliaaW.PrintMore
set_option linter.unusedVariables false
theorem n_single {p0 p1 c0 c1 : Int} : nX p0 p1 p0 p1 c0 c1 = p0 ∧ nY p0 p1 p0 p1 c0 c1 = p1 := by
  unfold nX nY ptS
  simp
theorem SegmentPoints : billiardlaw13_SegmentPoints.Pure := by
  intro p0 p1 u0 u1 v0 v1 _ _ _ _ _ _
  refine ⟨2, ?_⟩
  unfold billiardlaw13_SegmentPoints.f
  rw [billiardlaw13_awake.yes]
  simp only [Option.bind_some, if_true]
  rcases Right4_cases p0 p1 p0 p1 u0 u1 v0 v1 with ⟨e, h⟩ | e
  · rw [e]
    simp only [Option.bind_some, Bool.not_true, billiardlaw13_SegmentPoints.j0]
    have hr := h
    obtain ⟨⟨a1, a2, _, _, c1, c2, hx, hy⟩, ⟨_, _, f1, f2, _, _, kx, ky⟩⟩ := hr
    rw [if_neg (by decide), segment_DistSq.is h, segment_DistSq.is h.swap, ref12_DistSq.is h.all.1, billiardref13_DistSq.is a1 a2 c1 c2, billiardref13_DistSq.is a1 a2 f1 f2]
    simp only [Option.bind_some]
    obtain ⟨d1, d2, d3, d4, hF⟩ := Four.ex h
    obtain ⟨z1, z2, z3, z4, hG⟩ := Four.ex h.swap
    have k1 : d1 = z3 := by rw [← hF.e1, ← hG.e3, dS_neg]
    have k2 : d2 = z4 := by rw [← hF.e2, ← hG.e4, dS_neg]
    have k3 : d3 = z1 := by rw [← hF.e3, ← hG.e1, dS_neg]
    have k4 : d4 = z2 := by rw [← hF.e4, ← hG.e2, dS_neg]
    have e1 : (seg4 p0 p1 p0 p1 u0 u1 v0 v1).2.2.2.2 = (seg4 u0 u1 v0 v1 p0 p1 p0 p1).2.2.2.2 := by
      rcases hF.chosen with ⟨e, k⟩ | ⟨e, k⟩ | ⟨e, k⟩ | ⟨e, k⟩ <;> rcases hG.chosen with ⟨g, m⟩ | ⟨g, m⟩ | ⟨g, m⟩ | ⟨g, m⟩ <;> (rw [e, g]; simp only; omega)
    have j1 : d1 = d2 := by rw [← hF.e1, ← hF.e2]
    have j3 : dS (u0 - p0) (u1 - p1) = d3 := by rw [← hF.e3, n_single.1, n_single.2]
    have j4 : dS (v0 - p0) (v1 - p1) = d4 := by rw [← hF.e4, n_single.1, n_single.2]
    rw [if_pos e1, hF.e1, j3, j4]
    rcases hF.chosen with ⟨e, k⟩ | ⟨e, k⟩ | ⟨e, k⟩ | ⟨e, k⟩ <;> (rw [e]; simp [mn]; omega)
  · rw [e]
    simp [billiardlaw13_SegmentPoints.j0, billiardlaw13_awake.yes]

end Go.Proofs.Ytddooigcnbpliaa.Pure
