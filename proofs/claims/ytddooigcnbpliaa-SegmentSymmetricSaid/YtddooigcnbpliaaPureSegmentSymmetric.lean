/- Exchanging the segments does not change the square of the distance; for segments of a single point, the chosen points are these points. No condition. -/
import Derived.Test.YtddooigcnbpliaaQSegmentSymmetric
import Derived.Test.YtddooigcnbpliaaMseg
namespace Go.Proofs.Ytddooigcnbpliaa.Pure
open Go.RowKit Go.Proofs.Ytddooigcnbpliaa.Q Go.Proofs.YtddooigcnbpliaaW.PrintWords Go.Proofs.YtddooigcnbpliaaW.PrintLast Go.Proofs.YtddooigcnbpliaaW.PrintMore
set_option linter.unusedVariables false
theorem n_single {p0 p1 c0 c1 : Int} : nX p0 p1 p0 p1 c0 c1 = p0 ∧ nY p0 p1 p0 p1 c0 c1 = p1 := by
  unfold nX nY ptS
  simp
theorem n_first {p0 p1 q0 q1 : Int} : nX p0 p1 q0 q1 p0 p1 = p0 ∧ nY p0 p1 q0 q1 p0 p1 = p1 := by
  unfold nX nY
  rw [Int.sub_self, Int.sub_self, parN_first, ptS_zero, ptS_zero]
  exact ⟨rfl, rfl⟩
theorem SegmentSymmetric : billiardlaw13_SegmentSymmetric.Pure := by
  intro p0 p1 q0 q1 u0 u1 v0 v1 _ _ _ _ _ _ _ _
  refine ⟨2, ?_⟩
  unfold billiardlaw13_SegmentSymmetric.f
  rw [billiardlaw13_awake.yes]
  simp only [Option.bind_some, if_true]
  rcases Right4_cases p0 p1 q0 q1 u0 u1 v0 v1 with ⟨e, h⟩ | e
  · rw [e]
    simp only [Option.bind_some, Bool.not_true, billiardlaw13_SegmentSymmetric.j0]
    have hr := h
    obtain ⟨⟨a1, a2, b1, b2, c1, c2, hx, hy⟩, ⟨_, _, f1, f2, _, _, kx, ky⟩⟩ := hr
    have hpp : Right4 p0 p1 p0 p1 u0 u1 u0 u1 := ⟨⟨a1, a2, a1, a2, c1, c2, by omega, by omega⟩, ⟨c1, c2, c1, c2, a1, a2, by omega, by omega⟩⟩
    have hpq : Right4 p0 p1 q0 q1 p0 p1 q0 q1 := ⟨⟨a1, a2, b1, b2, a1, a2, hx, hy⟩, ⟨a1, a2, b1, b2, a1, a2, hx, hy⟩⟩
    rw [if_neg (by decide), segment_Chosen.is hpp, segment_DistSq.is h, segment_DistSq.is h.swap, segment_DistSq.is hpq]
    simp only [Option.bind_some]
    obtain ⟨d1, d2, d3, d4, hF⟩ := Four.ex h
    obtain ⟨z1, z2, z3, z4, hG⟩ := Four.ex h.swap
    obtain ⟨y1, y2, y3, y4, hH⟩ := Four.ex hpp
    obtain ⟨x1, x2, x3, x4, hI⟩ := Four.ex hpq
    have k1 : d1 = z3 := by rw [← hF.e1, ← hG.e3, dS_neg]
    have k2 : d2 = z4 := by rw [← hF.e2, ← hG.e4, dS_neg]
    have k3 : d3 = z1 := by rw [← hF.e3, ← hG.e1, dS_neg]
    have k4 : d4 = z2 := by rw [← hF.e4, ← hG.e2, dS_neg]
    have e1 : (seg4 p0 p1 q0 q1 u0 u1 v0 v1).2.2.2.2 = (seg4 u0 u1 v0 v1 p0 p1 q0 q1).2.2.2.2 := by
      rcases hF.chosen with ⟨e, k⟩ | ⟨e, k⟩ | ⟨e, k⟩ | ⟨e, k⟩ <;> rcases hG.chosen with ⟨g, m⟩ | ⟨g, m⟩ | ⟨g, m⟩ | ⟨g, m⟩ <;> (rw [e, g]; simp only; omega)
    have e2 : (seg4 p0 p1 p0 p1 u0 u1 u0 u1).1 = p0 ∧ (seg4 p0 p1 p0 p1 u0 u1 u0 u1).2.1 = p1 ∧ (seg4 p0 p1 p0 p1 u0 u1 u0 u1).2.2.1 = u0 ∧ (seg4 p0 p1 p0 p1 u0 u1 u0 u1).2.2.2.1 = u1 := by
      have n1 := @n_single u0 u1 p0 p1
      have n2 := @n_single p0 p1 u0 u1
      rcases hH.chosen with ⟨e, k⟩ | ⟨e, k⟩ | ⟨e, k⟩ | ⟨e, k⟩ <;> (rw [e]; simp only [n1.1, n1.2, n2.1, n2.2]; exact ⟨trivial, trivial, trivial, trivial⟩)
    have e3 : (seg4 p0 p1 q0 q1 p0 p1 q0 q1).2.2.2.2 = 0 := by
      have hz : x1 = 0 := by
        rw [← hI.e1, n_first.1, n_first.2, Int.sub_self, Int.sub_self]
        rfl
      have := hI.b1
      have := hI.b2
      have := hI.b3
      have := hI.b4
      rcases hI.chosen with ⟨e, k⟩ | ⟨e, k⟩ | ⟨e, k⟩ | ⟨e, k⟩ <;> (rw [e]; simp only; omega)
    rw [if_pos e1, e2.1, e2.2.1, e2.2.2.1, e2.2.2.2, e3]
    simp
  · rw [e]
    simp [billiardlaw13_SegmentSymmetric.j0, billiardlaw13_awake.yes]

end Go.Proofs.Ytddooigcnbpliaa.Pure
