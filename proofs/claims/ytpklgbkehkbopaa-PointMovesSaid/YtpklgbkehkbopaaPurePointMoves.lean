/- Moving the segment and the point by the same vector moves the nearest point, and leaves the distance unchanged. No condition. -/
import Derived.Test.YtpklgbkehkbopaaQPointMoves
import Derived.Test.YtpklgbkehkbopaaMpoint
namespace Go.Proofs.Ytpklgbkehkbopaa.Pure
open Go.RowKit Go.Proofs.Ytpklgbkehkbopaa.Q Go.Proofs.YtpklgbkehkbopaaW.PrintWords Go.Proofs.YtpklgbkehkbopaaW.PrintLast Go.Proofs.YtpklgbkehkbopaaW.PrintMore
set_option linter.unusedVariables false

theorem moves_last (p0 p1 q0 q1 c0 c1 x y : Int) (h : RightP p0 p1 q0 q1 c0 c1) (hx : -1000000000 ≤ x ∧ x ≤ 1000000000) (hy : -1000000000 ≤ y ∧ y ≤ 1000000000) (k : Nat) : billiardlaw12_PointMoves.j0 (k + 1) false p0 p1 q0 q1 c0 c1 x y = some true := by
  simp only [billiardlaw12_PointMoves.j0, billiardlaw12_move.f]
  have hr := h
  obtain ⟨a1, a2, b1, b2, d1, d2, g1, g2⟩ := h
  have w : ∀ a b : Int, InB a → (-1000000000 ≤ b ∧ b ≤ 1000000000) → wrap32 (a + b) = a + b := fun a b ha hb => by unfold InB at ha; exact w32_id (by omega) (by omega)
  rw [if_neg (by decide)]
  simp only [Option.bind_some]
  rw [w _ _ a1 hx, w _ _ a2 hy, w _ _ b1 hx, w _ _ b2 hy, w _ _ d1 hx, w _ _ d2 hy]
  rcases Right_cases (p0 + x) (p1 + y) (q0 + x) (q1 + y) (c0 + x) (c1 + y) with ⟨e, h⟩ | e
  · rw [e]
    simp only [Option.bind_some, if_true]
    have s : ∀ a b c : Int, a + c - (b + c) = a - b := fun a b c => by omega
    have hn := parN_bd (q0 - p0) (q1 - p1) (c0 - p0) (c1 - p1)
    have k1 := ptS_box (p := p0) (q := q0) hn
    have k2 := ptS_box (p := p1) (q := q1) hn
    have m1 := point_Nearest.is hr
    have m2 := point_Nearest.is h
    rw [s, s, s, s] at m2
    generalize parN (q0 - p0) (q1 - p1) (c0 - p0) (c1 - p1) = n at *
    generalize dS (q0 - p0) (q1 - p1) = d at *
    have t : ∀ p x' z : Int, ptS (p + z) x' n d = ptS p x' n d + z := fun p x' z => by unfold ptS; omega
    rw [t, t] at m2
    generalize ptS p0 (q0 - p0) n d = u at *
    generalize ptS p1 (q1 - p1) n d = v at *
    have hu : InB u := by
      unfold InB at *
      rcases Int.le_total p0 q0 with g | g
      · have := k1.1 g; omega
      · have := k1.2 g; omega
    have hv : InB v := by
      unfold InB at *
      rcases Int.le_total p1 q1 with g | g
      · have := k2.1 g; omega
      · have := k2.2 g; omega
    have i1 : InB (c0 + x) := h.2.2.2.2.1
    have i2 : InB (c1 + y) := h.2.2.2.2.2.1
    have b3 : InB (u + x) := by
      have hh := h
      unfold RightP InB at *
      rcases Int.le_total p0 q0 with g | g
      · have := k1.1 g; omega
      · have := k1.2 g; omega
    have b4 : InB (v + y) := by
      have hh := h
      unfold RightP InB at *
      rcases Int.le_total p1 q1 with g | g
      · have := k2.1 g; omega
      · have := k2.2 g; omega
    have f1 : point_DistSq.f (p0 + x) (p1 + y) (q0 + x) (q1 + y) (c0 + x) (c1 + y) = vec_LengthSq.f (u - c0) (v - c1) := by
      unfold point_DistSq.f
      rw [m2]
      simp only [Option.bind_some, vec_Diff.f]
      rw [wdiff b3 i1, wdiff b4 i2, s, s]
      cases vec_LengthSq.f (u - c0) (v - c1) <;> rfl
    have f2 : point_DistSq.f p0 p1 q0 q1 c0 c1 = vec_LengthSq.f (u - c0) (v - c1) := by
      unfold point_DistSq.f
      rw [m1]
      simp only [Option.bind_some, vec_Diff.f]
      rw [wdiff hu d1, wdiff hv d2]
      cases vec_LengthSq.f (u - c0) (v - c1) <;> rfl
    obtain ⟨L, hL⟩ : ∃ L, vec_LengthSq.f (u - c0) (v - c1) = some L := by
      unfold vec_LengthSq.f vec_square.f
      split <;> split <;> exact ⟨_, rfl⟩
    rw [m1, m2, f1, f2, hL]
    simp only [Option.bind_some]
    rw [w _ _ hu hx, w _ _ hv hy]
    simp
  · rw [e]
    simp
theorem PointMoves : billiardlaw12_PointMoves.Pure := by
  intro p0 p1 q0 q1 c0 c1 x y _ _ _ _ _ _ _ _
  refine ⟨1, ?_⟩
  have skip : billiardlaw12_PointMoves.j0 1 true p0 p1 q0 q1 c0 c1 x y = some true := by simp [billiardlaw12_PointMoves.j0, billiardlaw12_awake.yes]
  unfold billiardlaw12_PointMoves.f
  rw [billiardlaw12_awake.yes]
  simp only [Option.bind_some, if_true]
  rcases Right_cases p0 p1 q0 q1 c0 c1 with ⟨e, h⟩ | e
  · rw [e]
    simp only [Option.bind_some, if_true, skip]
    by_cases c1' : x < -1000000000
    · rw [if_pos c1']
    · rw [if_neg c1']
      by_cases c2' : x > 1000000000
      · rw [if_pos c2']
      · rw [if_neg c2']
        by_cases c3' : y < -1000000000
        · rw [if_pos c3']
        · rw [if_neg c3']
          by_cases c4' : y > 1000000000
          · rw [decide_eq_true c4', skip]
          · rw [decide_eq_false c4']
            exact moves_last p0 p1 q0 q1 c0 c1 x y h (by omega) (by omega) 0
  · rw [e]
    simp [skip]

end Go.Proofs.Ytpklgbkehkbopaa.Pure
