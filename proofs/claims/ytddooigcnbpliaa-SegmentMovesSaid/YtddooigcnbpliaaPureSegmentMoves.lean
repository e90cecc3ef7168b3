/- Moving both segments by the same vector moves the chosen points. No condition. -/
import Derived.Test.YtddooigcnbpliaaQSegmentMoves
import Derived.Test.YtddooigcnbpliaaMsegmv
namespace Go.Proofs.Ytddooigcnbpliaa.Pure
open Go.RowKit Go.Proofs.Ytddooigcnbpliaa.Q Go.Proofs.YtddooigcnbpliaaW.PrintWords Go.Proofs.YtddooigcnbpliaaW.PrintLast Go.Proofs.YtddooigcnbpliaaW.PrintMore
set_option linter.unusedVariables false
theorem SegmentMoves : billiardlaw13_SegmentMoves.Pure := by
  intro p0 p1 q0 q1 u0 u1 v0 v1 a b _ _ _ _ _ _ _ _ _ _
  refine ⟨2, ?_⟩
  have hend : billiardlaw13_SegmentMoves.j0 2 true p0 p1 q0 q1 u0 u1 v0 v1 a b = some true := by
    rw [billiardlaw13_SegmentMoves.j0, if_pos rfl, billiardlaw13_awake.yes]
    rfl
  unfold billiardlaw13_SegmentMoves.f
  rw [billiardlaw13_awake.yes]
  simp only [Option.bind_some, if_true]
  rcases Right4_cases p0 p1 q0 q1 u0 u1 v0 v1 with ⟨e, h⟩ | e
  rotate_left
  · rw [e]
    simp only [Option.bind_some]
    rw [if_neg (by decide)]
    exact hend
  rw [e]
  simp only [Option.bind_some]
  rw [if_pos trivial]
  by_cases c1 : a < -1000000000
  · rw [if_pos c1]; exact hend
  rw [if_neg c1]
  by_cases c2 : a > 1000000000
  · rw [if_pos c2]; exact hend
  rw [if_neg c2]
  by_cases c3 : b < -1000000000
  · rw [if_pos c3]; exact hend
  rw [if_neg c3]
  by_cases c4 : b > 1000000000
  · rw [decide_eq_true c4]; exact hend
  rw [decide_eq_false c4, billiardlaw13_SegmentMoves.j0, if_neg (by decide)]
  have mv : ∀ x y : Int, InB x → InB y → billiardlaw13_move.f x y a b = some (x + a, y + b) := fun x y hx hy => by
    unfold InB at hx hy
    unfold billiardlaw13_move.f
    rw [show wrap32 (x + a) = x + a by unfold wrap32; omega, show wrap32 (y + b) = y + b by unfold wrap32; omega]
  have hr := h
  obtain ⟨⟨i1, i2, i3, i4, i5, i6, _, _⟩, ⟨_, _, i7, i8, _, _, _, _⟩⟩ := hr
  rw [mv _ _ i1 i2]
  simp only [Option.bind_some]
  rw [mv _ _ i3 i4]
  simp only [Option.bind_some]
  rw [mv _ _ i5 i6]
  simp only [Option.bind_some]
  rw [mv _ _ i7 i8]
  simp only [Option.bind_some]
  rcases Right4_cases (p0 + a) (p1 + b) (q0 + a) (q1 + b) (u0 + a) (u1 + b) (v0 + a) (v1 + b) with ⟨e2, h2⟩ | e2
  rotate_left
  · rw [e2]
    simp only [Option.bind_some]
    rw [if_neg (by decide)]
  rw [e2]
  simp only [Option.bind_some]
  obtain ⟨g1, g2, g3, g4, _⟩ := Four.dist h
  rw [if_pos trivial, segment_Chosen.is h]
  simp only [Option.bind_some]
  rw [segment_Chosen.is h2, seg4_move h]
  simp only [Option.bind_some]
  rw [mv _ _ g1 g2]
  simp only [Option.bind_some]
  rw [mv _ _ g3 g4]
  simp [mvS]
end Go.Proofs.Ytddooigcnbpliaa.Pure
