/- What segment.choose answers for segments in range, and that the examples of the document's chapter 13 hold. -/
import Derived.Test.YtddooigcnbpliaaMrefpt
import Derived.Test.YtddooigcnbpliaaQsegment
import Derived.Test.YtddooigcnbpliaaQbilliardref13
import Derived.Test.YtddooigcnbpliaaQbilliardlaw13
namespace Go.Proofs.Ytddooigcnbpliaa.Q
open Go.RowKit Go.Proofs.YtddooigcnbpliaaW.PrintWords Go.Proofs.YtddooigcnbpliaaW.PrintLast Go.Proofs.YtddooigcnbpliaaW.PrintMore
set_option linter.unusedVariables false
def Right4 (p0 p1 q0 q1 u0 u1 v0 v1 : Int) : Prop := RightP p0 p1 q0 q1 u0 u1 ∧ RightP u0 u1 v0 v1 p0 p1
theorem Right4_cases (p0 p1 q0 q1 u0 u1 v0 v1 : Int) : (billiardref13_Right.f p0 p1 q0 q1 u0 u1 v0 v1 = some true ∧ Right4 p0 p1 q0 q1 u0 u1 v0 v1) ∨ billiardref13_Right.f p0 p1 q0 q1 u0 u1 v0 v1 = some false := by
  unfold billiardref13_Right.f
  rcases Right_cases p0 p1 q0 q1 u0 u1 with ⟨e, h⟩ | e
  · rcases Right_cases u0 u1 v0 v1 p0 p1 with ⟨g, k⟩ | g
    · exact Or.inl ⟨by rw [e, g]; rfl, h, k⟩
    · exact Or.inr (by rw [e, g]; rfl)
  · exact Or.inr (by rw [e]; rfl)
theorem Right4.all {p0 p1 q0 q1 u0 u1 v0 v1 : Int} (h : Right4 p0 p1 q0 q1 u0 u1 v0 v1) : RightP u0 u1 v0 v1 p0 p1 ∧ RightP u0 u1 v0 v1 q0 q1 ∧ RightP p0 p1 q0 q1 u0 u1 ∧ RightP p0 p1 q0 q1 v0 v1 := by
  obtain ⟨⟨a1, a2, b1, b2, d1, d2, hx, hy⟩, ⟨c1, c2, e1, e2, g1, g2, kx, ky⟩⟩ := h
  exact ⟨⟨c1, c2, e1, e2, a1, a2, kx, ky⟩, ⟨c1, c2, e1, e2, b1, b2, kx, ky⟩, ⟨a1, a2, b1, b2, d1, d2, hx, hy⟩, ⟨a1, a2, b1, b2, e1, e2, hx, hy⟩⟩
theorem Right4.swap {p0 p1 q0 q1 u0 u1 v0 v1 : Int} (h : Right4 p0 p1 q0 q1 u0 u1 v0 v1) : Right4 u0 u1 v0 v1 p0 p1 q0 q1 := ⟨h.2, h.1⟩
theorem segNext.is {s : Int × Int × Int × Int × Int} {x0 x1 y0 y1 : Int} (h0 : InB x0) (h1 : InB x1) (h2 : InB y0) (h3 : InB y1) : segNext s x0 x1 y0 y1 = some (segStep s x0 x1 y0 y1 (dS (y0 - x0) (y1 - x1))) := by
  unfold segNext vec_Diff.f
  simp only [Option.bind_some]
  rw [wdiff h2 h0, wdiff h3 h1, vec_LengthSq.far (in_diff h2 h0) (in_diff h3 h1)]
  rfl
/-- What is chosen of four candidates. -/
def seg4 (p0 p1 q0 q1 u0 u1 v0 v1 : Int) : Int × Int × Int × Int × Int :=
  segStep (segStep (segStep (segStep (0, 0, 0, 0, 18446744073709551615) p0 p1 (nX u0 u1 v0 v1 p0 p1) (nY u0 u1 v0 v1 p0 p1) (dS (nX u0 u1 v0 v1 p0 p1 - p0) (nY u0 u1 v0 v1 p0 p1 - p1)))
    q0 q1 (nX u0 u1 v0 v1 q0 q1) (nY u0 u1 v0 v1 q0 q1) (dS (nX u0 u1 v0 v1 q0 q1 - q0) (nY u0 u1 v0 v1 q0 q1 - q1)))
    (nX p0 p1 q0 q1 u0 u1) (nY p0 p1 q0 q1 u0 u1) u0 u1 (dS (u0 - nX p0 p1 q0 q1 u0 u1) (u1 - nY p0 p1 q0 q1 u0 u1)))
    (nX p0 p1 q0 q1 v0 v1) (nY p0 p1 q0 q1 v0 v1) v0 v1 (dS (v0 - nX p0 p1 q0 q1 v0 v1) (v1 - nY p0 p1 q0 q1 v0 v1))
theorem segment_choose.is {p0 p1 q0 q1 u0 u1 v0 v1 : Int} (h : Right4 p0 p1 q0 q1 u0 u1 v0 v1) : segment_choose.f p0 p1 q0 q1 u0 u1 v0 v1 = some (seg4 p0 p1 q0 q1 u0 u1 v0 v1) := by
  obtain ⟨h1, h2, h3, h4⟩ := h.all
  obtain ⟨i1, j1⟩ := n_in h1
  obtain ⟨i2, j2⟩ := n_in h2
  obtain ⟨i3, j3⟩ := n_in h3
  obtain ⟨i4, j4⟩ := n_in h4
  have k1 := h1
  have k2 := h2
  have k3 := h3
  have k4 := h4
  obtain ⟨_, _, _, _, a1, a2, _, _⟩ := k1
  obtain ⟨_, _, _, _, b1, b2, _, _⟩ := k2
  obtain ⟨_, _, _, _, c1, c2, _, _⟩ := k3
  obtain ⟨_, _, _, _, d1, d2, _, _⟩ := k4
  unfold segment_choose.f seg4
  rw [Nearest_n h1]
  simp only [Option.bind_some]
  rw [segNext.is a1 a2 i1 j1]
  simp only [Option.bind_some]
  rw [Nearest_n h2]
  simp only [Option.bind_some]
  rw [segNext.is b1 b2 i2 j2]
  simp only [Option.bind_some]
  rw [Nearest_n h3]
  simp only [Option.bind_some]
  rw [segNext.is i3 j3 c1 c2]
  simp only [Option.bind_some]
  rw [Nearest_n h4]
  simp only [Option.bind_some]
  rw [segNext.is i4 j4 d1 d2]
/-- The four squares of distances. -/
structure Four (p0 p1 q0 q1 u0 u1 v0 v1 d1 d2 d3 d4 : Int) : Prop where
  e1 : dS (nX u0 u1 v0 v1 p0 p1 - p0) (nY u0 u1 v0 v1 p0 p1 - p1) = d1
  e2 : dS (nX u0 u1 v0 v1 q0 q1 - q0) (nY u0 u1 v0 v1 q0 q1 - q1) = d2
  e3 : dS (u0 - nX p0 p1 q0 q1 u0 u1) (u1 - nY p0 p1 q0 q1 u0 u1) = d3
  e4 : dS (v0 - nX p0 p1 q0 q1 v0 v1) (v1 - nY p0 p1 q0 q1 v0 v1) = d4
  b1 : 0 ≤ d1 ∧ d1 ≤ 9368050174884052992
  b2 : 0 ≤ d2 ∧ d2 ≤ 9368050174884052992
  b3 : 0 ≤ d3 ∧ d3 ≤ 9368050174884052992
  b4 : 0 ≤ d4 ∧ d4 ≤ 9368050174884052992
theorem Four.ex {p0 p1 q0 q1 u0 u1 v0 v1 : Int} (h : Right4 p0 p1 q0 q1 u0 u1 v0 v1) : ∃ d1 d2 d3 d4, Four p0 p1 q0 q1 u0 u1 v0 v1 d1 d2 d3 d4 := by
  obtain ⟨h1, h2, h3, h4⟩ := h.all
  obtain ⟨i1, j1⟩ := n_in h1
  obtain ⟨i2, j2⟩ := n_in h2
  obtain ⟨i3, j3⟩ := n_in h3
  obtain ⟨i4, j4⟩ := n_in h4
  obtain ⟨_, _, _, _, a1, a2, _, _⟩ := h1
  obtain ⟨_, _, _, _, b1, b2, _, _⟩ := h2
  obtain ⟨_, _, _, _, c1, c2, _, _⟩ := h3
  obtain ⟨_, _, _, _, d1, d2, _, _⟩ := h4
  exact ⟨_, _, _, _, rfl, rfl, rfl, rfl, dS_bd (in_diff i1 a1) (in_diff j1 a2), dS_bd (in_diff i2 b1) (in_diff j2 b2), dS_bd (in_diff c1 i3) (in_diff c2 j3), dS_bd (in_diff d1 i4) (in_diff d2 j4)⟩
/-- One of the four candidates, with the least square, is chosen: the first of the least ones. -/
theorem Four.chosen {p0 p1 q0 q1 u0 u1 v0 v1 d1 d2 d3 d4 : Int} (h : Four p0 p1 q0 q1 u0 u1 v0 v1 d1 d2 d3 d4) :
    (seg4 p0 p1 q0 q1 u0 u1 v0 v1 = (p0, p1, nX u0 u1 v0 v1 p0 p1, nY u0 u1 v0 v1 p0 p1, d1) ∧ d1 ≤ d2 ∧ d1 ≤ d3 ∧ d1 ≤ d4) ∨
    (seg4 p0 p1 q0 q1 u0 u1 v0 v1 = (q0, q1, nX u0 u1 v0 v1 q0 q1, nY u0 u1 v0 v1 q0 q1, d2) ∧ d2 < d1 ∧ d2 ≤ d3 ∧ d2 ≤ d4) ∨
    (seg4 p0 p1 q0 q1 u0 u1 v0 v1 = (nX p0 p1 q0 q1 u0 u1, nY p0 p1 q0 q1 u0 u1, u0, u1, d3) ∧ d3 < d1 ∧ d3 < d2 ∧ d3 ≤ d4) ∨
    (seg4 p0 p1 q0 q1 u0 u1 v0 v1 = (nX p0 p1 q0 q1 v0 v1, nY p0 p1 q0 q1 v0 v1, v0, v1, d4) ∧ d4 < d1 ∧ d4 < d2 ∧ d4 < d3) := by
  obtain ⟨e1, e2, e3, e4, b1, b2, b3, b4⟩ := h
  unfold seg4
  rw [e1, e2, e3, e4]
  have s0 : segStep (0, 0, 0, 0, 18446744073709551615) p0 p1 (nX u0 u1 v0 v1 p0 p1) (nY u0 u1 v0 v1 p0 p1) d1 = (p0, p1, nX u0 u1 v0 v1 p0 p1, nY u0 u1 v0 v1 p0 p1, d1) := if_pos (show d1 < 18446744073709551615 by omega)
  rw [s0]
  have yes : ∀ (a b c e l x0 x1 y0 y1 d : Int), d < l → segStep (a, b, c, e, l) x0 x1 y0 y1 d = (x0, x1, y0, y1, d) := fun _ _ _ _ _ _ _ _ _ _ h => if_pos h
  have no : ∀ (a b c e l x0 x1 y0 y1 d : Int), ¬ d < l → segStep (a, b, c, e, l) x0 x1 y0 y1 d = (a, b, c, e, l) := fun _ _ _ _ _ _ _ _ _ _ h => if_neg h
  by_cases c2 : d2 < d1
  · rw [yes _ _ _ _ _ _ _ _ _ _ c2]
    by_cases c3 : d3 < d2
    · rw [yes _ _ _ _ _ _ _ _ _ _ c3]
      by_cases c4 : d4 < d3
      · rw [yes _ _ _ _ _ _ _ _ _ _ c4]; exact Or.inr (Or.inr (Or.inr ⟨rfl, by omega, by omega, by omega⟩))
      · rw [no _ _ _ _ _ _ _ _ _ _ c4]; exact Or.inr (Or.inr (Or.inl ⟨rfl, by omega, by omega, by omega⟩))
    · rw [no _ _ _ _ _ _ _ _ _ _ c3]
      by_cases c4 : d4 < d2
      · rw [yes _ _ _ _ _ _ _ _ _ _ c4]; exact Or.inr (Or.inr (Or.inr ⟨rfl, by omega, by omega, by omega⟩))
      · rw [no _ _ _ _ _ _ _ _ _ _ c4]; exact Or.inr (Or.inl ⟨rfl, by omega, by omega, by omega⟩)
  · rw [no _ _ _ _ _ _ _ _ _ _ c2]
    by_cases c3 : d3 < d1
    · rw [yes _ _ _ _ _ _ _ _ _ _ c3]
      by_cases c4 : d4 < d3
      · rw [yes _ _ _ _ _ _ _ _ _ _ c4]; exact Or.inr (Or.inr (Or.inr ⟨rfl, by omega, by omega, by omega⟩))
      · rw [no _ _ _ _ _ _ _ _ _ _ c4]; exact Or.inr (Or.inr (Or.inl ⟨rfl, by omega, by omega, by omega⟩))
    · rw [no _ _ _ _ _ _ _ _ _ _ c3]
      by_cases c4 : d4 < d1
      · rw [yes _ _ _ _ _ _ _ _ _ _ c4]; exact Or.inr (Or.inr (Or.inr ⟨rfl, by omega, by omega, by omega⟩))
      · rw [no _ _ _ _ _ _ _ _ _ _ c4]; exact Or.inl ⟨rfl, by omega, by omega, by omega⟩
theorem segment_DistSq.is {p0 p1 q0 q1 u0 u1 v0 v1 : Int} (h : Right4 p0 p1 q0 q1 u0 u1 v0 v1) : segment_DistSq.f p0 p1 q0 q1 u0 u1 v0 v1 = some (seg4 p0 p1 q0 q1 u0 u1 v0 v1).2.2.2.2 := by
  unfold segment_DistSq.f
  rw [segment_choose.is h]
  rfl
theorem segment_Chosen.is {p0 p1 q0 q1 u0 u1 v0 v1 : Int} (h : Right4 p0 p1 q0 q1 u0 u1 v0 v1) : segment_Chosen.f p0 p1 q0 q1 u0 u1 v0 v1 = some ((seg4 p0 p1 q0 q1 u0 u1 v0 v1).1, (seg4 p0 p1 q0 q1 u0 u1 v0 v1).2.1, (seg4 p0 p1 q0 q1 u0 u1 v0 v1).2.2.1, (seg4 p0 p1 q0 q1 u0 u1 v0 v1).2.2.2.1) := by
  unfold segment_Chosen.f
  rw [segment_choose.is h]
  rfl
/-- What is chosen has the square of distance that is told. -/
theorem Four.dist {p0 p1 q0 q1 u0 u1 v0 v1 : Int} (h : Right4 p0 p1 q0 q1 u0 u1 v0 v1) : InB (seg4 p0 p1 q0 q1 u0 u1 v0 v1).1 ∧ InB (seg4 p0 p1 q0 q1 u0 u1 v0 v1).2.1 ∧ InB (seg4 p0 p1 q0 q1 u0 u1 v0 v1).2.2.1 ∧ InB (seg4 p0 p1 q0 q1 u0 u1 v0 v1).2.2.2.1 ∧
    dS ((seg4 p0 p1 q0 q1 u0 u1 v0 v1).2.2.1 - (seg4 p0 p1 q0 q1 u0 u1 v0 v1).1) ((seg4 p0 p1 q0 q1 u0 u1 v0 v1).2.2.2.1 - (seg4 p0 p1 q0 q1 u0 u1 v0 v1).2.1) = (seg4 p0 p1 q0 q1 u0 u1 v0 v1).2.2.2.2 := by
  obtain ⟨d1, d2, d3, d4, hF⟩ := Four.ex h
  obtain ⟨h1, h2, h3, h4⟩ := h.all
  obtain ⟨i1, j1⟩ := n_in h1
  obtain ⟨i2, j2⟩ := n_in h2
  obtain ⟨i3, j3⟩ := n_in h3
  obtain ⟨i4, j4⟩ := n_in h4
  obtain ⟨_, _, _, _, a1, a2, _, _⟩ := h1
  obtain ⟨_, _, _, _, b1, b2, _, _⟩ := h2
  obtain ⟨_, _, _, _, c1, c2, _, _⟩ := h3
  obtain ⟨_, _, _, _, e1, e2, _, _⟩ := h4
  rcases hF.chosen with ⟨e, _⟩ | ⟨e, _⟩ | ⟨e, _⟩ | ⟨e, _⟩
  · rw [e]; exact ⟨a1, a2, i1, j1, hF.e1⟩
  · rw [e]; exact ⟨b1, b2, i2, j2, hF.e2⟩
  · rw [e]; exact ⟨i3, j3, c1, c2, hF.e3⟩
  · rw [e]; exact ⟨i4, j4, e1, e2, hF.e4⟩
theorem billiardref13_DistSq.is {x0 x1 y0 y1 : Int} (h0 : InB x0) (h1 : InB x1) (h2 : InB y0) (h3 : InB y1) : billiardref13_DistSq.f x0 x1 y0 y1 = some (dS (y0 - x0) (y1 - x1)) := by
  unfold billiardref13_DistSq.f
  rw [wdiff h2 h0, wdiff h3 h1, billiardref04_LengthSq.is (in_diff h2 h0) (in_diff h3 h1)]
  rfl
theorem billiardlaw13_awake.yes : billiardlaw13_awake.f = some true := by decide +kernel
end Go.Proofs.Ytddooigcnbpliaa.Q
