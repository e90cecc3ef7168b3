/- The chosen points move with the segments; those of single points are these points. -/
import Derived.Test.YtddooigcnbpliaaMseg
namespace Go.Proofs.Ytddooigcnbpliaa.Q
open Go.RowKit Go.Proofs.YtddooigcnbpliaaW.PrintWords Go.Proofs.YtddooigcnbpliaaW.PrintLast Go.Proofs.YtddooigcnbpliaaW.PrintMore
set_option linter.unusedVariables false
theorem n_move (p0 p1 q0 q1 c0 c1 a b : Int) : nX (p0 + a) (p1 + b) (q0 + a) (q1 + b) (c0 + a) (c1 + b) = nX p0 p1 q0 q1 c0 c1 + a ∧ nY (p0 + a) (p1 + b) (q0 + a) (q1 + b) (c0 + a) (c1 + b) = nY p0 p1 q0 q1 c0 c1 + b := by
  unfold nX nY
  have e1 : q0 + a - (p0 + a) = q0 - p0 := by omega
  have e2 : q1 + b - (p1 + b) = q1 - p1 := by omega
  have e3 : c0 + a - (p0 + a) = c0 - p0 := by omega
  have e4 : c1 + b - (p1 + b) = c1 - p1 := by omega
  rw [e1, e2, e3, e4]
  unfold ptS
  omega
/-- What is chosen, moved. -/
def mvS (a b : Int) (s : Int × Int × Int × Int × Int) : Int × Int × Int × Int × Int := (s.1 + a, s.2.1 + b, s.2.2.1 + a, s.2.2.2.1 + b, s.2.2.2.2)
theorem segStep_move (a b : Int) (s : Int × Int × Int × Int × Int) (x0 x1 y0 y1 d : Int) : segStep (mvS a b s) (x0 + a) (x1 + b) (y0 + a) (y1 + b) d = mvS a b (segStep s x0 x1 y0 y1 d) := by
  unfold segStep
  have e : (mvS a b s).2.2.2.2 = s.2.2.2.2 := rfl
  rw [e]
  by_cases c : d < s.2.2.2.2
  · rw [if_pos c, if_pos c]; rfl
  · rw [if_neg c, if_neg c]
theorem seg4_move {p0 p1 q0 q1 u0 u1 v0 v1 : Int} (h : Right4 p0 p1 q0 q1 u0 u1 v0 v1) (a b : Int) : seg4 (p0 + a) (p1 + b) (q0 + a) (q1 + b) (u0 + a) (u1 + b) (v0 + a) (v1 + b) = mvS a b (seg4 p0 p1 q0 q1 u0 u1 v0 v1) := by
  obtain ⟨d1, d2, d3, d4, hF⟩ := Four.ex h
  obtain ⟨e1, e2, e3, e4, b1, _⟩ := hF
  unfold seg4
  have k : ∀ x y a : Int, x + a - (y + a) = x - y := fun x y a => by omega
  rw [(n_move u0 u1 v0 v1 p0 p1 a b).1, (n_move u0 u1 v0 v1 p0 p1 a b).2, (n_move u0 u1 v0 v1 q0 q1 a b).1, (n_move u0 u1 v0 v1 q0 q1 a b).2, (n_move p0 p1 q0 q1 u0 u1 a b).1, (n_move p0 p1 q0 q1 u0 u1 a b).2, (n_move p0 p1 q0 q1 v0 v1 a b).1, (n_move p0 p1 q0 q1 v0 v1 a b).2]
  rw [k, k, k, k, k, k, k, k, e1, e2, e3, e4]
  have s0 : ∀ (x0 x1 y0 y1 : Int), segStep (0, 0, 0, 0, 18446744073709551615) x0 x1 y0 y1 d1 = (x0, x1, y0, y1, d1) := fun _ _ _ _ => if_pos (show d1 < 18446744073709551615 by omega)
  rw [s0, s0]
  rw [← segStep_move, ← segStep_move, ← segStep_move]
  rfl
theorem n_single {p0 p1 c0 c1 : Int} : nX p0 p1 p0 p1 c0 c1 = p0 ∧ nY p0 p1 p0 p1 c0 c1 = p1 := by
  unfold nX nY ptS
  simp
theorem seg4_points {p0 p1 u0 u1 : Int} (h : Right4 p0 p1 p0 p1 u0 u1 u0 u1) : (seg4 p0 p1 p0 p1 u0 u1 u0 u1).1 = p0 ∧ (seg4 p0 p1 p0 p1 u0 u1 u0 u1).2.1 = p1 ∧ (seg4 p0 p1 p0 p1 u0 u1 u0 u1).2.2.1 = u0 ∧ (seg4 p0 p1 p0 p1 u0 u1 u0 u1).2.2.2.1 = u1 := by
  obtain ⟨y1, y2, y3, y4, hH⟩ := Four.ex h
  have n1 := @n_single u0 u1 p0 p1
  have n2 := @n_single p0 p1 u0 u1
  rcases hH.chosen with ⟨e, k⟩ | ⟨e, k⟩ | ⟨e, k⟩ | ⟨e, k⟩ <;> (rw [e]; simp only [n1.1, n1.2, n2.1, n2.2]; exact ⟨trivial, trivial, trivial, trivial⟩)
end Go.Proofs.Ytddooigcnbpliaa.Q
