/- A point that misses the exact nearest point by less than one in each direction is farther by less than two. -/
import Derived.Test.YtpklgbkehkbopaaMnum
namespace Go.Proofs.Ytpklgbkehkbopaa.Q
open Go.RowKit Go.Proofs.YtpklgbkehkbopaaW.PrintWords Go.Proofs.YtpklgbkehkbopaaW.PrintLast Go.Proofs.YtpklgbkehkbopaaW.PrintMore
set_option linter.unusedVariables false
theorem near_geo {V1 V2 r1 r2 d A b : Int} (hd : 0 < d) (h1 : 0 ≤ r1 ∧ r1 < d) (h2 : 0 ≤ r2 ∧ r2 < d) (hV : V1 * V1 + V2 * V2 ≤ d * d * A) (hb : 0 ≤ b) (hA : A < (b + 1) * (b + 1)) :
    (V1 - r1) * (V1 - r1) + (V2 - r2) * (V2 - r2) < d * d * ((b + 3) * (b + 3)) := by
  obtain ⟨X, hX⟩ : ∃ X, d * (b + 1) = X := ⟨_, rfl⟩
  have hX0 : 0 < X := by rw [← hX]; exact Int.mul_pos hd (by omega)
  have hdd : 0 < d * d := Int.mul_pos hd hd
  have hXX : 0 < X * X := Int.mul_pos hX0 hX0
  have a1 : d * d * (A + 1) ≤ d * d * ((b + 1) * (b + 1)) := Int.mul_le_mul_of_nonneg_left (by omega) (by omega)
  have a2 : d * d * ((b + 1) * (b + 1)) = X * X := by rw [← hX]; grind
  have a3 : d * d * (A + 1) = d * d * A + d * d := by grind
  have v0 : V1 * V1 + V2 * V2 < X * X := by omega
  have v1 := sq_nn V1
  have v2 := sq_nn V2
  have s1 : r1 * r1 ≤ d * d := sq_mono h1.1 (by omega)
  have s2 : r2 * r2 ≤ d * d := sq_mono h2.1 (by omega)
  have t1 := sq_nn r1
  have t2 := sq_nn r2
  have c0 := sq_nn (V1 * r2 - V2 * r1)
  have c1 : (V1 * V1 + V2 * V2) * (r1 * r1 + r2 * r2) = (V1 * r1 + V2 * r2) * (V1 * r1 + V2 * r2) + (V1 * r2 - V2 * r1) * (V1 * r2 - V2 * r1) := by grind
  have c2 : (V1 * V1 + V2 * V2) * (r1 * r1 + r2 * r2) ≤ X * X * (2 * (d * d)) := Int.mul_le_mul (by omega) (by omega) (by omega) (by omega)
  have c3 : X * X * (2 * (d * d)) < (2 * (d * X)) * (2 * (d * X)) := by
    have e : (2 * (d * X)) * (2 * (d * X)) = X * X * (2 * (d * d)) + X * X * (2 * (d * d)) := by grind
    have := Int.mul_pos hXX (show 0 < 2 * (d * d) by omega)
    omega
  have hdX : 0 < d * X := Int.mul_pos hd hX0
  have c4 := sq_lt_cancel (a := V1 * r1 + V2 * r2) (b := 2 * (d * X)) (by omega) (by omega)
  have e1 : (V1 - r1) * (V1 - r1) + (V2 - r2) * (V2 - r2) = (V1 * V1 + V2 * V2) - 2 * (V1 * r1 + V2 * r2) + (r1 * r1 + r2 * r2) := by grind
  have e2 : d * d * ((b + 3) * (b + 3)) = X * X + 4 * (d * X) + 4 * (d * d) := by rw [← hX]; grind
  omega
end Go.Proofs.Ytpklgbkehkbopaa.Q
