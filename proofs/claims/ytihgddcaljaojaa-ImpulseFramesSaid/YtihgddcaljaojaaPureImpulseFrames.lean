/- Adding the same velocity to both bodies changes neither the approach nor the strength. No condition. -/
import Derived.Test.YtihgddcaljaojaaQImpulseFrames
import Derived.Test.YtihgddcaljaojaaMimp
namespace Go.Proofs.Ytihgddcaljaojaa.Pure
open Go.RowKit Go.Proofs.Ytihgddcaljaojaa.Q Go.Proofs.YtihgddcaljaojaaW.PrintWords Go.Proofs.YtihgddcaljaojaaW.PrintLast Go.Proofs.YtihgddcaljaojaaW.PrintMore
set_option linter.unusedVariables false
set_option linter.unusedSimpArgs false
theorem ImpulseFrames : billiardlaw16_ImpulseFrames.Pure := by
  intro p0 p1 n0 n1 dp k0 r0 ax0 ay0 m0 b0 px0 py0 vx0 vy0 k1 r1 ax1 ay1 m1 b1 px1 py1 vx1 vy1 d0 d1 _ _ _ _ _ _ _ _ _ _ _ _ _ _ _ _ _ _ _ _ _ _ _ _ _ _ _
  refine ⟨12, ?_⟩
  unfold billiardlaw16_ImpulseFrames.f
  rw [billiardlaw16_awake.yes]
  simp only [Option.bind_some, if_true]
  have early : billiardlaw16_ImpulseFrames.j0 12 true p0 p1 n0 n1 dp k0 r0 ax0 ay0 m0 b0 px0 py0 vx0 vy0 k1 r1 ax1 ay1 m1 b1 px1 py1 vx1 vy1 d0 d1 = some true := by simp [billiardlaw16_ImpulseFrames.j0, billiardlaw16_awake.yes]
  rcases RightI_cases 7 p0 p1 n0 n1 dp k0 r0 ax0 ay0 m0 b0 px0 py0 vx0 vy0 k1 r1 ax1 ay1 m1 b1 px1 py1 vx1 vy1 with ⟨e, h0, h1, hn⟩ | e
  rotate_left
  · rw [e]; exact early
  rw [e]
  simp only [Option.bind_some, if_true]
  rw [billiardref05_In.is d0 16777216 (by omega), billiardref05_In.is d1 16777216 (by omega)]
  by_cases c1 : -16777216 ≤ d0 ∧ d0 ≤ 16777216
  rotate_left
  · rw [decide_eq_false c1]; exact early
  rw [decide_eq_true c1]
  by_cases c2 : -16777216 ≤ d1 ∧ d1 ≤ 16777216
  rotate_left
  · rw [decide_eq_false c2]; exact early
  rw [decide_eq_true c2]
  simp only [Option.bind_some, if_true, Bool.not_true, billiardlaw16_ImpulseFrames.j0]
  rw [if_neg (by decide)]
  rcases RightI_cases 6 p0 p1 n0 n1 dp k0 r0 ax0 ay0 m0 b0 px0 py0 (wrap32 (vx0 + d0)) (wrap32 (vy0 + d1)) k1 r1 ax1 ay1 m1 b1 px1 py1 (wrap32 (vx1 + d0)) (wrap32 (vy1 + d1)) with ⟨e, h2, h3, _⟩ | e
  · rw [e]
    simp only [Option.bind_some, Bool.not_true]
    have v0 := h0.vx
    have v1 := h0.vy
    have v2 := h1.vx
    have v3 := h1.vy
    rw [impulse_Approach.is h2 h3 hn, impulse_Approach.is h0 h1 hn, impulse_Strength.is h2 h3 hn, impulse_Strength.is h0 h1 hn]
    rw [w32_id (n := vx0 + d0) (by omega) (by omega), w32_id (n := vx1 + d0) (by omega) (by omega), w32_id (n := vy0 + d1) (by omega) (by omega), w32_id (n := vy1 + d1) (by omega) (by omega)]
    have e1 : vx1 + d0 - (vx0 + d0) = vx1 - vx0 := by omega
    have e2 : vy1 + d1 - (vy0 + d1) = vy1 - vy0 := by omega
    rw [e1, e2]
    simp
  · rw [e]
    simp

end Go.Proofs.Ytihgddcaljaojaa.Pure
