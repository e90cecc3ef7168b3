/- A greater bounce of either body does not make the strength less, and at most doubles it, up to one unit. No condition. -/
import Derived.Test.YtihgddcaljaojaaQImpulseBounces
import Derived.Test.YtihgddcaljaojaaMimp
namespace Go.Proofs.Ytihgddcaljaojaa.Pure
open Go.RowKit Go.Proofs.Ytihgddcaljaojaa.Q Go.Proofs.YtihgddcaljaojaaW.PrintWords Go.Proofs.YtihgddcaljaojaaW.PrintLast Go.Proofs.YtihgddcaljaojaaW.PrintMore
set_option linter.unusedVariables false
theorem stS_bounce {v m b c : Int} (hv : -67108864 ≤ v ∧ v ≤ 67108864) (hm : 0 ≤ m ∧ m ≤ 2097152) (hb : 0 ≤ b ∧ b ≤ c) (hc : c ≤ 65536) : stS v m b ≤ stS v m c ∧ stS v m c ≤ 2 * stS v m b + 2 := by
  unfold stS
  by_cases h0 : v ≥ 0
  · rw [if_pos h0, if_pos h0]; omega
  rw [if_neg h0, if_neg h0]
  by_cases h1 : m = 0
  · rw [if_pos h1, if_pos h1]; omega
  rw [if_neg h1, if_neg h1]
  have hm0 : 0 < m := by omega
  have a1 : -v * (65536 + b) ≤ -v * (65536 + c) := Int.mul_le_mul_of_nonneg_left (by omega) (by omega)
  have a2 : -v * (65536 + c) ≤ -v * (2 * (65536 + b)) := Int.mul_le_mul_of_nonneg_left (by omega) (by omega)
  have a3 : -v * (2 * (65536 + b)) = 2 * (-v * (65536 + b)) := by grind
  refine ⟨Int.ediv_le_ediv hm0 a1, ?_⟩
  have h4 := Int.lt_ediv_add_one_mul_self (-v * (65536 + b)) hm0
  generalize -v * (65536 + b) / m = q at *
  have h5 : -v * (65536 + c) < (2 * q + 2) * m := by
    have e : (2 * q + 2) * m = 2 * ((q + 1) * m) := by grind
    omega
  have := Int.ediv_lt_of_lt_mul hm0 h5
  omega
theorem ImpulseBounces : billiardlaw16_ImpulseBounces.Pure := by
  intro p0 p1 n0 n1 dp k0 r0 ax0 ay0 m0 b0 px0 py0 vx0 vy0 k1 r1 ax1 ay1 m1 b1 px1 py1 vx1 vy1 bb _ _ _ _ _ _ _ _ _ _ _ _ _ _ _ _ _ _ _ _ _ _ _ _ _ _
  refine ⟨12, ?_⟩
  unfold billiardlaw16_ImpulseBounces.f
  rw [billiardlaw16_awake.yes]
  simp only [Option.bind_some, if_true]
  have early : billiardlaw16_ImpulseBounces.j0 12 true p0 p1 n0 n1 dp k0 r0 ax0 ay0 m0 b0 px0 py0 vx0 vy0 k1 r1 ax1 ay1 m1 b1 px1 py1 vx1 vy1 k0 r0 ax0 ay0 m0 bb px0 py0 vx0 vy0 = some true := by simp [billiardlaw16_ImpulseBounces.j0, billiardlaw16_awake.yes]
  rcases RightI_cases 7 p0 p1 n0 n1 dp k0 r0 ax0 ay0 m0 b0 px0 py0 vx0 vy0 k1 r1 ax1 ay1 m1 b1 px1 py1 vx1 vy1 with ⟨e, h0, h1, hn⟩ | e
  rotate_left
  · rw [e]; exact early
  rw [e]
  simp only [Option.bind_some, if_true]
  rcases RightI_cases 7 p0 p1 n0 n1 dp k0 r0 ax0 ay0 m0 bb px0 py0 vx0 vy0 k1 r1 ax1 ay1 m1 b1 px1 py1 vx1 vy1 with ⟨e, h2, _, _⟩ | e
  rotate_left
  · rw [e]; exact early
  rw [e]
  simp only [Option.bind_some, if_true]
  by_cases c : bb < b0
  · rw [decide_eq_true c]; exact early
  rw [decide_eq_false c]
  simp only [billiardlaw16_ImpulseBounces.j0]
  rw [if_neg (by decide), impulse_Strength.is h0 h1 hn 10, impulse_Strength.is h2 h1 hn 10]
  simp only [Option.bind_some]
  have hb := mx_bd h0.b h1.b
  have hb2 := mx_bd h2.b h1.b
  have hm0 := h0.m
  have hm1 := h1.m
  have hap : -67108864 ≤ apS (vx1 - vx0) (vy1 - vy0) n0 n1 ∧ apS (vx1 - vx0) (vy1 - vy0) n0 n1 ≤ 67108864 := by
    obtain ⟨_, _, _, _, _, _, _, a1, a2⟩ := h0
    obtain ⟨_, _, _, _, _, _, _, b1, b2⟩ := h1
    exact (apS_bd (ux := vx1 - vx0) (uy := vy1 - vy0) (by omega) (by omega) hn).2.2
  have hmono : mx b0 b1 ≤ mx bb b1 := by unfold mx; omega
  have hs := stS_in (v := apS (vx1 - vx0) (vy1 - vy0) n0 n1) (m := m0 + m1) (b := mx b0 b1) hap (by omega) hb
  obtain ⟨g1, g2⟩ := stS_bounce (v := apS (vx1 - vx0) (vy1 - vy0) n0 n1) (m := m0 + m1) (b := mx b0 b1) (c := mx bb b1) hap (by omega) ⟨hb.1, hmono⟩ hb2.2
  generalize stS (apS (vx1 - vx0) (vy1 - vy0) n0 n1) (m0 + m1) (mx b0 b1) = s at *
  generalize stS (apS (vx1 - vx0) (vy1 - vy0) n0 n1) (m0 + m1) (mx bb b1) = t at *
  rw [if_pos (by omega), w64_id (n := 2 * s) (by omega) (by omega), w64_id (by omega) (by omega), decide_eq_true (by omega)]

end Go.Proofs.Ytihgddcaljaojaa.Pure
