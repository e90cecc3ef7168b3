/- The strength is from 0 to 2^43, and 0 unless the bodies approach each other and one of them is not static; the components of the changes of both are from -2^28 to 2^28, and those of a static body are 0. No condition. -/
import Derived.Test.YtihgddcaljaojaaQImpulseSeparates
import Derived.Test.YtihgddcaljaojaaMimp
namespace Go.Proofs.Ytihgddcaljaojaa.Pure
open Go.RowKit Go.Proofs.Ytihgddcaljaojaa.Q Go.Proofs.YtihgddcaljaojaaW.PrintWords Go.Proofs.YtihgddcaljaojaaW.PrintLast Go.Proofs.YtihgddcaljaojaaW.PrintMore
set_option linter.unusedVariables false
theorem within_yes {n : Int} (h : -268435456 ≤ n ∧ n ≤ 268435456) : billiardlaw16_within.f n = some true := by
  unfold billiardlaw16_within.f
  rw [if_pos (by omega), decide_eq_true (by omega)]
/-- What an impulse changes: bounded, as a body's part of the inverse masses is at most one. -/
theorem chS_small {v m b mm n : Int} (hv : -67108864 ≤ v ∧ v ≤ 67108864) (hm : 0 ≤ m ∧ m ≤ 2097152) (hb : 0 ≤ b ∧ b ≤ 65536) (hp : 0 ≤ mm ∧ mm ≤ m) (hn : -65536 ≤ n ∧ n ≤ 65536) : -268435456 ≤ chS (stS v m b) mm n ∧ chS (stS v m b) mm n ≤ 268435456 := by
  have h0 : 0 ≤ stS v m b * mm ∧ stS v m b * mm ≤ 8796093022208 := by
    have hs := stS_in hv hm hb
    refine ⟨Int.mul_nonneg hs.1 hp.1, ?_⟩
    have h1 := Int.mul_le_mul_of_nonneg_left hp.2 hs.1
    have h2 : stS v m b * m ≤ 8796093022208 := by
      unfold stS
      split
      · omega
      · split
        · omega
        · have h := bd_mul (x := -v) (y := 65536 + b) (A := 67108864) (B := 131072) (by omega) (by omega)
          have := Int.ediv_mul_le (-v * (65536 + b)) (show m ≠ 0 by omega)
          omega
    omega
  unfold chS
  have hk : 0 ≤ stS v m b * mm / 65536 ∧ stS v m b * mm / 65536 ≤ 134217728 := by omega
  have h2 := bd_mul (x := stS v m b * mm / 65536) (y := n) (A := 134217728) (B := 65536) (by omega) (by omega)
  omega
theorem chS_zero (j n : Int) : chS j 0 n = 0 := by simp [chS]
theorem ImpulseSeparates : billiardlaw16_ImpulseSeparates.Pure := by
  intro p0 p1 n0 n1 dp k0 r0 ax0 ay0 m0 b0 px0 py0 vx0 vy0 k1 r1 ax1 ay1 m1 b1 px1 py1 vx1 vy1 _ _ _ _ _ _ _ _ _ _ _ _ _ _ _ _ _ _ _ _ _ _ _ _ _
  refine ⟨12, ?_⟩
  unfold billiardlaw16_ImpulseSeparates.f
  rw [billiardlaw16_awake.yes]
  simp only [Option.bind_some, if_true]
  rcases RightI_cases 7 p0 p1 n0 n1 dp k0 r0 ax0 ay0 m0 b0 px0 py0 vx0 vy0 k1 r1 ax1 ay1 m1 b1 px1 py1 vx1 vy1 with ⟨e, h0, h1, hn⟩ | e
  · rw [e]
    simp only [Option.bind_some, Bool.not_true, billiardlaw16_ImpulseSeparates.j0]
    rw [if_neg (by decide), impulse_Strength.is h0 h1 hn 10, billiardref16_Approach.is h0 h1 hn]
    simp only [Option.bind_some]
    have hb := mx_bd h0.b h1.b
    have hm0 := h0.m
    have hm1 := h1.m
    have hap : -67108864 ≤ apS (vx1 - vx0) (vy1 - vy0) n0 n1 ∧ apS (vx1 - vx0) (vy1 - vy0) n0 n1 ≤ 67108864 := by
      obtain ⟨_, _, _, _, _, _, _, a1, a2⟩ := h0
      obtain ⟨_, _, _, _, _, _, _, b1, b2⟩ := h1
      exact (apS_bd (ux := vx1 - vx0) (uy := vy1 - vy0) (by omega) (by omega) hn).2.2
    have hs := stS_in (v := apS (vx1 - vx0) (vy1 - vy0) n0 n1) (m := m0 + m1) (b := mx b0 b1) hap (by omega) hb
    have g1 := chS_small (v := apS (vx1 - vx0) (vy1 - vy0) n0 n1) (m := m0 + m1) (b := mx b0 b1) (mm := m0) hap (by omega) hb (by omega) hn.1
    have g2 := chS_small (v := apS (vx1 - vx0) (vy1 - vy0) n0 n1) (m := m0 + m1) (b := mx b0 b1) (mm := m0) hap (by omega) hb (by omega) hn.2
    have g3 := chS_small (v := apS (vx1 - vx0) (vy1 - vy0) n0 n1) (m := m0 + m1) (b := mx b0 b1) (mm := m1) hap (by omega) hb (by omega) hn.1
    have g4 := chS_small (v := apS (vx1 - vx0) (vy1 - vy0) n0 n1) (m := m0 + m1) (b := mx b0 b1) (mm := m1) hap (by omega) hb (by omega) hn.2
    have hz : stS (apS (vx1 - vx0) (vy1 - vy0) n0 n1) (m0 + m1) (mx b0 b1) > 0 → apS (vx1 - vx0) (vy1 - vy0) n0 n1 < 0 ∧ m0 + m1 ≠ 0 := by
      unfold stS
      intro h
      by_cases c : apS (vx1 - vx0) (vy1 - vy0) n0 n1 ≥ 0
      · rw [if_pos c] at h; omega
      · rw [if_neg c] at h
        by_cases d : m0 + m1 = 0
        · rw [if_pos d] at h; omega
        · exact ⟨by omega, d⟩
    generalize apS (vx1 - vx0) (vy1 - vy0) n0 n1 = v at *
    generalize stS v (m0 + m1) (mx b0 b1) = s at *
    have fin : billiardlaw16_ImpulseSeparates.j1 11 s false p0 p1 n0 n1 dp k0 r0 ax0 ay0 m0 b0 px0 py0 vx0 vy0 k1 r1 ax1 ay1 m1 b1 px1 py1 vx1 vy1 = some true := by
      simp only [billiardlaw16_ImpulseSeparates.j1]
      rw [if_neg (by decide), impulse_Change.is hs h0.m hn, impulse_Change.is hs h1.m hn]
      simp only [Option.bind_some]
      have last : billiardlaw16_ImpulseSeparates.j2 10 (chS s m0 n0) (chS s m0 n1) (chS s m1 n0) (chS s m1 n1) false = some true := by
        simp only [billiardlaw16_ImpulseSeparates.j2]
        rw [if_neg (by decide), within_yes g1, within_yes g2, within_yes g3, within_yes g4]
        simp
      by_cases z0 : m0 = 0
      · rw [if_pos z0]
        subst z0
        rw [if_pos (chS_zero _ _), if_pos (chS_zero _ _)]
        by_cases z1 : m1 = 0
        · rw [if_pos z1]
          subst z1
          rw [if_pos (chS_zero _ _)]
          have : (chS s 0 n1 != 0) = false := by rw [chS_zero]; rfl
          rw [this]
          exact last
        · rw [if_neg z1]; exact last
      · rw [if_neg z0]
        by_cases z1 : m1 = 0
        · rw [if_pos z1]
          subst z1
          rw [if_pos (chS_zero _ _)]
          have : (chS s 0 n1 != 0) = false := by rw [chS_zero]; rfl
          rw [this]
          exact last
        · rw [if_neg z1]; exact last
    rw [if_neg (by omega), if_neg (by omega)]
    by_cases c : s > 0
    · obtain ⟨z1, z2⟩ := hz c
      rw [if_pos c, if_neg (by omega), w32_id (by omega) (by omega), beq_eq_false_iff_ne.mpr z2]
      exact fin
    · rw [if_neg c]
      exact fin
  · rw [e]
    simp [billiardlaw16_ImpulseSeparates.j0, billiardlaw16_awake.yes]

end Go.Proofs.Ytihgddcaljaojaa.Pure
