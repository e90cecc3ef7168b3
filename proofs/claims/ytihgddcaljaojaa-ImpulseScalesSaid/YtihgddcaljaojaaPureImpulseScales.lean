/- A greater impulse or inverse mass changes the velocity along the normal at least as much; without an impulse, nothing changes. No condition. -/
import Derived.Test.YtihgddcaljaojaaQImpulseScales
import Derived.Test.YtihgddcaljaojaaMimp
namespace Go.Proofs.Ytihgddcaljaojaa.Pure
open Go.RowKit Go.Proofs.Ytihgddcaljaojaa.Q Go.Proofs.YtihgddcaljaojaaW.PrintWords Go.Proofs.YtihgddcaljaojaaW.PrintLast Go.Proofs.YtihgddcaljaojaaW.PrintMore
set_option linter.unusedVariables false
theorem chS_mono {j l m n : Int} (hj : 0 ≤ j) (hl : j ≤ l) (hm : 0 ≤ m) : (0 ≤ n → 0 ≤ chS j m n ∧ chS j m n ≤ chS l m n) ∧ (n < 0 → chS j m n ≤ 0 ∧ chS l m n ≤ chS j m n) := by
  have h1 := Int.mul_le_mul_of_nonneg_right hl hm
  have h0 := Int.mul_nonneg hj hm
  have k0 : 0 ≤ j * m / 65536 := by omega
  have k1 : j * m / 65536 ≤ l * m / 65536 := by omega
  unfold chS
  constructor
  · intro hn
    have a := Int.mul_nonneg k0 hn
    have b := Int.mul_le_mul_of_nonneg_right k1 hn
    omega
  · intro hn
    have a := Int.mul_nonneg k0 (show 0 ≤ -n by omega)
    have b := Int.mul_le_mul_of_nonneg_right k1 (show 0 ≤ -n by omega)
    rw [Int.mul_neg] at a b
    rw [Int.mul_neg] at b
    omega
theorem chS_none (m n : Int) : chS 0 m n = 0 := by simp [chS]
theorem ImpulseScales : billiardlaw16_ImpulseScales.Pure := by
  intro n0 n1 j l m _ _ _ _ _
  refine ⟨12, ?_⟩
  unfold billiardlaw16_ImpulseScales.f
  rw [billiardlaw16_awake.yes]
  simp only [Option.bind_some, if_true]
  have early : billiardlaw16_ImpulseScales.j0 12 j l m true n0 n1 = some true := by simp [billiardlaw16_ImpulseScales.j0, billiardlaw16_awake.yes]
  rw [billiardref05_In.is n0 65536 (by omega), billiardref05_In.is n1 65536 (by omega)]
  by_cases c1 : -65536 ≤ n0 ∧ n0 ≤ 65536
  rotate_left
  · rw [decide_eq_false c1]; exact early
  rw [decide_eq_true c1]
  by_cases c2 : -65536 ≤ n1 ∧ n1 ≤ 65536
  rotate_left
  · rw [decide_eq_false c2]; exact early
  rw [decide_eq_true c2]
  simp only [Option.bind_some, if_true]
  by_cases c3 : j < 0
  · rw [if_pos c3]; exact early
  rw [if_neg c3]
  by_cases c4 : l < j
  · rw [if_pos c4]; exact early
  rw [if_neg c4]
  by_cases c5 : l > 8796093022208
  · rw [if_pos c5]; exact early
  rw [if_neg c5]
  by_cases c6 : m < 0
  · rw [if_pos c6]; exact early
  rw [if_neg c6]
  by_cases c7 : m > 1048576
  · rw [decide_eq_true c7]; exact early
  rw [decide_eq_false c7]
  simp only [billiardlaw16_ImpulseScales.j0]
  have hn : NormB n0 n1 := ⟨c1, c2⟩
  rw [if_neg (by decide), impulse_Change.is (by omega) (by omega) hn, impulse_Change.is (by omega) (by omega) hn, impulse_Change.is (by omega) (by omega) hn]
  simp only [Option.bind_some]
  rw [if_pos (chS_none _ _), if_pos (chS_none _ _)]
  have g1 := chS_mono (n := n0) (show 0 ≤ j by omega) (show j ≤ l by omega) (show 0 ≤ m by omega)
  have g2 := chS_mono (n := n1) (show 0 ≤ j by omega) (show j ≤ l by omega) (show 0 ≤ m by omega)
  generalize chS j m n0 = x at *
  generalize chS l m n0 = z at *
  generalize chS j m n1 = y at *
  generalize chS l m n1 = w at *
  by_cases d0 : n0 ≥ 0
  · have k1 := g1.1 d0
    rw [if_pos d0, if_neg (by omega), if_neg (by omega), if_neg (by omega)]
    by_cases d1 : n1 < 0
    · have k2 := g2.2 d1
      rw [if_pos d1, if_neg (by omega), if_pos (by omega), decide_eq_true (by omega)]
    · have k2 := g2.1 (by omega)
      rw [if_neg d1, if_pos (by omega), if_pos (by omega), if_pos (by omega)]
  · have k1 := g1.2 (by omega)
    rw [if_neg d0, if_pos (by omega), if_neg (by omega), if_neg (by omega)]
    by_cases d1 : n1 < 0
    · have k2 := g2.2 d1
      rw [if_pos d1, if_neg (by omega), if_pos (by omega), decide_eq_true (by omega)]
    · have k2 := g2.1 (by omega)
      rw [if_neg d1, if_pos (by omega), if_pos (by omega), if_pos (by omega)]

end Go.Proofs.Ytihgddcaljaojaa.Pure
