/- For all contacts and bodies, the approach, the bounce, the strength, and the change of velocity are those of the reference implementation. No condition. -/
import Derived.Test.YtihgddcaljaojaaQImpulseMatchesReference
import Derived.Test.YtihgddcaljaojaaMimp
namespace Go.Proofs.Ytihgddcaljaojaa.Pure
open Go.RowKit Go.Proofs.Ytihgddcaljaojaa.Q Go.Proofs.YtihgddcaljaojaaW.PrintWords Go.Proofs.YtihgddcaljaojaaW.PrintLast Go.Proofs.YtihgddcaljaojaaW.PrintMore
set_option linter.unusedVariables false
theorem ImpulseMatchesReference : billiardlaw16_ImpulseMatchesReference.Pure := by
  intro p0 p1 n0 n1 dp k0 r0 ax0 ay0 m0 b0 px0 py0 vx0 vy0 k1 r1 ax1 ay1 m1 b1 px1 py1 vx1 vy1 j inv _ _ _ _ _ _ _ _ _ _ _ _ _ _ _ _ _ _ _ _ _ _ _ _ _ _ _
  refine ⟨12, ?_⟩
  unfold billiardlaw16_ImpulseMatchesReference.f
  rw [billiardlaw16_awake.yes]
  simp only [Option.bind_some, if_true]
  rcases RightI_cases 7 p0 p1 n0 n1 dp k0 r0 ax0 ay0 m0 b0 px0 py0 vx0 vy0 k1 r1 ax1 ay1 m1 b1 px1 py1 vx1 vy1 with ⟨e, h0, h1, hn⟩ | e
  · rw [e]
    simp only [Option.bind_some, Bool.not_true, billiardlaw16_ImpulseMatchesReference.j0]
    rw [if_neg (by decide), impulse_Approach.is h0 h1 hn, billiardref16_Approach.is h0 h1 hn]
    simp only [Option.bind_some, if_true]
    unfold impulse_Bounce.f
    simp only [Option.bind_some, if_true]
    rw [impulse_Strength.is h0 h1 hn 10, billiardref16_Strength.is h0 h1 hn]
    simp only [Option.bind_some, bne_self_eq_false, billiardlaw16_ImpulseMatchesReference.j1]
    rw [if_neg (by decide)]
    by_cases c1 : j < 0
    · rw [if_pos c1]; simp [billiardlaw16_ImpulseMatchesReference.j2]
    rw [if_neg c1]
    by_cases c2 : j > 8796093022208
    · rw [if_pos c2]; simp [billiardlaw16_ImpulseMatchesReference.j2]
    rw [if_neg c2]
    by_cases c3 : inv < 0
    · rw [if_pos c3]; simp [billiardlaw16_ImpulseMatchesReference.j2]
    rw [if_neg c3]
    by_cases c4 : inv > 1048576
    · rw [decide_eq_true c4]; simp [billiardlaw16_ImpulseMatchesReference.j2]
    rw [decide_eq_false c4]
    simp only [billiardlaw16_ImpulseMatchesReference.j2]
    rw [if_neg (by decide), impulse_Change.is (by omega) (by omega) hn, billiardref16_ChangeX.is (by omega) (by omega) hn.1, billiardref16_ChangeX.is (by omega) (by omega) hn.2]
    simp
  · rw [e]
    simp [billiardlaw16_ImpulseMatchesReference.j0, billiardlaw16_awake.yes]

end Go.Proofs.Ytihgddcaljaojaa.Pure
