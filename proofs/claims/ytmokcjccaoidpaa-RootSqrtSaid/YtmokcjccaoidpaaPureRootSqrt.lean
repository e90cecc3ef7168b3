/- The square of the root of a fixed-point number is at most the number, and that of the next one is greater. No condition. -/
import Derived.Test.YtmokcjccaoidpaaQRootSqrt
import Derived.Test.YtmokcjccaoidpaaMlaw03
namespace Go.Proofs.Ytmokcjccaoidpaa.Pure
open Go.RowKit Go.Proofs.Ytmokcjccaoidpaa.Q Go.Proofs.YtmokcjccaoidpaaW.PrintWords Go.Proofs.YtmokcjccaoidpaaW.PrintLast
set_option linter.unusedVariables false

theorem RootSqrt : billiardlaw03_RootSqrt.Pure := by
  intro a ha
  obtain ⟨a0, a1⟩ := wf_i32 ha
  refine ⟨34, ?_⟩
  unfold billiardlaw03_RootSqrt.f
  rw [billiardlaw03_awake.yes 34 (by omega)]
  simp only [Option.bind_some, if_true]
  by_cases c : a < 0
  · rw [decide_eq_true c]
    simp only [billiardlaw03_RootSqrt.j0]
    rw [if_pos trivial, billiardlaw03_awake.yes 33 (by omega)]
    rfl
  · rw [decide_eq_false c]
    obtain ⟨s, hs⟩ := isRt_ex (a * 65536) (by omega) (by omega)
    simp only [billiardlaw03_RootSqrt.j0]
    rw [if_neg (by decide), root_Sqrt.is (by omega) (by omega) hs 33 (by omega)]
    simp only [Option.bind_some]
    obtain ⟨g0, g1, g2, g3⟩ := hs
    have b0 : 0 ≤ s * s := Int.mul_nonneg g0 g0
    have e1 : (s + 1) * (s + 1) = s * s + 2 * s + 1 := by rw [Int.add_mul, Int.mul_add]; omega
    rw [if_pos trivial, w64_id (n := s) (by omega) (by omega), if_pos (by omega), w64_id (n := s * s) (by omega) (by omega), w64_id (n := a) (by omega) (by omega), w64_id (n := a * 65536) (by omega) (by omega), if_pos g2,
      w64_id (n := s + 1) (by omega) (by omega), w64_id (n := (s + 1) * (s + 1)) (by omega) (by omega), decide_eq_true g3]

end Go.Proofs.Ytmokcjccaoidpaa.Pure
