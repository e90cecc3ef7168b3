/- The square of the root is at most the number, and that of the next integer is greater; the root of a square is exact. No condition. -/
import Derived.Test.YtmokcjccaoidpaaQRootFloor
import Derived.Test.YtmokcjccaoidpaaMlaw03
namespace Go.Proofs.Ytmokcjccaoidpaa.Pure
open Go.RowKit Go.Proofs.Ytmokcjccaoidpaa.Q Go.Proofs.YtmokcjccaoidpaaW.PrintWords Go.Proofs.YtmokcjccaoidpaaW.PrintLast
set_option linter.unusedVariables false

theorem rt_square {k : Int} (h0 : 0 ≤ k) (h1 : k ≤ 4294967295) : IsRt (k * k) k := by
  refine ⟨h0, h1, Int.le_refl _, ?_⟩
  have : (k + 1) * (k + 1) = k * k + 2 * k + 1 := by rw [Int.add_mul, Int.mul_add]; omega
  omega

theorem RootFloor : billiardlaw03_RootFloor.Pure := by
  intro n hn
  obtain ⟨n0, n1⟩ := wf_u64 hn
  refine ⟨34, ?_⟩
  obtain ⟨r, hr⟩ := isRt_ex n n0 n1
  have hj : billiardlaw03_RootFloor.j0 34 n false = some true := by
    simp only [billiardlaw03_RootFloor.j0]
    obtain ⟨q, hq⟩ : ∃ q, q = Int.tmod n 4294967296 := ⟨_, rfl⟩
    have e : Int.tmod n 4294967296 = n % 4294967296 := Int.tmod_eq_emod_of_nonneg n0
    rw [← hq]
    have q0 : 0 ≤ q := by rw [hq, e]; omega
    have q1 : q ≤ 4294967295 := by rw [hq, e]; omega
    have hs := rt_square q0 q1
    have b0 : 0 ≤ q * q := Int.mul_nonneg q0 q0
    have b1 := sq_mono q0 q1
    rw [hs.sq_u64, root_Isqrt.is hs b0 (by omega) 33 (by omega), root_Ceil.is hs b0 (by omega) 33 (by omega)]
    simp [rtCeil]
  unfold billiardlaw03_RootFloor.f
  rw [billiardlaw03_awake.yes 34 (by omega)]
  simp only [Option.bind_some, if_true]
  rw [root_Isqrt.is hr n0 n1 34 (by omega)]
  simp only [Option.bind_some]
  obtain ⟨g0, g1, g2, g3⟩ := hr
  have b1 := sq_mono g0 g1
  have b0 : 0 ≤ r * r := Int.mul_nonneg g0 g0
  rw [if_neg (by omega), u64_id b0 (by omega), if_neg (by omega)]
  by_cases c : r < 4294967295
  · have b2 := sq_mono (a := r + 1) (b := 4294967295) (by omega) (by omega)
    have b3 : 0 ≤ (r + 1) * (r + 1) := Int.mul_nonneg (by omega) (by omega)
    rw [if_pos c, u64_id (n := r + 1) (by omega) (by omega), u64_id b3 (by omega), decide_eq_false (by omega), hj]
  · rw [if_neg c, hj]

end Go.Proofs.Ytmokcjccaoidpaa.Pure
