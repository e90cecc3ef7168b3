/- A length is at least the absolute value of each component, and at most their sum. No condition. -/
import Derived.Test.YtjgeakahbelgiaaQVecLength
import Derived.Test.YtjgeakahbelgiaaMlaw04
namespace Go.Proofs.Ytjgeakahbelgiaa.Pure
open Go.RowKit Go.Proofs.Ytjgeakahbelgiaa.Q Go.Proofs.YtjgeakahbelgiaaW.PrintWords Go.Proofs.YtjgeakahbelgiaaW.PrintLast
set_option linter.unusedVariables false

theorem len_facts (x y n : Int) (hx : -2181038080 ≤ x ∧ x ≤ 2181038080) (hy : -2181038080 ≤ y ∧ y ≤ 2181038080) (hn : IsRt (x * x + y * y) n) :
    (0 ≤ mg x ∧ mg x ≤ n ∧ mg x ≤ 2181038080) ∧ (0 ≤ mg y ∧ mg y ≤ n ∧ mg y ≤ 2181038080) ∧ n ≤ mg x + mg y := by
  obtain ⟨⟨x0, x1⟩, ⟨y0, y1⟩⟩ := hn.comp
  have ex : mg x * mg x = x * x := by unfold mg; split <;> simp [Int.neg_mul_neg]
  have ey : mg y * mg y = y * y := by unfold mg; split <;> simp [Int.neg_mul_neg]
  have mx0 : 0 ≤ mg x ∧ mg x ≤ n ∧ mg x ≤ 2181038080 := by unfold mg; split <;> omega
  have my0 : 0 ≤ mg y ∧ mg y ≤ n ∧ mg y ≤ 2181038080 := by unfold mg; split <;> omega
  refine ⟨mx0, my0, ?_⟩
  have h2 := hn.2.2.1
  have h3 : 0 ≤ mg x * mg y := Int.mul_nonneg mx0.1 my0.1
  have h4 : (mg x + mg y) * (mg x + mg y) = x * x + 2 * (mg x * mg y) + y * y := by
    rw [Int.add_mul, Int.mul_add, Int.mul_add, ex, ey, Int.mul_comm (mg y) (mg x)]; omega
  exact (sq_le_cancel (a := n) (b := mg x + mg y) (by omega) (by omega)).2

theorem len_j (x y n : Int) (hx : -2181038080 ≤ x ∧ x ≤ 2181038080) (hy : -2181038080 ≤ y ∧ y ≤ 2181038080) (hn : IsRt (x * x + y * y) n) :
    billiardlaw04_VecLength.j1 35 x y n (mg x) = some true := by
  have hs := in_sq hx hy
  obtain ⟨mx, my, hsum⟩ := len_facts x y n hx hy hn
  have hu : IntKind.u64.wrap (IntKind.u64.wrap n * IntKind.u64.wrap n) = n * n := by
    have := hn.2.1
    rw [u64_id (n := n) hn.1 (by omega), hn.sq_u64]
  simp only [billiardlaw04_VecLength.j1]
  rw [vec_LengthSq.is (by omega), hu, w64_id (n := -y) (by omega) (by omega)]
  simp only [Option.bind_some]
  rw [decide_eq_true hn.2.2.1]
  by_cases d : y < 0
  · simp only [mg, if_pos d] at my hsum
    rw [if_pos d, if_pos (by omega), if_pos (by omega), w64_id (by omega) (by omega), if_pos (by unfold mg at *; omega)]
  · simp only [mg, if_neg d] at my hsum
    rw [if_neg d, if_pos (by omega), if_pos (by omega), w64_id (by omega) (by omega), if_pos (by unfold mg at *; omega)]

theorem VecLength : billiardlaw04_VecLength.Pure := by
  intro x y wx wy
  obtain ⟨x0, x1⟩ := wf_i64 wx
  obtain ⟨y0, y1⟩ := wf_i64 wy
  refine ⟨36, ?_⟩
  have out : billiardlaw04_VecLength.j0 36 x y true = some true := by
    simp only [billiardlaw04_VecLength.j0]
    rw [if_pos trivial, billiardlaw04_awake.yes 35 (by omega)]
    rfl
  unfold billiardlaw04_VecLength.f
  rw [billiardlaw04_awake.yes 36 (by omega), billiardref04_In.is, billiardref04_In.is]
  simp only [Option.bind_some, if_true]
  by_cases cx : -2181038080 ≤ x ∧ x ≤ 2181038080
  · rw [decide_eq_true cx]
    simp only [if_true]
    by_cases cy : -2181038080 ≤ y ∧ y ≤ 2181038080
    · rw [decide_eq_true cy]
      have hs := in_sq cx cy
      obtain ⟨n, hn⟩ := isRt_ex (x * x + y * y) hs.1 (by omega)
      simp only [billiardlaw04_VecLength.j0]
      rw [if_neg (by decide), vec_Length.is hn (by omega) 35 (by omega)]
      simp only [Option.bind_some]
      have key := len_j x y n cx cy hn
      by_cases c : x < 0
      · rw [if_pos c, w64_id (n := -x) (by omega) (by omega)]
        simpa [mg, c] using key
      · rw [if_neg c]
        simpa [mg, c] using key
    · rw [decide_eq_false cy, Bool.not_false, out]
  · rw [decide_eq_false cx, if_neg (by decide), out]

end Go.Proofs.Ytjgeakahbelgiaa.Pure
