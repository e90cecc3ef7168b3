/- The scalar product is symmetric, the determinant is not; a vector and its perpendicular one have the scalar product 0; lengths do not depend on signs or on the order of the components. No condition. -/
import Derived.Test.YtjgeakahbelgiaaQVecSymmetric
import Derived.Test.YtjgeakahbelgiaaMlaw04
namespace Go.Proofs.Ytjgeakahbelgiaa.Pure
open Go.RowKit Go.Proofs.Ytjgeakahbelgiaa.Q Go.Proofs.YtjgeakahbelgiaaW.PrintWords Go.Proofs.YtjgeakahbelgiaaW.PrintLast
set_option linter.unusedVariables false

theorem sym_j2 (x y : Int) (b : Bool) (hb : b = false → (-2181038080 ≤ x ∧ x ≤ 2181038080) ∧ (-2181038080 ≤ y ∧ y ≤ 2181038080)) (k : Nat) (hk : 33 ≤ k) : billiardlaw04_VecSymmetric.j2 (k + 1) x y b = some true := by
  simp only [billiardlaw04_VecSymmetric.j2]
  cases b
  · obtain ⟨hx, hy⟩ := hb rfl
    have hs := in_sq hx hy
    obtain ⟨n, hn⟩ := isRt_ex _ hs.1 (by omega)
    have e1 : (-y) * (-y) + x * x = x * x + y * y := by rw [Int.neg_mul_neg, Int.add_comm]
    have e2 : (-x) * (-x) + (-y) * (-y) = x * x + y * y := by rw [Int.neg_mul_neg, Int.neg_mul_neg]
    rw [if_neg (by decide), w64_id (n := -x) (by omega) (by omega), w64_id (n := -y) (by omega) (by omega), vec_Length.is hn (by omega) k hk, vec_Length.is (e1.symm ▸ hn) (by omega) k hk, vec_LengthSq.is (by omega), vec_LengthSq.is (by omega), e2]
    simp
  · rfl
theorem sym_j1 (x y : Int) (k : Nat) (hk : 34 ≤ k) : billiardlaw04_VecSymmetric.j1 (k + 1) x y = some true := by
  obtain ⟨k, rfl⟩ : ∃ m, k = m + 1 := ⟨k - 1, by omega⟩
  simp only [billiardlaw04_VecSymmetric.j1]
  rw [billiardref04_In.is, billiardref04_In.is]
  simp only [Option.bind_some]
  by_cases c : -2181038080 ≤ x ∧ x ≤ 2181038080
  · rw [decide_eq_true c, if_pos rfl]
    refine sym_j2 x y _ (fun h => ⟨c, ?_⟩) k (by omega)
    simpa using h
  · rw [decide_eq_false c, if_neg (by decide)]
    exact sym_j2 x y true (fun h => by cases h) k (by omega)
theorem sym_j0 (x y : Int) (b : Bool) (p q r s : Int) (hp : -2147483648 ≤ p ∧ p ≤ 2147483647) (hq : -2147483648 ≤ q ∧ q ≤ 2147483647) (hr : -2147483648 ≤ r ∧ r ≤ 2147483647) (hs : -2147483648 ≤ s ∧ s ≤ 2147483647)
    (hb : b = true → -2147483648 < p ∧ -2147483648 < q ∧ -2147483648 < r ∧ -2147483648 < s) (k : Nat) (hk : 35 ≤ k) : billiardlaw04_VecSymmetric.j0 (k + 1) x y b p q r s = some true := by
  obtain ⟨k, rfl⟩ : ∃ m, k = m + 1 := ⟨k - 1, by omega⟩
  simp only [billiardlaw04_VecSymmetric.j0]
  have hj := sym_j1 x y k (by omega)
  cases b
  · rw [if_neg (by decide), hj]
  · obtain ⟨b0, b1, b2, b3⟩ := hb rfl
    have sq : sat32 (0 - q) = -q := by rw [sat32_id (by omega)]; omega
    have m1 := prod_i32' (a := p) (b := s) ⟨b0, hp.2⟩ ⟨b3, hs.2⟩
    have m2 := prod_i32' (a := q) (b := r) ⟨b1, hq.2⟩ ⟨b2, hr.2⟩
    rw [if_pos rfl, vec_Dot.is ⟨b0, hp.2⟩ ⟨b1, hq.2⟩ ⟨b2, hr.2⟩ ⟨b3, hs.2⟩, vec_Dot.is ⟨b2, hr.2⟩ ⟨b3, hs.2⟩ ⟨b0, hp.2⟩ ⟨b1, hq.2⟩, vec_Cross.is ⟨b0, hp.2⟩ ⟨b1, hq.2⟩ ⟨b2, hr.2⟩ ⟨b3, hs.2⟩, vec_Cross.is ⟨b2, hr.2⟩ ⟨b3, hs.2⟩ ⟨b0, hp.2⟩ ⟨b1, hq.2⟩,
      vec_Perp.is hq, sq, vec_Cross.is ⟨b0, hp.2⟩ ⟨b1, hq.2⟩ ⟨b0, hp.2⟩ ⟨b1, hq.2⟩]
    simp only [Option.bind_some]
    rw [vec_Dot.is ⟨b0, hp.2⟩ ⟨b1, hq.2⟩ ⟨by omega, by omega⟩ ⟨b0, hp.2⟩]
    simp only [Option.bind_some]
    have e1 : r * q - s * p = -(p * s - q * r) := by rw [Int.mul_comm r q, Int.mul_comm s p]; omega
    rw [if_pos (by rw [Int.mul_comm r p, Int.mul_comm s q]), e1, if_pos (by rw [Int.neg_neg, w64_id (by omega) (by omega)]), if_pos (by rw [Int.mul_neg, Int.mul_comm q p]; omega), if_pos (by rw [Int.mul_comm q p]; omega), hj]

theorem VecSymmetric : billiardlaw04_VecSymmetric.Pure := by
  intro p q r s x y w0 w1 w2 w3 _ _
  have hp := wf_i32 w0
  have hq := wf_i32 w1
  have hr := wf_i32 w2
  have hs := wf_i32 w3
  refine ⟨37, ?_⟩
  unfold billiardlaw04_VecSymmetric.f
  rw [billiardlaw04_awake.yes 37 (by omega)]
  simp only [Option.bind_some, if_true]
  have no := sym_j0 x y false p q r s hp hq hr hs (fun h => by cases h) 36 (by omega)
  by_cases c0 : p > -2147483648
  case neg => rw [if_neg c0, no]
  by_cases c1 : q > -2147483648
  case neg => rw [if_pos c0, if_neg c1, no]
  by_cases c2 : r > -2147483648
  case neg => rw [if_pos c0, if_pos c1, if_neg c2, no]
  rw [if_pos c0, if_pos c1, if_pos c2]
  exact sym_j0 x y _ p q r s hp hq hr hs (fun h => ⟨c0, c1, c2, by simpa using h⟩) 36 (by omega)

end Go.Proofs.Ytjgeakahbelgiaa.Pure
