/- The length of a sum of differences is at most the sum of the lengths, up to two units of rounding. No condition. -/
import Derived.Test.YtjgeakahbelgiaaQVecTriangle
import Derived.Test.YtjgeakahbelgiaaMlaw04
namespace Go.Proofs.Ytjgeakahbelgiaa.Pure
open Go.RowKit Go.Proofs.Ytjgeakahbelgiaa.Q Go.Proofs.YtjgeakahbelgiaaW.PrintWords Go.Proofs.YtjgeakahbelgiaaW.PrintLast
set_option linter.unusedVariables false

theorem lagrange (a b c d : Int) : (a * a + b * b) * (c * c + d * d) = (a * c + b * d) * (a * c + b * d) + (a * d - b * c) * (a * d - b * c) := by grind
theorem tri_square (a b c d : Int) : (a + c) * (a + c) + (b + d) * (b + d) = (a * a + b * b) + (c * c + d * d) + 2 * (a * c + b * d) := by grind
theorem tri_sum (p q : Int) : (p + q) * (p + q) = p * p + q * q + 2 * (p * q) := by grind
theorem tri_prod (p q : Int) : (p * q) * (p * q) = (p * p) * (q * q) := by grind

theorem triangle {ax ay bx by_ la lb lc : Int} (ha : IsRt (ax * ax + ay * ay) la) (hb : IsRt (bx * bx + by_ * by_) lb) (hc : IsRt ((ax + bx) * (ax + bx) + (ay + by_) * (ay + by_)) lc) : lc ≤ la + lb + 2 := by
  obtain ⟨a0, _, a2, a3⟩ := ha
  obtain ⟨b0, _, b2, b3⟩ := hb
  obtain ⟨c0, _, c2, c3⟩ := hc
  have A0 : 0 ≤ ax * ax + ay * ay := by have := sq_nn ax; have := sq_nn ay; omega
  have B0 : 0 ≤ bx * bx + by_ * by_ := by have := sq_nn bx; have := sq_nn by_; omega
  have hp : (ax * bx + ay * by_) ≤ (la + 1) * (lb + 1) := by
    have k1 : (ax * bx + ay * by_) * (ax * bx + ay * by_) ≤ (ax * ax + ay * ay) * (bx * bx + by_ * by_) := by
      have := lagrange ax ay bx by_
      have := sq_nn (ax * by_ - ay * bx)
      omega
    have k2 : (ax * ax + ay * ay) * (bx * bx + by_ * by_) ≤ ((la + 1) * (la + 1)) * ((lb + 1) * (lb + 1)) := Int.mul_le_mul (by omega) (by omega) B0 (by omega)
    rw [← tri_prod] at k2
    exact (sq_le_cancel (Int.mul_nonneg (by omega) (by omega)) (by omega : (ax * bx + ay * by_) * (ax * bx + ay * by_) ≤ ((la + 1) * (lb + 1)) * ((la + 1) * (lb + 1)))).2
  have e1 := tri_square ax ay bx by_
  have e2 := tri_sum (la + 1) (lb + 1)
  have := (sq_lt_cancel (a := lc) (b := (la + 1) + (lb + 1)) (by omega) (by omega)).2
  omega

theorem VecTriangle : billiardlaw04_VecTriangle.Pure := by
  intro ax ay bx by_ w0 w1 w2 w3
  obtain ⟨ax0, ax1⟩ := wf_i64 w0
  obtain ⟨ay0, ay1⟩ := wf_i64 w1
  obtain ⟨bx0, bx1⟩ := wf_i64 w2
  obtain ⟨by0, by1⟩ := wf_i64 w3
  refine ⟨36, ?_⟩
  have out : billiardlaw04_VecTriangle.j0 36 ax ay bx by_ true = some true := by
    simp only [billiardlaw04_VecTriangle.j0]
    rw [if_pos trivial, billiardlaw04_awake.yes 35 (by omega)]
    rfl
  unfold billiardlaw04_VecTriangle.f
  rw [billiardlaw04_awake.yes 36 (by omega)]
  simp only [billiardref04_In.is, Option.bind_some, if_true]
  by_cases g0 : -2181038080 ≤ wrap64 (2 * ax) ∧ wrap64 (2 * ax) ≤ 2181038080
  case neg => rw [decide_eq_false g0, if_neg (by decide), out]
  by_cases g1 : -2181038080 ≤ wrap64 (2 * ay) ∧ wrap64 (2 * ay) ≤ 2181038080
  case neg => rw [decide_eq_true g0, decide_eq_false g1, if_pos rfl, if_neg (by decide), out]
  by_cases g2 : -2181038080 ≤ wrap64 (2 * bx) ∧ wrap64 (2 * bx) ≤ 2181038080
  case neg => rw [decide_eq_true g0, decide_eq_true g1, decide_eq_false g2, if_pos rfl, if_pos rfl, if_neg (by decide), out]
  by_cases g3 : -2181038080 ≤ wrap64 (2 * by_) ∧ wrap64 (2 * by_) ≤ 2181038080
  case neg => rw [decide_eq_true g0, decide_eq_true g1, decide_eq_true g2, decide_eq_false g3, if_pos rfl, if_pos rfl, if_pos rfl, if_neg (by decide), out]
  rw [decide_eq_true g0, decide_eq_true g1, decide_eq_true g2, decide_eq_true g3, if_pos rfl, if_pos rfl, if_pos rfl, if_pos rfl]
  by_cases h0 : -2181038080 ≤ ax ∧ ax ≤ 2181038080
  case neg => rw [decide_eq_false h0, if_neg (by decide), out]
  by_cases h1 : -2181038080 ≤ ay ∧ ay ≤ 2181038080
  case neg => rw [decide_eq_true h0, decide_eq_false h1, if_pos rfl, if_neg (by decide), out]
  by_cases h2 : -2181038080 ≤ bx ∧ bx ≤ 2181038080
  case neg => rw [decide_eq_true h0, decide_eq_true h1, decide_eq_false h2, if_pos rfl, if_pos rfl, if_neg (by decide), out]
  by_cases h3 : -2181038080 ≤ by_ ∧ by_ ≤ 2181038080
  case neg => rw [decide_eq_true h0, decide_eq_true h1, decide_eq_true h2, decide_eq_false h3, if_pos rfl, if_pos rfl, if_pos rfl, Bool.not_false, out]
  rw [decide_eq_true h0, decide_eq_true h1, decide_eq_true h2, decide_eq_true h3, if_pos rfl, if_pos rfl, if_pos rfl]
  rw [w64_id (n := 2 * ax) (by omega) (by omega)] at g0
  rw [w64_id (n := 2 * ay) (by omega) (by omega)] at g1
  rw [w64_id (n := 2 * bx) (by omega) (by omega)] at g2
  rw [w64_id (n := 2 * by_) (by omega) (by omega)] at g3
  have sa := in_sq h0 h1
  have sb := in_sq h2 h3
  have sc := in_sq (x := ax + bx) (y := ay + by_) (by omega) (by omega)
  obtain ⟨la, ha⟩ := isRt_ex _ sa.1 (by omega)
  obtain ⟨lb, hb⟩ := isRt_ex _ sb.1 (by omega)
  obtain ⟨lc, hc⟩ := isRt_ex _ sc.1 (by omega)
  have key := triangle ha hb hc
  simp only [billiardlaw04_VecTriangle.j0]
  rw [if_neg (by decide), w64_id (n := ax + bx) (by omega) (by omega), w64_id (n := ay + by_) (by omega) (by omega), vec_Length.is hc (by omega) 35 (by omega), vec_Length.is ha (by omega) 35 (by omega), vec_Length.is hb (by omega) 35 (by omega)]
  simp only [Option.bind_some]
  have ga := ha.2.1
  have gb := hb.2.1
  have fa := ha.1
  have fb := hb.1
  rw [w64_id (n := la + lb) (by omega) (by omega), w64_id (n := la + lb + 2) (by omega) (by omega), decide_eq_true key]

end Go.Proofs.Ytjgeakahbelgiaa.Pure
