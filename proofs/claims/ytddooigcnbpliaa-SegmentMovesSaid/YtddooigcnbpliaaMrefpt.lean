/- The reference's nearest point is that of the program; the squares of distances are exact. -/
import Derived.Test.YtddooigcnbpliaaMpoint
import Derived.Test.YtddooigcnbpliaaMvec
import Derived.Test.YtddooigcnbpliaaQbilliardref12
import Derived.Test.YtddooigcnbpliaaQbilliardref04
namespace Go.Proofs.Ytddooigcnbpliaa.Q
open Go.RowKit Go.Proofs.YtddooigcnbpliaaW.PrintWords Go.Proofs.YtddooigcnbpliaaW.PrintLast Go.Proofs.YtddooigcnbpliaaW.PrintMore
set_option linter.unusedVariables false
theorem ref_square {p0 p1 q0 q1 c0 c1 : Int} (h : RightP p0 p1 q0 q1 c0 c1) : billiardref12_Square.f p0 p1 q0 q1 = some (dS (q0 - p0) (q1 - p1)) := by
  obtain ⟨a1, a2, b1, b2, d1, d2, hx, hy⟩ := h
  have e1 := mul_bd (A := 16777216) (B := 16777216) hx hx
  have e2 := mul_bd (A := 16777216) (B := 16777216) hy hy
  unfold billiardref12_Square.f
  rw [wdiff b1 a1, wdiff b2 a2, w64_id (n := (q0 - p0) * (q0 - p0)) (by omega) (by omega), w64_id (n := (q1 - p1) * (q1 - p1)) (by omega) (by omega), w64_id (n := (q0 - p0) * (q0 - p0) + (q1 - p1) * (q1 - p1)) (by omega) (by omega)]
  rfl
theorem ref_limit {n d : Int} (h : 0 ≤ d) : billiardref12_Limit.f n 0 d = some (mx 0 (mn n d)) := by
  unfold billiardref12_Limit.f
  by_cases c : n < 0
  · rw [if_pos c]
    congr 1
    unfold mx mn
    omega
  · rw [if_neg c]
    by_cases e : n > d
    · rw [if_pos e]
      congr 1
      unfold mx mn
      omega
    · rw [if_neg e]
      congr 1
      unfold mx mn
      omega
theorem ref_param {p0 p1 q0 q1 c0 c1 : Int} (h : RightP p0 p1 q0 q1 c0 c1) : billiardref12_Param.f p0 p1 q0 q1 c0 c1 = some (parN (q0 - p0) (q1 - p1) (c0 - p0) (c1 - p1)) := by
  unfold billiardref12_Param.f
  rw [ref_square h]
  obtain ⟨a1, a2, b1, b2, d1, d2, hx, hy⟩ := h
  have e3 := mul_bd (A := 2164260864) (B := 16777216) (x := c0 - p0) (by unfold InB at *; omega) hx
  have e4 := mul_bd (A := 2164260864) (B := 16777216) (x := c1 - p1) (by unfold InB at *; omega) hy
  simp only [Option.bind_some]
  rw [wdiff b1 a1, wdiff b2 a2, wdiff d1 a1, wdiff d2 a2, w64_id (n := (c0 - p0) * (q0 - p0)) (by omega) (by omega), w64_id (n := (c1 - p1) * (q1 - p1)) (by omega) (by omega), w64_id (n := (c0 - p0) * (q0 - p0) + (c1 - p1) * (q1 - p1)) (by omega) (by omega), ref_limit (dS_nn _ _)]
  rfl
theorem ref_nearest {p0 p1 q0 q1 c0 c1 : Int} (h : RightP p0 p1 q0 q1 c0 c1) : billiardref12_Nearest.f p0 p1 q0 q1 c0 c1 = point_Nearest.f p0 p1 q0 q1 c0 c1 := by
  have hb := parN_bd (q0 - p0) (q1 - p1) (c0 - p0) (c1 - p1)
  obtain ⟨hp, hd⟩ := point_Param.is h
  unfold billiardref12_Nearest.f point_Nearest.f
  rw [ref_square h, ref_param h, hp]
  obtain ⟨a1, a2, b1, b2, d1, d2, hx, hy⟩ := h
  simp only [Option.bind_some]
  rw [wdiff b1 a1, wdiff b2 a2]
  generalize parN (q0 - p0) (q1 - p1) (c0 - p0) (c1 - p1) = n at *
  generalize dS (q0 - p0) (q1 - p1) = d at *
  unfold InB at *
  have hi : i32B p0 = true ∧ i32B p1 = true ∧ i32B q0 = true ∧ i32B q1 = true := ⟨i32B_iff.mpr (by omega), i32B_iff.mpr (by omega), i32B_iff.mpr (by omega), i32B_iff.mpr (by omega)⟩
  have hj : i64B n = true ∧ i64B d = true := ⟨i64B_iff.mpr (by omega), i64B_iff.mpr (by omega)⟩
  have h1 : i64B (q0 - p0) = true ∧ i64B n = true ∧ i64B d = true := ⟨i64B_iff.mpr (by omega), hj⟩
  have h2 : i64B (q1 - p1) = true ∧ i64B n = true ∧ i64B d = true := ⟨i64B_iff.mpr (by omega), hj⟩
  rw [if_pos hi]
  by_cases c : d = 0
  · rw [if_pos c, if_pos c]
  · rw [if_neg c, if_neg c, if_pos hj]
    unfold billiardref01_MulDiv.f
    rw [if_pos h1, if_pos h2]
    rfl
theorem near_in {p0 p1 q0 q1 c0 c1 : Int} (h : RightP p0 p1 q0 q1 c0 c1) : ∃ u v, point_Nearest.f p0 p1 q0 q1 c0 c1 = some (u, v) ∧ InB u ∧ InB v := by
  have hn := parN_bd (q0 - p0) (q1 - p1) (c0 - p0) (c1 - p1)
  refine ⟨_, _, point_Nearest.is h, ?_, ?_⟩
  · have k1 := ptS_box (p := p0) (q := q0) hn
    unfold RightP InB at *
    rcases Int.le_total p0 q0 with g | g
    · have := k1.1 g; omega
    · have := k1.2 g; omega
  · have k1 := ptS_box (p := p1) (q := q1) hn
    unfold RightP InB at *
    rcases Int.le_total p1 q1 with g | g
    · have := k1.1 g; omega
    · have := k1.2 g; omega
theorem sq_far {x : Int} (hx : -2164260864 ≤ x ∧ x ≤ 2164260864) : 0 ≤ x * x ∧ x * x ≤ 4684025087442026496 := by
  have := mul_bd (A := 2164260864) (B := 2164260864) hx hx
  have := sq_nn x
  omega
theorem billiardref04_LengthSq.is {x y : Int} (hx : -2164260864 ≤ x ∧ x ≤ 2164260864) (hy : -2164260864 ≤ y ∧ y ≤ 2164260864) : billiardref04_LengthSq.f x y = some (dS x y) := by
  have h1 := sq_far hx
  have h2 := sq_far hy
  unfold dS
  unfold billiardref04_LengthSq.f
  have w1 : wrap64 (-x) = -x := w64_id (by omega) (by omega)
  have w2 : wrap64 (-y) = -y := w64_id (by omega) (by omega)
  have s1 : IntKind.u64.wrap (x * x) = x * x := u64_id (by omega) (by omega)
  have s2 : IntKind.u64.wrap (y * y) = y * y := u64_id (by omega) (by omega)
  have s3 : IntKind.u64.wrap (x * x + y * y) = x * x + y * y := u64_id (by omega) (by omega)
  by_cases cx : x < 0
  · have u1 : IntKind.u64.wrap (-x) = -x := u64_id (by omega) (by omega)
    by_cases cy : y < 0
    · have u2 : IntKind.u64.wrap (-y) = -y := u64_id (by omega) (by omega)
      rw [if_pos cx, if_pos cy, w1, w2, u1, u2, Int.neg_mul_neg, Int.neg_mul_neg, s1, s2, s3]
    · have u2 : IntKind.u64.wrap y = y := u64_id (by omega) (by omega)
      rw [if_pos cx, if_neg cy, w1, u1, u2, Int.neg_mul_neg, s1, s2, s3]
  · have u1 : IntKind.u64.wrap x = x := u64_id (by omega) (by omega)
    by_cases cy : y < 0
    · have u2 : IntKind.u64.wrap (-y) = -y := u64_id (by omega) (by omega)
      rw [if_neg cx, if_pos cy, w2, u1, u2, Int.neg_mul_neg, s1, s2, s3]
    · have u2 : IntKind.u64.wrap y = y := u64_id (by omega) (by omega)
      rw [if_neg cx, if_neg cy, u1, u2, s1, s2, s3]
theorem vec_LengthSq.far {x y : Int} (hx : -2164260864 ≤ x ∧ x ≤ 2164260864) (hy : -2164260864 ≤ y ∧ y ≤ 2164260864) : vec_LengthSq.f x y = some (dS x y) := by
  have h1 := sq_far hx
  have h2 := sq_far hy
  unfold dS
  exact vec_LengthSq.is (by omega)
/-- The coordinates of the nearest point. -/
def nX (p0 p1 q0 q1 c0 c1 : Int) : Int := ptS p0 (q0 - p0) (parN (q0 - p0) (q1 - p1) (c0 - p0) (c1 - p1)) (dS (q0 - p0) (q1 - p1))
def nY (p0 p1 q0 q1 c0 c1 : Int) : Int := ptS p1 (q1 - p1) (parN (q0 - p0) (q1 - p1) (c0 - p0) (c1 - p1)) (dS (q0 - p0) (q1 - p1))
theorem Nearest_n {p0 p1 q0 q1 c0 c1 : Int} (h : RightP p0 p1 q0 q1 c0 c1) : point_Nearest.f p0 p1 q0 q1 c0 c1 = some (nX p0 p1 q0 q1 c0 c1, nY p0 p1 q0 q1 c0 c1) := point_Nearest.is h
theorem n_in {p0 p1 q0 q1 c0 c1 : Int} (h : RightP p0 p1 q0 q1 c0 c1) : InB (nX p0 p1 q0 q1 c0 c1) ∧ InB (nY p0 p1 q0 q1 c0 c1) := by
  obtain ⟨u, v, e, hu, hv⟩ := near_in h
  rw [Nearest_n h] at e
  simp only [Option.some.injEq, Prod.mk.injEq] at e
  rw [e.1, e.2]
  exact ⟨hu, hv⟩
theorem in_diff {a b : Int} (ha : InB a) (hb : InB b) : -2164260864 ≤ a - b ∧ a - b ≤ 2164260864 := by unfold InB at *; omega
theorem dS_neg (a b c d : Int) : dS (a - b) (c - d) = dS (b - a) (d - c) := by unfold dS; grind
theorem dS_bd {x y : Int} (hx : -2164260864 ≤ x ∧ x ≤ 2164260864) (hy : -2164260864 ≤ y ∧ y ≤ 2164260864) : 0 ≤ dS x y ∧ dS x y ≤ 9368050174884052992 := by
  have h1 := sq_far hx
  have h2 := sq_far hy
  unfold dS
  omega
theorem ref12_DistSq.is {p0 p1 q0 q1 c0 c1 : Int} (h : RightP p0 p1 q0 q1 c0 c1) : billiardref12_DistSq.f p0 p1 q0 q1 c0 c1 = some (dS (nX p0 p1 q0 q1 c0 c1 - c0) (nY p0 p1 q0 q1 c0 c1 - c1)) := by
  obtain ⟨i1, i2⟩ := n_in h
  unfold billiardref12_DistSq.f
  rw [ref_nearest h, Nearest_n h]
  obtain ⟨a1, a2, b1, b2, d1, d2, hx, hy⟩ := h
  simp only [Option.bind_some]
  rw [wdiff i1 d1, wdiff i2 d2, billiardref04_LengthSq.is (in_diff i1 d1) (in_diff i2 d2)]
  rfl
end Go.Proofs.Ytddooigcnbpliaa.Q
