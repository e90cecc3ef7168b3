/- What the functions of point return for arguments in range, and that the examples of the document's chapter 12 hold. -/
import Derived.Test.YtahbfafnodeimaaQpoint
import Derived.Test.YtahbfafnodeimaaQbilliardref12
import Derived.Test.YtahbfafnodeimaaMvec
import Derived.Test.YtahbfafnodeimaaQbilliardref04
import Derived.Test.YtahbfafnodeimaaQsegment
import Derived.Test.YtahbfafnodeimaaQbilliardref13
namespace Go.Proofs.Ytahbfafnodeimaa.Q
open Go.RowKit Go.Proofs.YtahbfafnodeimaaW.PrintWords Go.Proofs.YtahbfafnodeimaaW.PrintLast Go.Proofs.YtahbfafnodeimaaW.PrintMore
set_option linter.unusedVariables false
def InB (a : Int) : Prop := -1082130432 ≤ a ∧ a ≤ 1082130432
def RightP (p0 p1 q0 q1 c0 c1 : Int) : Prop := InB p0 ∧ InB p1 ∧ InB q0 ∧ InB q1 ∧ InB c0 ∧ InB c1 ∧ (-16777216 ≤ q0 - p0 ∧ q0 - p0 ≤ 16777216) ∧ (-16777216 ≤ q1 - p1 ∧ q1 - p1 ≤ 16777216)
theorem wdiff {a b : Int} (ha : InB a) (hb : InB b) : wrap64 (wrap64 a - wrap64 b) = a - b := by
  unfold InB at *
  rw [w64_id (n := a) (by omega) (by omega), w64_id (n := b) (by omega) (by omega), w64_id (by omega) (by omega)]
theorem mul_bd {x y A B : Int} (hx : -A ≤ x ∧ x ≤ A) (hy : -B ≤ y ∧ y ≤ B) : -(A * B) ≤ x * y ∧ x * y ≤ A * B := by
  have hA : mg x ≤ A := by unfold mg; split <;> omega
  have hB : mg y ≤ B := by unfold mg; split <;> omega
  have h0 : 0 ≤ mg x := by unfold mg; split <;> omega
  have h1 : 0 ≤ mg y := by unfold mg; split <;> omega
  have hm := Int.mul_le_mul hA hB h1 (by omega)
  have e : x * y = mg x * mg y ∨ x * y = -(mg x * mg y) := by
    by_cases ca : x < 0 <;> by_cases cb : y < 0 <;> simp [mg, ca, cb, Int.neg_mul, Int.mul_neg]
  have hn := Int.mul_nonneg h0 h1
  omega
def dS (dx dy : Int) : Int := dx * dx + dy * dy
def parN (dx dy cx cy : Int) : Int := mx 0 (mn (cx * dx + cy * dy) (dS dx dy))
theorem dS_nn (dx dy : Int) : 0 ≤ dS dx dy := by
  have h : ∀ x : Int, 0 ≤ x * x := fun x => by
    rcases Int.le_total 0 x with h | h
    · exact Int.mul_nonneg h h
    · rw [← Int.neg_mul_neg]; exact Int.mul_nonneg (by omega) (by omega)
  have := h dx
  have := h dy
  unfold dS
  omega
theorem parN_bd (dx dy cx cy : Int) : 0 ≤ parN dx dy cx cy ∧ parN dx dy cx cy ≤ dS dx dy := by
  have := dS_nn dx dy
  unfold parN mx mn
  omega
theorem point_Param.is {p0 p1 q0 q1 c0 c1 : Int} (h : RightP p0 p1 q0 q1 c0 c1) : point_Param.f p0 p1 q0 q1 c0 c1 = some (parN (q0 - p0) (q1 - p1) (c0 - p0) (c1 - p1), dS (q0 - p0) (q1 - p1)) ∧ dS (q0 - p0) (q1 - p1) ≤ 562949953421312 := by
  obtain ⟨a1, a2, b1, b2, d1, d2, hx, hy⟩ := h
  have e1 := mul_bd (A := 16777216) (B := 16777216) hx hx
  have e2 := mul_bd (A := 16777216) (B := 16777216) hy hy
  have e3 := mul_bd (A := 2164260864) (B := 16777216) (x := c0 - p0) (by unfold InB at *; omega) hx
  have e4 := mul_bd (A := 2164260864) (B := 16777216) (x := c1 - p1) (by unfold InB at *; omega) hy
  unfold point_Param.f vec_Diff.f
  simp only [Option.bind_some]
  rw [wdiff b1 a1, wdiff b2 a2, wdiff d1 a1, wdiff d2 a2]
  rw [w64_id (n := (c0 - p0) * (q0 - p0)) (by omega) (by omega), w64_id (n := (c1 - p1) * (q1 - p1)) (by omega) (by omega), w64_id (n := (q0 - p0) * (q0 - p0)) (by omega) (by omega), w64_id (n := (q1 - p1) * (q1 - p1)) (by omega) (by omega), w64_id (n := (c0 - p0) * (q0 - p0) + (c1 - p1) * (q1 - p1)) (by omega) (by omega), w64_id (n := (q0 - p0) * (q0 - p0) + (q1 - p1) * (q1 - p1)) (by omega) (by omega)]
  exact ⟨rfl, by unfold dS; omega⟩
theorem part_bd {x n d : Int} (hd : 0 < d) (h0 : 0 ≤ n) (h1 : n ≤ d) : (0 ≤ x → 0 ≤ x * n / d ∧ x * n / d ≤ x) ∧ (x ≤ 0 → x ≤ x * n / d ∧ x * n / d ≤ 0) := by
  constructor
  · intro hx
    refine ⟨Int.ediv_nonneg (Int.mul_nonneg hx h0) (by omega), ?_⟩
    exact Int.ediv_le_of_le_mul hd (Int.mul_le_mul_of_nonneg_left h1 hx)
  · intro hx
    refine ⟨Int.le_ediv_of_mul_le hd (Int.mul_le_mul_of_nonpos_left hx h1), ?_⟩
    have : x * n ≤ 0 := Int.mul_nonpos_of_nonpos_of_nonneg hx h0
    exact Int.ediv_le_of_le_mul hd (by omega)
/-- The coordinate of the nearest point. -/
def ptS (p x n d : Int) : Int := p + x * n / d
theorem point_Nearest.is {p0 p1 q0 q1 c0 c1 : Int} (h : RightP p0 p1 q0 q1 c0 c1) :
    point_Nearest.f p0 p1 q0 q1 c0 c1 = some (ptS p0 (q0 - p0) (parN (q0 - p0) (q1 - p1) (c0 - p0) (c1 - p1)) (dS (q0 - p0) (q1 - p1)), ptS p1 (q1 - p1) (parN (q0 - p0) (q1 - p1) (c0 - p0) (c1 - p1)) (dS (q0 - p0) (q1 - p1))) := by
  obtain ⟨hp, hd⟩ := point_Param.is h
  have hn := parN_bd (q0 - p0) (q1 - p1) (c0 - p0) (c1 - p1)
  have hd0 := dS_nn (q0 - p0) (q1 - p1)
  unfold point_Nearest.f
  rw [hp]
  obtain ⟨a1, a2, b1, b2, d1, d2, hx, hy⟩ := h
  unfold InB at *
  generalize parN (q0 - p0) (q1 - p1) (c0 - p0) (c1 - p1) = n at *
  generalize dS (q0 - p0) (q1 - p1) = d at *
  simp only [Option.bind_some]
  rw [if_pos ⟨i32B_iff.mpr (by omega), i32B_iff.mpr (by omega), i32B_iff.mpr (by omega), i32B_iff.mpr (by omega)⟩]
  by_cases c : d = 0
  · subst c
    rw [if_pos rfl]
    simp [ptS]
  · rw [if_neg c, if_pos ⟨i64B_iff.mpr (by omega), i64B_iff.mpr (by omega)⟩]
    have key : ∀ f x : Int, (-1082130432 ≤ f ∧ f ≤ 1082130432) → (-16777216 ≤ x ∧ x ≤ 16777216) → partS f x n d = ptS f x n d := by
      intro f x hf hx
      obtain ⟨k1, k2⟩ := part_bd (x := x) (show 0 < d by omega) hn.1 hn.2
      have hb : -16777216 ≤ x * n / d ∧ x * n / d ≤ 16777216 := by
        rcases Int.le_total 0 x with g | g
        · have := k1 g; omega
        · have := k2 g; omega
      have e : mulDivS x n d = (x * n / d, 0) := by
        unfold mulDivS fl
        rw [if_neg c, if_pos (show 0 < d by omega), if_pos (i64B_iff.mpr (by omega))]
      unfold partS ptS
      rw [e]
      rw [w32_id (n := x * n / d) (by omega) (by omega), w32_id (by omega) (by omega)]
    rw [key p0 _ a1 hx, key p1 _ a2 hy]
theorem dS_zero {dx dy : Int} (h : dS dx dy = 0) : dx = 0 ∧ dy = 0 := by
  have hh : ∀ x : Int, 0 ≤ x * x := fun x => by
    rcases Int.le_total 0 x with h | h
    · exact Int.mul_nonneg h h
    · rw [← Int.neg_mul_neg]; exact Int.mul_nonneg (by omega) (by omega)
  have h1 := hh dx
  have h2 := hh dy
  unfold dS at h
  constructor
  · have : dx * dx = 0 := by omega
    rcases Int.mul_eq_zero.mp this with h | h <;> exact h
  · have : dy * dy = 0 := by omega
    rcases Int.mul_eq_zero.mp this with h | h <;> exact h
theorem ptS_zero (p x d : Int) : ptS p x 0 d = p := by simp [ptS]
theorem ptS_full {p q d : Int} (h : d = 0 → q - p = 0) : ptS p (q - p) d d = q := by
  unfold ptS
  by_cases c : d = 0
  · subst c
    have := h rfl
    simp
    omega
  · rw [Int.mul_ediv_cancel _ c]; omega
theorem ptS_turned {p q n d : Int} (h : d = 0 → q - p = 0) : ptS q (p - q) (d - n) d = ptS p (q - p) n d := by
  unfold ptS
  by_cases c : d = 0
  · subst c
    have := h rfl
    simp
    omega
  · have e : (p - q) * (d - n) = (q - p) * n + (p - q) * d := by grind
    rw [e, Int.add_mul_ediv_right _ _ c]
    omega
theorem dS_turned (p0 p1 q0 q1 : Int) : dS (p0 - q0) (p1 - q1) = dS (q0 - p0) (q1 - p1) := by unfold dS; grind
theorem parN_turned (p0 p1 q0 q1 c0 c1 : Int) : parN (p0 - q0) (p1 - q1) (c0 - q0) (c1 - q1) = dS (q0 - p0) (q1 - p1) - parN (q0 - p0) (q1 - p1) (c0 - p0) (c1 - p1) := by
  have e : (c0 - q0) * (p0 - q0) + (c1 - q1) * (p1 - q1) = dS (q0 - p0) (q1 - p1) - ((c0 - p0) * (q0 - p0) + (c1 - p1) * (q1 - p1)) := by unfold dS; grind
  have := dS_nn (q0 - p0) (q1 - p1)
  unfold parN
  rw [e, dS_turned p0 p1 q0 q1]
  generalize (c0 - p0) * (q0 - p0) + (c1 - p1) * (q1 - p1) = t
  generalize dS (q0 - p0) (q1 - p1) = d at *
  unfold mx mn
  omega
theorem RightP.turned {p0 p1 q0 q1 c0 c1 : Int} (h : RightP p0 p1 q0 q1 c0 c1) : RightP q0 q1 p0 p1 c0 c1 := by
  obtain ⟨a1, a2, b1, b2, d1, d2, hx, hy⟩ := h
  exact ⟨b1, b2, a1, a2, d1, d2, by omega, by omega⟩
theorem RightP.at {p0 p1 q0 q1 c0 c1 : Int} (h : RightP p0 p1 q0 q1 c0 c1) : RightP p0 p1 q0 q1 p0 p1 ∧ RightP p0 p1 q0 q1 q0 q1 := by
  obtain ⟨a1, a2, b1, b2, d1, d2, hx, hy⟩ := h
  exact ⟨⟨a1, a2, b1, b2, a1, a2, hx, hy⟩, ⟨a1, a2, b1, b2, b1, b2, hx, hy⟩⟩
theorem parN_first (dx dy : Int) : parN dx dy 0 0 = 0 := by
  have := dS_nn dx dy
  unfold parN mx mn
  rw [Int.zero_mul, Int.zero_mul]
  omega
theorem parN_last (dx dy : Int) : parN dx dy dx dy = dS dx dy := by
  have := dS_nn dx dy
  have e : dx * dx + dy * dy = dS dx dy := rfl
  unfold parN mx mn
  rw [e]
  omega
theorem nearest_first {p0 p1 q0 q1 c0 c1 : Int} (h : RightP p0 p1 q0 q1 c0 c1) : point_Nearest.f p0 p1 q0 q1 p0 p1 = some (p0, p1) := by
  rw [point_Nearest.is h.at.1, Int.sub_self, Int.sub_self, parN_first, ptS_zero, ptS_zero]
theorem nearest_last {p0 p1 q0 q1 c0 c1 : Int} (h : RightP p0 p1 q0 q1 c0 c1) : point_Nearest.f p0 p1 q0 q1 q0 q1 = some (q0, q1) := by
  rw [point_Nearest.is h.at.2, parN_last, ptS_full (fun e => (dS_zero e).1), ptS_full (fun e => (dS_zero e).2)]
theorem ptS_box {p q n d : Int} (hn : 0 ≤ n ∧ n ≤ d) : (p ≤ q → p ≤ ptS p (q - p) n d ∧ ptS p (q - p) n d ≤ q) ∧ (q ≤ p → q ≤ ptS p (q - p) n d ∧ ptS p (q - p) n d ≤ p) := by
  unfold ptS
  by_cases c : d = 0
  · subst c
    simp
  · obtain ⟨k1, k2⟩ := part_bd (x := q - p) (show 0 < d by omega) hn.1 hn.2
    constructor
    · intro h
      have := k1 (by omega)
      omega
    · intro h
      have := k2 (by omega)
      omega
end Go.Proofs.Ytahbfafnodeimaa.Q

namespace Go.Proofs.Ytahbfafnodeimaa.Q
open Go.RowKit Go.Proofs.YtahbfafnodeimaaW.PrintWords Go.Proofs.YtahbfafnodeimaaW.PrintLast Go.Proofs.YtahbfafnodeimaaW.PrintMore
set_option linter.unusedVariables false
theorem ref_square {p0 p1 q0 q1 c0 c1 : Int} (h : RightP p0 p1 q0 q1 c0 c1) : billiardref12_Square.f p0 p1 q0 q1 = some (dS (q0 - p0) (q1 - p1)) := by
  obtain ⟨a1, a2, b1, b2, d1, d2, hx, hy⟩ := h
  have e1 := mul_bd (A := 16777216) (B := 16777216) hx hx
  have e2 := mul_bd (A := 16777216) (B := 16777216) hy hy
  unfold billiardref12_Square.f
  rw [wdiff b1 a1, wdiff b2 a2, w64_id (n := (q0 - p0) * (q0 - p0)) (by omega) (by omega), w64_id (n := (q1 - p1) * (q1 - p1)) (by omega) (by omega), w64_id (n := (q0 - p0) * (q0 - p0) + (q1 - p1) * (q1 - p1)) (by omega) (by omega)]
  rfl
theorem ref_limit {n d : Int} (h : 0 ≤ d) : billiardref12_Limit.f n 0 d = some (mx 0 (mn n d)) := by
  unfold billiardref12_Limit.f
  by_cases c : n < 0
  · rw [if_pos c]
    congr 1
    unfold mx mn
    omega
  · rw [if_neg c]
    by_cases e : n > d
    · rw [if_pos e]
      congr 1
      unfold mx mn
      omega
    · rw [if_neg e]
      congr 1
      unfold mx mn
      omega
theorem ref_param {p0 p1 q0 q1 c0 c1 : Int} (h : RightP p0 p1 q0 q1 c0 c1) : billiardref12_Param.f p0 p1 q0 q1 c0 c1 = some (parN (q0 - p0) (q1 - p1) (c0 - p0) (c1 - p1)) := by
  unfold billiardref12_Param.f
  rw [ref_square h]
  obtain ⟨a1, a2, b1, b2, d1, d2, hx, hy⟩ := h
  have e3 := mul_bd (A := 2164260864) (B := 16777216) (x := c0 - p0) (by unfold InB at *; omega) hx
  have e4 := mul_bd (A := 2164260864) (B := 16777216) (x := c1 - p1) (by unfold InB at *; omega) hy
  simp only [Option.bind_some]
  rw [wdiff b1 a1, wdiff b2 a2, wdiff d1 a1, wdiff d2 a2, w64_id (n := (c0 - p0) * (q0 - p0)) (by omega) (by omega), w64_id (n := (c1 - p1) * (q1 - p1)) (by omega) (by omega), w64_id (n := (c0 - p0) * (q0 - p0) + (c1 - p1) * (q1 - p1)) (by omega) (by omega), ref_limit (dS_nn _ _)]
  rfl
theorem ref_nearest {p0 p1 q0 q1 c0 c1 : Int} (h : RightP p0 p1 q0 q1 c0 c1) : billiardref12_Nearest.f p0 p1 q0 q1 c0 c1 = point_Nearest.f p0 p1 q0 q1 c0 c1 := by
  have hb := parN_bd (q0 - p0) (q1 - p1) (c0 - p0) (c1 - p1)
  obtain ⟨hp, hd⟩ := point_Param.is h
  unfold billiardref12_Nearest.f point_Nearest.f
  rw [ref_square h, ref_param h, hp]
  obtain ⟨a1, a2, b1, b2, d1, d2, hx, hy⟩ := h
  simp only [Option.bind_some]
  rw [wdiff b1 a1, wdiff b2 a2]
  generalize parN (q0 - p0) (q1 - p1) (c0 - p0) (c1 - p1) = n at *
  generalize dS (q0 - p0) (q1 - p1) = d at *
  unfold InB at *
  have hi : i32B p0 = true ∧ i32B p1 = true ∧ i32B q0 = true ∧ i32B q1 = true := ⟨i32B_iff.mpr (by omega), i32B_iff.mpr (by omega), i32B_iff.mpr (by omega), i32B_iff.mpr (by omega)⟩
  have hj : i64B n = true ∧ i64B d = true := ⟨i64B_iff.mpr (by omega), i64B_iff.mpr (by omega)⟩
  have h1 : i64B (q0 - p0) = true ∧ i64B n = true ∧ i64B d = true := ⟨i64B_iff.mpr (by omega), hj⟩
  have h2 : i64B (q1 - p1) = true ∧ i64B n = true ∧ i64B d = true := ⟨i64B_iff.mpr (by omega), hj⟩
  rw [if_pos hi]
  by_cases c : d = 0
  · rw [if_pos c, if_pos c]
  · rw [if_neg c, if_neg c, if_pos hj]
    unfold billiardref01_MulDiv.f
    rw [if_pos h1, if_pos h2]
    rfl
theorem near_in {p0 p1 q0 q1 c0 c1 : Int} (h : RightP p0 p1 q0 q1 c0 c1) : ∃ u v, point_Nearest.f p0 p1 q0 q1 c0 c1 = some (u, v) ∧ InB u ∧ InB v := by
  have hn := parN_bd (q0 - p0) (q1 - p1) (c0 - p0) (c1 - p1)
  refine ⟨_, _, point_Nearest.is h, ?_, ?_⟩
  · have k1 := ptS_box (p := p0) (q := q0) hn
    unfold RightP InB at *
    rcases Int.le_total p0 q0 with g | g
    · have := k1.1 g; omega
    · have := k1.2 g; omega
  · have k1 := ptS_box (p := p1) (q := q1) hn
    unfold RightP InB at *
    rcases Int.le_total p1 q1 with g | g
    · have := k1.1 g; omega
    · have := k1.2 g; omega
theorem sq_far {x : Int} (hx : -2164260864 ≤ x ∧ x ≤ 2164260864) : 0 ≤ x * x ∧ x * x ≤ 4684025087442026496 := by
  have := mul_bd (A := 2164260864) (B := 2164260864) hx hx
  have := sq_nn x
  omega
theorem billiardref04_LengthSq.is {x y : Int} (hx : -2164260864 ≤ x ∧ x ≤ 2164260864) (hy : -2164260864 ≤ y ∧ y ≤ 2164260864) : billiardref04_LengthSq.f x y = some (dS x y) := by
  have h1 := sq_far hx
  have h2 := sq_far hy
  unfold dS
  unfold billiardref04_LengthSq.f
  have w1 : wrap64 (-x) = -x := w64_id (by omega) (by omega)
  have w2 : wrap64 (-y) = -y := w64_id (by omega) (by omega)
  have s1 : IntKind.u64.wrap (x * x) = x * x := u64_id (by omega) (by omega)
  have s2 : IntKind.u64.wrap (y * y) = y * y := u64_id (by omega) (by omega)
  have s3 : IntKind.u64.wrap (x * x + y * y) = x * x + y * y := u64_id (by omega) (by omega)
  by_cases cx : x < 0
  · have u1 : IntKind.u64.wrap (-x) = -x := u64_id (by omega) (by omega)
    by_cases cy : y < 0
    · have u2 : IntKind.u64.wrap (-y) = -y := u64_id (by omega) (by omega)
      rw [if_pos cx, if_pos cy, w1, w2, u1, u2, Int.neg_mul_neg, Int.neg_mul_neg, s1, s2, s3]
    · have u2 : IntKind.u64.wrap y = y := u64_id (by omega) (by omega)
      rw [if_pos cx, if_neg cy, w1, u1, u2, Int.neg_mul_neg, s1, s2, s3]
  · have u1 : IntKind.u64.wrap x = x := u64_id (by omega) (by omega)
    by_cases cy : y < 0
    · have u2 : IntKind.u64.wrap (-y) = -y := u64_id (by omega) (by omega)
      rw [if_neg cx, if_pos cy, w2, u1, u2, Int.neg_mul_neg, s1, s2, s3]
    · have u2 : IntKind.u64.wrap y = y := u64_id (by omega) (by omega)
      rw [if_neg cx, if_neg cy, u1, u2, s1, s2, s3]
theorem vec_LengthSq.far {x y : Int} (hx : -2164260864 ≤ x ∧ x ≤ 2164260864) (hy : -2164260864 ≤ y ∧ y ≤ 2164260864) : vec_LengthSq.f x y = some (dS x y) := by
  have h1 := sq_far hx
  have h2 := sq_far hy
  unfold dS
  exact vec_LengthSq.is (by omega)
/-- The coordinates of the nearest point. -/
def nX (p0 p1 q0 q1 c0 c1 : Int) : Int := ptS p0 (q0 - p0) (parN (q0 - p0) (q1 - p1) (c0 - p0) (c1 - p1)) (dS (q0 - p0) (q1 - p1))
def nY (p0 p1 q0 q1 c0 c1 : Int) : Int := ptS p1 (q1 - p1) (parN (q0 - p0) (q1 - p1) (c0 - p0) (c1 - p1)) (dS (q0 - p0) (q1 - p1))
theorem Nearest_n {p0 p1 q0 q1 c0 c1 : Int} (h : RightP p0 p1 q0 q1 c0 c1) : point_Nearest.f p0 p1 q0 q1 c0 c1 = some (nX p0 p1 q0 q1 c0 c1, nY p0 p1 q0 q1 c0 c1) := point_Nearest.is h
theorem n_in {p0 p1 q0 q1 c0 c1 : Int} (h : RightP p0 p1 q0 q1 c0 c1) : InB (nX p0 p1 q0 q1 c0 c1) ∧ InB (nY p0 p1 q0 q1 c0 c1) := by
  obtain ⟨u, v, e, hu, hv⟩ := near_in h
  rw [Nearest_n h] at e
  simp only [Option.some.injEq, Prod.mk.injEq] at e
  rw [e.1, e.2]
  exact ⟨hu, hv⟩
theorem in_diff {a b : Int} (ha : InB a) (hb : InB b) : -2164260864 ≤ a - b ∧ a - b ≤ 2164260864 := by unfold InB at *; omega
theorem dS_neg (a b c d : Int) : dS (a - b) (c - d) = dS (b - a) (d - c) := by unfold dS; grind
theorem dS_bd {x y : Int} (hx : -2164260864 ≤ x ∧ x ≤ 2164260864) (hy : -2164260864 ≤ y ∧ y ≤ 2164260864) : 0 ≤ dS x y ∧ dS x y ≤ 9368050174884052992 := by
  have h1 := sq_far hx
  have h2 := sq_far hy
  unfold dS
  omega
end Go.Proofs.Ytahbfafnodeimaa.Q

namespace Go.Proofs.Ytahbfafnodeimaa.Q
open Go.RowKit Go.Proofs.YtahbfafnodeimaaW.PrintWords Go.Proofs.YtahbfafnodeimaaW.PrintLast Go.Proofs.YtahbfafnodeimaaW.PrintMore
set_option linter.unusedVariables false
def Right4 (p0 p1 q0 q1 u0 u1 v0 v1 : Int) : Prop := RightP p0 p1 q0 q1 u0 u1 ∧ RightP u0 u1 v0 v1 p0 p1
theorem Right4.all {p0 p1 q0 q1 u0 u1 v0 v1 : Int} (h : Right4 p0 p1 q0 q1 u0 u1 v0 v1) : RightP u0 u1 v0 v1 p0 p1 ∧ RightP u0 u1 v0 v1 q0 q1 ∧ RightP p0 p1 q0 q1 u0 u1 ∧ RightP p0 p1 q0 q1 v0 v1 := by
  obtain ⟨⟨a1, a2, b1, b2, d1, d2, hx, hy⟩, ⟨c1, c2, e1, e2, g1, g2, kx, ky⟩⟩ := h
  exact ⟨⟨c1, c2, e1, e2, a1, a2, kx, ky⟩, ⟨c1, c2, e1, e2, b1, b2, kx, ky⟩, ⟨a1, a2, b1, b2, d1, d2, hx, hy⟩, ⟨a1, a2, b1, b2, e1, e2, hx, hy⟩⟩
theorem Right4.swap {p0 p1 q0 q1 u0 u1 v0 v1 : Int} (h : Right4 p0 p1 q0 q1 u0 u1 v0 v1) : Right4 u0 u1 v0 v1 p0 p1 q0 q1 := ⟨h.2, h.1⟩
theorem segNext.is {s : Int × Int × Int × Int × Int} {x0 x1 y0 y1 : Int} (h0 : InB x0) (h1 : InB x1) (h2 : InB y0) (h3 : InB y1) : segNext s x0 x1 y0 y1 = some (segStep s x0 x1 y0 y1 (dS (y0 - x0) (y1 - x1))) := by
  unfold segNext vec_Diff.f
  simp only [Option.bind_some]
  rw [wdiff h2 h0, wdiff h3 h1, vec_LengthSq.far (in_diff h2 h0) (in_diff h3 h1)]
  rfl
/-- What is chosen of four candidates. -/
def seg4 (p0 p1 q0 q1 u0 u1 v0 v1 : Int) : Int × Int × Int × Int × Int :=
  segStep (segStep (segStep (segStep (0, 0, 0, 0, 18446744073709551615) p0 p1 (nX u0 u1 v0 v1 p0 p1) (nY u0 u1 v0 v1 p0 p1) (dS (nX u0 u1 v0 v1 p0 p1 - p0) (nY u0 u1 v0 v1 p0 p1 - p1)))
    q0 q1 (nX u0 u1 v0 v1 q0 q1) (nY u0 u1 v0 v1 q0 q1) (dS (nX u0 u1 v0 v1 q0 q1 - q0) (nY u0 u1 v0 v1 q0 q1 - q1)))
    (nX p0 p1 q0 q1 u0 u1) (nY p0 p1 q0 q1 u0 u1) u0 u1 (dS (u0 - nX p0 p1 q0 q1 u0 u1) (u1 - nY p0 p1 q0 q1 u0 u1)))
    (nX p0 p1 q0 q1 v0 v1) (nY p0 p1 q0 q1 v0 v1) v0 v1 (dS (v0 - nX p0 p1 q0 q1 v0 v1) (v1 - nY p0 p1 q0 q1 v0 v1))
theorem segment_choose.is {p0 p1 q0 q1 u0 u1 v0 v1 : Int} (h : Right4 p0 p1 q0 q1 u0 u1 v0 v1) : segment_choose.f p0 p1 q0 q1 u0 u1 v0 v1 = some (seg4 p0 p1 q0 q1 u0 u1 v0 v1) := by
  obtain ⟨h1, h2, h3, h4⟩ := h.all
  obtain ⟨i1, j1⟩ := n_in h1
  obtain ⟨i2, j2⟩ := n_in h2
  obtain ⟨i3, j3⟩ := n_in h3
  obtain ⟨i4, j4⟩ := n_in h4
  have k1 := h1
  have k2 := h2
  have k3 := h3
  have k4 := h4
  obtain ⟨_, _, _, _, a1, a2, _, _⟩ := k1
  obtain ⟨_, _, _, _, b1, b2, _, _⟩ := k2
  obtain ⟨_, _, _, _, c1, c2, _, _⟩ := k3
  obtain ⟨_, _, _, _, d1, d2, _, _⟩ := k4
  unfold segment_choose.f seg4
  rw [Nearest_n h1]
  simp only [Option.bind_some]
  rw [segNext.is a1 a2 i1 j1]
  simp only [Option.bind_some]
  rw [Nearest_n h2]
  simp only [Option.bind_some]
  rw [segNext.is b1 b2 i2 j2]
  simp only [Option.bind_some]
  rw [Nearest_n h3]
  simp only [Option.bind_some]
  rw [segNext.is i3 j3 c1 c2]
  simp only [Option.bind_some]
  rw [Nearest_n h4]
  simp only [Option.bind_some]
  rw [segNext.is i4 j4 d1 d2]
/-- The four squares of distances. -/
structure Four (p0 p1 q0 q1 u0 u1 v0 v1 d1 d2 d3 d4 : Int) : Prop where
  e1 : dS (nX u0 u1 v0 v1 p0 p1 - p0) (nY u0 u1 v0 v1 p0 p1 - p1) = d1
  e2 : dS (nX u0 u1 v0 v1 q0 q1 - q0) (nY u0 u1 v0 v1 q0 q1 - q1) = d2
  e3 : dS (u0 - nX p0 p1 q0 q1 u0 u1) (u1 - nY p0 p1 q0 q1 u0 u1) = d3
  e4 : dS (v0 - nX p0 p1 q0 q1 v0 v1) (v1 - nY p0 p1 q0 q1 v0 v1) = d4
  b1 : 0 ≤ d1 ∧ d1 ≤ 9368050174884052992
  b2 : 0 ≤ d2 ∧ d2 ≤ 9368050174884052992
  b3 : 0 ≤ d3 ∧ d3 ≤ 9368050174884052992
  b4 : 0 ≤ d4 ∧ d4 ≤ 9368050174884052992
theorem Four.ex {p0 p1 q0 q1 u0 u1 v0 v1 : Int} (h : Right4 p0 p1 q0 q1 u0 u1 v0 v1) : ∃ d1 d2 d3 d4, Four p0 p1 q0 q1 u0 u1 v0 v1 d1 d2 d3 d4 := by
  obtain ⟨h1, h2, h3, h4⟩ := h.all
  obtain ⟨i1, j1⟩ := n_in h1
  obtain ⟨i2, j2⟩ := n_in h2
  obtain ⟨i3, j3⟩ := n_in h3
  obtain ⟨i4, j4⟩ := n_in h4
  obtain ⟨_, _, _, _, a1, a2, _, _⟩ := h1
  obtain ⟨_, _, _, _, b1, b2, _, _⟩ := h2
  obtain ⟨_, _, _, _, c1, c2, _, _⟩ := h3
  obtain ⟨_, _, _, _, d1, d2, _, _⟩ := h4
  exact ⟨_, _, _, _, rfl, rfl, rfl, rfl, dS_bd (in_diff i1 a1) (in_diff j1 a2), dS_bd (in_diff i2 b1) (in_diff j2 b2), dS_bd (in_diff c1 i3) (in_diff c2 j3), dS_bd (in_diff d1 i4) (in_diff d2 j4)⟩
/-- One of the four candidates, with the least square, is chosen: the first of the least ones. -/
theorem Four.chosen {p0 p1 q0 q1 u0 u1 v0 v1 d1 d2 d3 d4 : Int} (h : Four p0 p1 q0 q1 u0 u1 v0 v1 d1 d2 d3 d4) :
    (seg4 p0 p1 q0 q1 u0 u1 v0 v1 = (p0, p1, nX u0 u1 v0 v1 p0 p1, nY u0 u1 v0 v1 p0 p1, d1) ∧ d1 ≤ d2 ∧ d1 ≤ d3 ∧ d1 ≤ d4) ∨
    (seg4 p0 p1 q0 q1 u0 u1 v0 v1 = (q0, q1, nX u0 u1 v0 v1 q0 q1, nY u0 u1 v0 v1 q0 q1, d2) ∧ d2 < d1 ∧ d2 ≤ d3 ∧ d2 ≤ d4) ∨
    (seg4 p0 p1 q0 q1 u0 u1 v0 v1 = (nX p0 p1 q0 q1 u0 u1, nY p0 p1 q0 q1 u0 u1, u0, u1, d3) ∧ d3 < d1 ∧ d3 < d2 ∧ d3 ≤ d4) ∨
    (seg4 p0 p1 q0 q1 u0 u1 v0 v1 = (nX p0 p1 q0 q1 v0 v1, nY p0 p1 q0 q1 v0 v1, v0, v1, d4) ∧ d4 < d1 ∧ d4 < d2 ∧ d4 < d3) := by
  obtain ⟨e1, e2, e3, e4, b1, b2, b3, b4⟩ := h
  unfold seg4
  rw [e1, e2, e3, e4]
  have s0 : segStep (0, 0, 0, 0, 18446744073709551615) p0 p1 (nX u0 u1 v0 v1 p0 p1) (nY u0 u1 v0 v1 p0 p1) d1 = (p0, p1, nX u0 u1 v0 v1 p0 p1, nY u0 u1 v0 v1 p0 p1, d1) := if_pos (show d1 < 18446744073709551615 by omega)
  rw [s0]
  have yes : ∀ (a b c e l x0 x1 y0 y1 d : Int), d < l → segStep (a, b, c, e, l) x0 x1 y0 y1 d = (x0, x1, y0, y1, d) := fun _ _ _ _ _ _ _ _ _ _ h => if_pos h
  have no : ∀ (a b c e l x0 x1 y0 y1 d : Int), ¬ d < l → segStep (a, b, c, e, l) x0 x1 y0 y1 d = (a, b, c, e, l) := fun _ _ _ _ _ _ _ _ _ _ h => if_neg h
  by_cases c2 : d2 < d1
  · rw [yes _ _ _ _ _ _ _ _ _ _ c2]
    by_cases c3 : d3 < d2
    · rw [yes _ _ _ _ _ _ _ _ _ _ c3]
      by_cases c4 : d4 < d3
      · rw [yes _ _ _ _ _ _ _ _ _ _ c4]; exact Or.inr (Or.inr (Or.inr ⟨rfl, by omega, by omega, by omega⟩))
      · rw [no _ _ _ _ _ _ _ _ _ _ c4]; exact Or.inr (Or.inr (Or.inl ⟨rfl, by omega, by omega, by omega⟩))
    · rw [no _ _ _ _ _ _ _ _ _ _ c3]
      by_cases c4 : d4 < d2
      · rw [yes _ _ _ _ _ _ _ _ _ _ c4]; exact Or.inr (Or.inr (Or.inr ⟨rfl, by omega, by omega, by omega⟩))
      · rw [no _ _ _ _ _ _ _ _ _ _ c4]; exact Or.inr (Or.inl ⟨rfl, by omega, by omega, by omega⟩)
  · rw [no _ _ _ _ _ _ _ _ _ _ c2]
    by_cases c3 : d3 < d1
    · rw [yes _ _ _ _ _ _ _ _ _ _ c3]
      by_cases c4 : d4 < d3
      · rw [yes _ _ _ _ _ _ _ _ _ _ c4]; exact Or.inr (Or.inr (Or.inr ⟨rfl, by omega, by omega, by omega⟩))
      · rw [no _ _ _ _ _ _ _ _ _ _ c4]; exact Or.inr (Or.inr (Or.inl ⟨rfl, by omega, by omega, by omega⟩))
    · rw [no _ _ _ _ _ _ _ _ _ _ c3]
      by_cases c4 : d4 < d1
      · rw [yes _ _ _ _ _ _ _ _ _ _ c4]; exact Or.inr (Or.inr (Or.inr ⟨rfl, by omega, by omega, by omega⟩))
      · rw [no _ _ _ _ _ _ _ _ _ _ c4]; exact Or.inl ⟨rfl, by omega, by omega, by omega⟩
theorem segment_Chosen.is {p0 p1 q0 q1 u0 u1 v0 v1 : Int} (h : Right4 p0 p1 q0 q1 u0 u1 v0 v1) : segment_Chosen.f p0 p1 q0 q1 u0 u1 v0 v1 = some ((seg4 p0 p1 q0 q1 u0 u1 v0 v1).1, (seg4 p0 p1 q0 q1 u0 u1 v0 v1).2.1, (seg4 p0 p1 q0 q1 u0 u1 v0 v1).2.2.1, (seg4 p0 p1 q0 q1 u0 u1 v0 v1).2.2.2.1) := by
  unfold segment_Chosen.f
  rw [segment_choose.is h]
  rfl
/-- What is chosen has the square of distance that is told. -/
theorem Four.dist {p0 p1 q0 q1 u0 u1 v0 v1 : Int} (h : Right4 p0 p1 q0 q1 u0 u1 v0 v1) : InB (seg4 p0 p1 q0 q1 u0 u1 v0 v1).1 ∧ InB (seg4 p0 p1 q0 q1 u0 u1 v0 v1).2.1 ∧ InB (seg4 p0 p1 q0 q1 u0 u1 v0 v1).2.2.1 ∧ InB (seg4 p0 p1 q0 q1 u0 u1 v0 v1).2.2.2.1 ∧
    dS ((seg4 p0 p1 q0 q1 u0 u1 v0 v1).2.2.1 - (seg4 p0 p1 q0 q1 u0 u1 v0 v1).1) ((seg4 p0 p1 q0 q1 u0 u1 v0 v1).2.2.2.1 - (seg4 p0 p1 q0 q1 u0 u1 v0 v1).2.1) = (seg4 p0 p1 q0 q1 u0 u1 v0 v1).2.2.2.2 := by
  obtain ⟨d1, d2, d3, d4, hF⟩ := Four.ex h
  obtain ⟨h1, h2, h3, h4⟩ := h.all
  obtain ⟨i1, j1⟩ := n_in h1
  obtain ⟨i2, j2⟩ := n_in h2
  obtain ⟨i3, j3⟩ := n_in h3
  obtain ⟨i4, j4⟩ := n_in h4
  obtain ⟨_, _, _, _, a1, a2, _, _⟩ := h1
  obtain ⟨_, _, _, _, b1, b2, _, _⟩ := h2
  obtain ⟨_, _, _, _, c1, c2, _, _⟩ := h3
  obtain ⟨_, _, _, _, e1, e2, _, _⟩ := h4
  rcases hF.chosen with ⟨e, _⟩ | ⟨e, _⟩ | ⟨e, _⟩ | ⟨e, _⟩
  · rw [e]; exact ⟨a1, a2, i1, j1, hF.e1⟩
  · rw [e]; exact ⟨b1, b2, i2, j2, hF.e2⟩
  · rw [e]; exact ⟨i3, j3, c1, c2, hF.e3⟩
  · rw [e]; exact ⟨i4, j4, e1, e2, hF.e4⟩
theorem billiardref13_DistSq.is {x0 x1 y0 y1 : Int} (h0 : InB x0) (h1 : InB x1) (h2 : InB y0) (h3 : InB y1) : billiardref13_DistSq.f x0 x1 y0 y1 = some (dS (y0 - x0) (y1 - x1)) := by
  unfold billiardref13_DistSq.f
  rw [wdiff h2 h0, wdiff h3 h1, billiardref04_LengthSq.is (in_diff h2 h0) (in_diff h3 h1)]
  rfl
end Go.Proofs.Ytahbfafnodeimaa.Q

namespace Go.Proofs.Ytahbfafnodeimaa.Q
open Go.RowKit Go.Proofs.YtahbfafnodeimaaW.PrintWords Go.Proofs.YtahbfafnodeimaaW.PrintLast Go.Proofs.YtahbfafnodeimaaW.PrintMore
set_option linter.unusedVariables false
def Betw (a b x : Int) : Prop := (a ≤ x ∧ x ≤ b) ∨ (b ≤ x ∧ x ≤ a)
theorem Betw.first (a b : Int) : Betw a b a := by unfold Betw; omega
theorem Betw.last (a b : Int) : Betw a b b := by unfold Betw; omega
theorem n_betw (p0 p1 q0 q1 c0 c1 : Int) : Betw p0 q0 (nX p0 p1 q0 q1 c0 c1) ∧ Betw p1 q1 (nY p0 p1 q0 q1 c0 c1) := by
  have hn := parN_bd (q0 - p0) (q1 - p1) (c0 - p0) (c1 - p1)
  have k1 := ptS_box (p := p0) (q := q0) hn
  have k2 := ptS_box (p := p1) (q := q1) hn
  unfold Betw nX nY
  omega
theorem Four.betw {p0 p1 q0 q1 u0 u1 v0 v1 : Int} (h : Right4 p0 p1 q0 q1 u0 u1 v0 v1) : Betw p0 q0 (seg4 p0 p1 q0 q1 u0 u1 v0 v1).1 ∧ Betw p1 q1 (seg4 p0 p1 q0 q1 u0 u1 v0 v1).2.1 ∧ Betw u0 v0 (seg4 p0 p1 q0 q1 u0 u1 v0 v1).2.2.1 ∧ Betw u1 v1 (seg4 p0 p1 q0 q1 u0 u1 v0 v1).2.2.2.1 := by
  obtain ⟨d1, d2, d3, d4, hF⟩ := Four.ex h
  rcases hF.chosen with ⟨e, _⟩ | ⟨e, _⟩ | ⟨e, _⟩ | ⟨e, _⟩
  · rw [e]; exact ⟨Betw.first _ _, Betw.first _ _, (n_betw _ _ _ _ _ _).1, (n_betw _ _ _ _ _ _).2⟩
  · rw [e]; exact ⟨Betw.last _ _, Betw.last _ _, (n_betw _ _ _ _ _ _).1, (n_betw _ _ _ _ _ _).2⟩
  · rw [e]; exact ⟨(n_betw _ _ _ _ _ _).1, (n_betw _ _ _ _ _ _).2, Betw.first _ _, Betw.first _ _⟩
  · rw [e]; exact ⟨(n_betw _ _ _ _ _ _).1, (n_betw _ _ _ _ _ _).2, Betw.last _ _, Betw.last _ _⟩
end Go.Proofs.Ytahbfafnodeimaa.Q
