/- What the functions of point return for arguments in range, and that the examples of the document's chapter 12 hold. -/
import Derived.Test.YtddooigcnbpliaaQpoint
import Derived.Test.YtddooigcnbpliaaQbilliardref12
namespace Go.Proofs.Ytddooigcnbpliaa.Q
open Go.RowKit Go.Proofs.YtddooigcnbpliaaW.PrintWords Go.Proofs.YtddooigcnbpliaaW.PrintLast Go.Proofs.YtddooigcnbpliaaW.PrintMore
set_option linter.unusedVariables false
def InB (a : Int) : Prop := -1082130432 ≤ a ∧ a ≤ 1082130432
def RightP (p0 p1 q0 q1 c0 c1 : Int) : Prop := InB p0 ∧ InB p1 ∧ InB q0 ∧ InB q1 ∧ InB c0 ∧ InB c1 ∧ (-16777216 ≤ q0 - p0 ∧ q0 - p0 ≤ 16777216) ∧ (-16777216 ≤ q1 - p1 ∧ q1 - p1 ≤ 16777216)
theorem In_cases (a0 a1 : Int) : (billiardref12_In.f a0 a1 = some true ∧ InB a0 ∧ InB a1) ∨ billiardref12_In.f a0 a1 = some false := by
  unfold billiardref12_In.f InB
  by_cases h1 : a0 ≥ -1082130432
  · rw [if_pos h1]
    by_cases h2 : a0 ≤ 1082130432
    · rw [if_pos h2]
      by_cases h3 : a1 ≥ -1082130432
      · rw [if_pos h3]
        by_cases h4 : a1 ≤ 1082130432
        · exact Or.inl ⟨by rw [decide_eq_true h4], ⟨h1, h2⟩, ⟨h3, h4⟩⟩
        · exact Or.inr (by rw [decide_eq_false h4])
      · exact Or.inr (by rw [if_neg h3])
    · exact Or.inr (by rw [if_neg h2])
  · exact Or.inr (by rw [if_neg h1])
theorem wdiff {a b : Int} (ha : InB a) (hb : InB b) : wrap64 (wrap64 a - wrap64 b) = a - b := by
  unfold InB at *
  rw [w64_id (n := a) (by omega) (by omega), w64_id (n := b) (by omega) (by omega), w64_id (by omega) (by omega)]
theorem Right_cases (p0 p1 q0 q1 c0 c1 : Int) : (billiardref12_Right.f p0 p1 q0 q1 c0 c1 = some true ∧ RightP p0 p1 q0 q1 c0 c1) ∨ billiardref12_Right.f p0 p1 q0 q1 c0 c1 = some false := by
  unfold billiardref12_Right.f RightP
  rcases In_cases p0 p1 with ⟨e, a1, a2⟩ | e
  · rw [e]
    simp only [Option.bind_some, if_true]
    rcases In_cases q0 q1 with ⟨e, b1, b2⟩ | e
    · rw [e]
      simp only [Option.bind_some, if_true]
      rcases In_cases c0 c1 with ⟨e, d1, d2⟩ | e
      · rw [e]
        simp only [Option.bind_some, if_true]
        rw [wdiff b1 a1, wdiff b2 a2]
        by_cases h1 : q0 - p0 ≥ -16777216
        · rw [if_pos h1]
          by_cases h2 : q0 - p0 ≤ 16777216
          · rw [if_pos h2]
            by_cases h3 : q1 - p1 ≥ -16777216
            · rw [if_pos h3]
              by_cases h4 : q1 - p1 ≤ 16777216
              · exact Or.inl ⟨by rw [decide_eq_true h4], a1, a2, b1, b2, d1, d2, ⟨h1, h2⟩, ⟨h3, h4⟩⟩
              · exact Or.inr (by rw [decide_eq_false h4])
            · exact Or.inr (by rw [if_neg h3])
          · exact Or.inr (by rw [if_neg h2])
        · exact Or.inr (by rw [if_neg h1])
      · exact Or.inr (by rw [e]; rfl)
    · exact Or.inr (by rw [e]; rfl)
  · exact Or.inr (by rw [e]; rfl)
theorem mul_bd {x y A B : Int} (hx : -A ≤ x ∧ x ≤ A) (hy : -B ≤ y ∧ y ≤ B) : -(A * B) ≤ x * y ∧ x * y ≤ A * B := by
  have hA : mg x ≤ A := by unfold mg; split <;> omega
  have hB : mg y ≤ B := by unfold mg; split <;> omega
  have h0 : 0 ≤ mg x := by unfold mg; split <;> omega
  have h1 : 0 ≤ mg y := by unfold mg; split <;> omega
  have hm := Int.mul_le_mul hA hB h1 (by omega)
  have e : x * y = mg x * mg y ∨ x * y = -(mg x * mg y) := by
    by_cases ca : x < 0 <;> by_cases cb : y < 0 <;> simp [mg, ca, cb, Int.neg_mul, Int.mul_neg]
  have hn := Int.mul_nonneg h0 h1
  omega
def dS (dx dy : Int) : Int := dx * dx + dy * dy
def parN (dx dy cx cy : Int) : Int := mx 0 (mn (cx * dx + cy * dy) (dS dx dy))
theorem dS_nn (dx dy : Int) : 0 ≤ dS dx dy := by
  have h : ∀ x : Int, 0 ≤ x * x := fun x => by
    rcases Int.le_total 0 x with h | h
    · exact Int.mul_nonneg h h
    · rw [← Int.neg_mul_neg]; exact Int.mul_nonneg (by omega) (by omega)
  have := h dx
  have := h dy
  unfold dS
  omega
theorem parN_bd (dx dy cx cy : Int) : 0 ≤ parN dx dy cx cy ∧ parN dx dy cx cy ≤ dS dx dy := by
  have := dS_nn dx dy
  unfold parN mx mn
  omega
theorem point_Param.is {p0 p1 q0 q1 c0 c1 : Int} (h : RightP p0 p1 q0 q1 c0 c1) : point_Param.f p0 p1 q0 q1 c0 c1 = some (parN (q0 - p0) (q1 - p1) (c0 - p0) (c1 - p1), dS (q0 - p0) (q1 - p1)) ∧ dS (q0 - p0) (q1 - p1) ≤ 562949953421312 := by
  obtain ⟨a1, a2, b1, b2, d1, d2, hx, hy⟩ := h
  have e1 := mul_bd (A := 16777216) (B := 16777216) hx hx
  have e2 := mul_bd (A := 16777216) (B := 16777216) hy hy
  have e3 := mul_bd (A := 2164260864) (B := 16777216) (x := c0 - p0) (by unfold InB at *; omega) hx
  have e4 := mul_bd (A := 2164260864) (B := 16777216) (x := c1 - p1) (by unfold InB at *; omega) hy
  unfold point_Param.f vec_Diff.f
  simp only [Option.bind_some]
  rw [wdiff b1 a1, wdiff b2 a2, wdiff d1 a1, wdiff d2 a2]
  rw [w64_id (n := (c0 - p0) * (q0 - p0)) (by omega) (by omega), w64_id (n := (c1 - p1) * (q1 - p1)) (by omega) (by omega), w64_id (n := (q0 - p0) * (q0 - p0)) (by omega) (by omega), w64_id (n := (q1 - p1) * (q1 - p1)) (by omega) (by omega), w64_id (n := (c0 - p0) * (q0 - p0) + (c1 - p1) * (q1 - p1)) (by omega) (by omega), w64_id (n := (q0 - p0) * (q0 - p0) + (q1 - p1) * (q1 - p1)) (by omega) (by omega)]
  exact ⟨rfl, by unfold dS; omega⟩
theorem part_bd {x n d : Int} (hd : 0 < d) (h0 : 0 ≤ n) (h1 : n ≤ d) : (0 ≤ x → 0 ≤ x * n / d ∧ x * n / d ≤ x) ∧ (x ≤ 0 → x ≤ x * n / d ∧ x * n / d ≤ 0) := by
  constructor
  · intro hx
    refine ⟨Int.ediv_nonneg (Int.mul_nonneg hx h0) (by omega), ?_⟩
    exact Int.ediv_le_of_le_mul hd (Int.mul_le_mul_of_nonneg_left h1 hx)
  · intro hx
    refine ⟨Int.le_ediv_of_mul_le hd (Int.mul_le_mul_of_nonpos_left hx h1), ?_⟩
    have : x * n ≤ 0 := Int.mul_nonpos_of_nonpos_of_nonneg hx h0
    exact Int.ediv_le_of_le_mul hd (by omega)
/-- The coordinate of the nearest point. -/
def ptS (p x n d : Int) : Int := p + x * n / d
theorem point_Nearest.is {p0 p1 q0 q1 c0 c1 : Int} (h : RightP p0 p1 q0 q1 c0 c1) :
    point_Nearest.f p0 p1 q0 q1 c0 c1 = some (ptS p0 (q0 - p0) (parN (q0 - p0) (q1 - p1) (c0 - p0) (c1 - p1)) (dS (q0 - p0) (q1 - p1)), ptS p1 (q1 - p1) (parN (q0 - p0) (q1 - p1) (c0 - p0) (c1 - p1)) (dS (q0 - p0) (q1 - p1))) := by
  obtain ⟨hp, hd⟩ := point_Param.is h
  have hn := parN_bd (q0 - p0) (q1 - p1) (c0 - p0) (c1 - p1)
  have hd0 := dS_nn (q0 - p0) (q1 - p1)
  unfold point_Nearest.f
  rw [hp]
  obtain ⟨a1, a2, b1, b2, d1, d2, hx, hy⟩ := h
  unfold InB at *
  generalize parN (q0 - p0) (q1 - p1) (c0 - p0) (c1 - p1) = n at *
  generalize dS (q0 - p0) (q1 - p1) = d at *
  simp only [Option.bind_some]
  rw [if_pos ⟨i32B_iff.mpr (by omega), i32B_iff.mpr (by omega), i32B_iff.mpr (by omega), i32B_iff.mpr (by omega)⟩]
  by_cases c : d = 0
  · subst c
    rw [if_pos rfl]
    simp [ptS]
  · rw [if_neg c, if_pos ⟨i64B_iff.mpr (by omega), i64B_iff.mpr (by omega)⟩]
    have key : ∀ f x : Int, (-1082130432 ≤ f ∧ f ≤ 1082130432) → (-16777216 ≤ x ∧ x ≤ 16777216) → partS f x n d = ptS f x n d := by
      intro f x hf hx
      obtain ⟨k1, k2⟩ := part_bd (x := x) (show 0 < d by omega) hn.1 hn.2
      have hb : -16777216 ≤ x * n / d ∧ x * n / d ≤ 16777216 := by
        rcases Int.le_total 0 x with g | g
        · have := k1 g; omega
        · have := k2 g; omega
      have e : mulDivS x n d = (x * n / d, 0) := by
        unfold mulDivS fl
        rw [if_neg c, if_pos (show 0 < d by omega), if_pos (i64B_iff.mpr (by omega))]
      unfold partS ptS
      rw [e]
      rw [w32_id (n := x * n / d) (by omega) (by omega), w32_id (by omega) (by omega)]
    rw [key p0 _ a1 hx, key p1 _ a2 hy]
theorem dS_zero {dx dy : Int} (h : dS dx dy = 0) : dx = 0 ∧ dy = 0 := by
  have hh : ∀ x : Int, 0 ≤ x * x := fun x => by
    rcases Int.le_total 0 x with h | h
    · exact Int.mul_nonneg h h
    · rw [← Int.neg_mul_neg]; exact Int.mul_nonneg (by omega) (by omega)
  have h1 := hh dx
  have h2 := hh dy
  unfold dS at h
  constructor
  · have : dx * dx = 0 := by omega
    rcases Int.mul_eq_zero.mp this with h | h <;> exact h
  · have : dy * dy = 0 := by omega
    rcases Int.mul_eq_zero.mp this with h | h <;> exact h
theorem ptS_zero (p x d : Int) : ptS p x 0 d = p := by simp [ptS]
theorem ptS_full {p q d : Int} (h : d = 0 → q - p = 0) : ptS p (q - p) d d = q := by
  unfold ptS
  by_cases c : d = 0
  · subst c
    have := h rfl
    simp
    omega
  · rw [Int.mul_ediv_cancel _ c]; omega
theorem ptS_turned {p q n d : Int} (h : d = 0 → q - p = 0) : ptS q (p - q) (d - n) d = ptS p (q - p) n d := by
  unfold ptS
  by_cases c : d = 0
  · subst c
    have := h rfl
    simp
    omega
  · have e : (p - q) * (d - n) = (q - p) * n + (p - q) * d := by grind
    rw [e, Int.add_mul_ediv_right _ _ c]
    omega
theorem dS_turned (p0 p1 q0 q1 : Int) : dS (p0 - q0) (p1 - q1) = dS (q0 - p0) (q1 - p1) := by unfold dS; grind
theorem parN_turned (p0 p1 q0 q1 c0 c1 : Int) : parN (p0 - q0) (p1 - q1) (c0 - q0) (c1 - q1) = dS (q0 - p0) (q1 - p1) - parN (q0 - p0) (q1 - p1) (c0 - p0) (c1 - p1) := by
  have e : (c0 - q0) * (p0 - q0) + (c1 - q1) * (p1 - q1) = dS (q0 - p0) (q1 - p1) - ((c0 - p0) * (q0 - p0) + (c1 - p1) * (q1 - p1)) := by unfold dS; grind
  have := dS_nn (q0 - p0) (q1 - p1)
  unfold parN
  rw [e, dS_turned p0 p1 q0 q1]
  generalize (c0 - p0) * (q0 - p0) + (c1 - p1) * (q1 - p1) = t
  generalize dS (q0 - p0) (q1 - p1) = d at *
  unfold mx mn
  omega
theorem RightP.turned {p0 p1 q0 q1 c0 c1 : Int} (h : RightP p0 p1 q0 q1 c0 c1) : RightP q0 q1 p0 p1 c0 c1 := by
  obtain ⟨a1, a2, b1, b2, d1, d2, hx, hy⟩ := h
  exact ⟨b1, b2, a1, a2, d1, d2, by omega, by omega⟩
theorem RightP.at {p0 p1 q0 q1 c0 c1 : Int} (h : RightP p0 p1 q0 q1 c0 c1) : RightP p0 p1 q0 q1 p0 p1 ∧ RightP p0 p1 q0 q1 q0 q1 := by
  obtain ⟨a1, a2, b1, b2, d1, d2, hx, hy⟩ := h
  exact ⟨⟨a1, a2, b1, b2, a1, a2, hx, hy⟩, ⟨a1, a2, b1, b2, b1, b2, hx, hy⟩⟩
theorem parN_first (dx dy : Int) : parN dx dy 0 0 = 0 := by
  have := dS_nn dx dy
  unfold parN mx mn
  rw [Int.zero_mul, Int.zero_mul]
  omega
theorem parN_last (dx dy : Int) : parN dx dy dx dy = dS dx dy := by
  have := dS_nn dx dy
  have e : dx * dx + dy * dy = dS dx dy := rfl
  unfold parN mx mn
  rw [e]
  omega
theorem nearest_first {p0 p1 q0 q1 c0 c1 : Int} (h : RightP p0 p1 q0 q1 c0 c1) : point_Nearest.f p0 p1 q0 q1 p0 p1 = some (p0, p1) := by
  rw [point_Nearest.is h.at.1, Int.sub_self, Int.sub_self, parN_first, ptS_zero, ptS_zero]
theorem nearest_last {p0 p1 q0 q1 c0 c1 : Int} (h : RightP p0 p1 q0 q1 c0 c1) : point_Nearest.f p0 p1 q0 q1 q0 q1 = some (q0, q1) := by
  rw [point_Nearest.is h.at.2, parN_last, ptS_full (fun e => (dS_zero e).1), ptS_full (fun e => (dS_zero e).2)]
theorem ptS_box {p q n d : Int} (hn : 0 ≤ n ∧ n ≤ d) : (p ≤ q → p ≤ ptS p (q - p) n d ∧ ptS p (q - p) n d ≤ q) ∧ (q ≤ p → q ≤ ptS p (q - p) n d ∧ ptS p (q - p) n d ≤ p) := by
  unfold ptS
  by_cases c : d = 0
  · subst c
    simp
  · obtain ⟨k1, k2⟩ := part_bd (x := q - p) (show 0 < d by omega) hn.1 hn.2
    constructor
    · intro h
      have := k1 (by omega)
      omega
    · intro h
      have := k2 (by omega)
      omega
end Go.Proofs.Ytddooigcnbpliaa.Q
