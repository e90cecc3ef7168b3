/- For all segments and points, the parameter, the nearest point and the distance are those of the reference implementation. No condition. -/
import Derived.Test.YtpklgbkehkbopaaQPointMatchesReference
import Derived.Test.YtpklgbkehkbopaaMpoint
namespace Go.Proofs.Ytpklgbkehkbopaa.Pure
open Go.RowKit Go.Proofs.Ytpklgbkehkbopaa.Q Go.Proofs.YtpklgbkehkbopaaW.PrintWords Go.Proofs.YtpklgbkehkbopaaW.PrintLast Go.Proofs.YtpklgbkehkbopaaW.PrintMore
set_option linter.unusedVariables false

theorem ref_square {p0 p1 q0 q1 c0 c1 : Int} (h : RightP p0 p1 q0 q1 c0 c1) : billiardref12_Square.f p0 p1 q0 q1 = some (dS (q0 - p0) (q1 - p1)) := by
  obtain ⟨a1, a2, b1, b2, d1, d2, hx, hy⟩ := h
  have e1 := mul_bd (A := 16777216) (B := 16777216) hx hx
  have e2 := mul_bd (A := 16777216) (B := 16777216) hy hy
  unfold billiardref12_Square.f
  rw [wdiff b1 a1, wdiff b2 a2, w64_id (n := (q0 - p0) * (q0 - p0)) (by omega) (by omega), w64_id (n := (q1 - p1) * (q1 - p1)) (by omega) (by omega), w64_id (n := (q0 - p0) * (q0 - p0) + (q1 - p1) * (q1 - p1)) (by omega) (by omega)]
  rfl
theorem ref_limit {n d : Int} (h : 0 ≤ d) : billiardref12_Limit.f n 0 d = some (mx 0 (mn n d)) := by
  unfold billiardref12_Limit.f
  by_cases c : n < 0
  · rw [if_pos c]
    congr 1
    unfold mx mn
    omega
  · rw [if_neg c]
    by_cases e : n > d
    · rw [if_pos e]
      congr 1
      unfold mx mn
      omega
    · rw [if_neg e]
      congr 1
      unfold mx mn
      omega
theorem ref_param {p0 p1 q0 q1 c0 c1 : Int} (h : RightP p0 p1 q0 q1 c0 c1) : billiardref12_Param.f p0 p1 q0 q1 c0 c1 = some (parN (q0 - p0) (q1 - p1) (c0 - p0) (c1 - p1)) := by
  unfold billiardref12_Param.f
  rw [ref_square h]
  obtain ⟨a1, a2, b1, b2, d1, d2, hx, hy⟩ := h
  have e3 := mul_bd (A := 2164260864) (B := 16777216) (x := c0 - p0) (by unfold InB at *; omega) hx
  have e4 := mul_bd (A := 2164260864) (B := 16777216) (x := c1 - p1) (by unfold InB at *; omega) hy
  simp only [Option.bind_some]
  rw [wdiff b1 a1, wdiff b2 a2, wdiff d1 a1, wdiff d2 a2, w64_id (n := (c0 - p0) * (q0 - p0)) (by omega) (by omega), w64_id (n := (c1 - p1) * (q1 - p1)) (by omega) (by omega), w64_id (n := (c0 - p0) * (q0 - p0) + (c1 - p1) * (q1 - p1)) (by omega) (by omega), ref_limit (dS_nn _ _)]
  rfl
theorem ref_nearest {p0 p1 q0 q1 c0 c1 : Int} (h : RightP p0 p1 q0 q1 c0 c1) : billiardref12_Nearest.f p0 p1 q0 q1 c0 c1 = point_Nearest.f p0 p1 q0 q1 c0 c1 := by
  have hb := parN_bd (q0 - p0) (q1 - p1) (c0 - p0) (c1 - p1)
  obtain ⟨hp, hd⟩ := point_Param.is h
  unfold billiardref12_Nearest.f point_Nearest.f
  rw [ref_square h, ref_param h, hp]
  obtain ⟨a1, a2, b1, b2, d1, d2, hx, hy⟩ := h
  simp only [Option.bind_some]
  rw [wdiff b1 a1, wdiff b2 a2]
  generalize parN (q0 - p0) (q1 - p1) (c0 - p0) (c1 - p1) = n at *
  generalize dS (q0 - p0) (q1 - p1) = d at *
  unfold InB at *
  have hi : i32B p0 = true ∧ i32B p1 = true ∧ i32B q0 = true ∧ i32B q1 = true := ⟨i32B_iff.mpr (by omega), i32B_iff.mpr (by omega), i32B_iff.mpr (by omega), i32B_iff.mpr (by omega)⟩
  have hj : i64B n = true ∧ i64B d = true := ⟨i64B_iff.mpr (by omega), i64B_iff.mpr (by omega)⟩
  have h1 : i64B (q0 - p0) = true ∧ i64B n = true ∧ i64B d = true := ⟨i64B_iff.mpr (by omega), hj⟩
  have h2 : i64B (q1 - p1) = true ∧ i64B n = true ∧ i64B d = true := ⟨i64B_iff.mpr (by omega), hj⟩
  rw [if_pos hi]
  by_cases c : d = 0
  · rw [if_pos c, if_pos c]
  · rw [if_neg c, if_neg c, if_pos hj]
    unfold billiardref01_MulDiv.f
    rw [if_pos h1, if_pos h2]
    rfl
theorem near_in {p0 p1 q0 q1 c0 c1 : Int} (h : RightP p0 p1 q0 q1 c0 c1) : ∃ u v, point_Nearest.f p0 p1 q0 q1 c0 c1 = some (u, v) ∧ InB u ∧ InB v := by
  have hn := parN_bd (q0 - p0) (q1 - p1) (c0 - p0) (c1 - p1)
  refine ⟨_, _, point_Nearest.is h, ?_, ?_⟩
  · have k1 := ptS_box (p := p0) (q := q0) hn
    unfold RightP InB at *
    rcases Int.le_total p0 q0 with g | g
    · have := k1.1 g; omega
    · have := k1.2 g; omega
  · have k1 := ptS_box (p := p1) (q := q1) hn
    unfold RightP InB at *
    rcases Int.le_total p1 q1 with g | g
    · have := k1.1 g; omega
    · have := k1.2 g; omega
theorem len_ref (x y : Int) : ((vec_LengthSq.f x y).bind fun t => some t) = ((billiardref04_LengthSq.f x y).bind fun t => some t) := by
  unfold vec_LengthSq.f vec_square.f billiardref04_LengthSq.f
  by_cases cx : x < 0 <;> by_cases cy : y < 0 <;> simp only [cx, cy, if_true, if_false, Option.bind_some]
theorem ref_dist {p0 p1 q0 q1 c0 c1 : Int} (h : RightP p0 p1 q0 q1 c0 c1) : billiardref12_DistSq.f p0 p1 q0 q1 c0 c1 = point_DistSq.f p0 p1 q0 q1 c0 c1 ∧ ∃ L, point_DistSq.f p0 p1 q0 q1 c0 c1 = some L := by
  obtain ⟨u, v, e, hu, hv⟩ := near_in h
  obtain ⟨a1, a2, b1, b2, d1, d2, hx, hy⟩ := h
  have r := ref_nearest ⟨a1, a2, b1, b2, d1, d2, hx, hy⟩
  unfold billiardref12_DistSq.f point_DistSq.f
  rw [r, e]
  simp only [Option.bind_some, vec_Diff.f]
  refine ⟨(len_ref _ _).symm, ?_⟩
  unfold vec_LengthSq.f vec_square.f
  split <;> split <;> exact ⟨_, rfl⟩
theorem PointMatchesReference : billiardlaw12_PointMatchesReference.Pure := by
  intro p0 p1 q0 q1 c0 c1 _ _ _ _ _ _
  refine ⟨1, ?_⟩
  unfold billiardlaw12_PointMatchesReference.f
  rw [billiardlaw12_awake.yes]
  simp only [Option.bind_some, if_true]
  rcases Right_cases p0 p1 q0 q1 c0 c1 with ⟨e, h⟩ | e
  · rw [e]
    simp only [Option.bind_some, Bool.not_true, billiardlaw12_PointMatchesReference.j0]
    obtain ⟨r1, L, r2⟩ := ref_dist h
    rw [if_neg (by decide), (point_Param.is h).1, ref_param h, ref_square h, ref_nearest h, point_Nearest.is h, r1, r2]
    simp
  · rw [e]
    simp [billiardlaw12_PointMatchesReference.j0, billiardlaw12_awake.yes]

end Go.Proofs.Ytpklgbkehkbopaa.Pure
