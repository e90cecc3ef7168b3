/- The box of a body with a greater radius contains its box: their union is the greater one, their meet the other one; for all bodies and radii. -/
import Derived.Test.YtniiffbcdjoelaaDoorQBoxGrows
import Derived.Test.YtniiffbcdjoelaaDoorMbox
import Derived.Test.YtniiffbcdjoelaaDoorMbody
namespace Go.Proofs.YtniiffbcdjoelaaDoor.Pure
open Go.RowKit Go.Proofs.YtniiffbcdjoelaaDoor.Q Go.Proofs.YtniiffbcdjoelaaDoorW.PrintWords Go.Proofs.YtniiffbcdjoelaaDoorW.PrintLast
theorem BoxGrows : billiardlaw08_BoxGrows.Pure := by
  intro key r ax ay m b px py vx vy s _ _ _ _ _ _ _ _ _ _ _
  have aw : billiardlaw08_awake.f = some true := by decide +kernel
  refine ⟨0 + 5, ?_⟩
  unfold billiardlaw08_BoxGrows.f
  rw [aw]
  simp only [Option.bind_some, if_true]
  have out : ∀ x1 x2 x3 x4 x5 x6 x7 x8 x9 x10 y1 y2 y3 y4 y5 y6 y7 y8 y9 y10 z : Int, billiardlaw08_BoxGrows.j0 (0 + 5) z true x1 x2 x3 x4 x5 x6 x7 x8 x9 x10 y1 y2 y3 y4 y5 y6 y7 y8 y9 y10 = some true := fun x1 x2 x3 x4 x5 x6 x7 x8 x9 x10 y1 y2 y3 y4 y5 y6 y7 y8 y9 y10 z => by
    simp only [billiardlaw08_BoxGrows.j0]
    rw [if_pos trivial, aw]
    rfl
  rcases Check_cases 0 key r ax ay m b px py vx vy with ⟨e1, V⟩ | ⟨x, hx, e1⟩
  rotate_left
  · rw [e1, Option.bind_some, if_neg hx]; exact out ..
  rw [e1, Option.bind_some, if_pos rfl]
  rcases Check_cases 0 key s ax ay m b px py vx vy with ⟨e2, V2⟩ | ⟨x, hx, e2⟩
  rotate_left
  · rw [e2, Option.bind_some, if_neg hx]; exact out ..
  rw [e2, Option.bind_some, if_pos rfl]
  by_cases hs : s < r
  · rw [decide_eq_true hs]; exact out ..
  rw [decide_eq_false hs]
  have hr := V.r
  have hr2 := V2.r
  have hx := V.ax
  have hy := V.ay
  have hp := V.px
  have hq := V.py
  simp only [billiardlaw08_BoxGrows.j0, Bool.false_eq_true, if_false]
  rw [box_Of.is (by omega) V.ax V.ay V.px V.py, box_Of.is (by omega) V.ax V.ay V.px V.py]
  simp only [Option.bind_some, box_Overlap.is, box_Meet.is, box_Union.is, ofB]
  have ex : 0 ≤ absI ax ∧ absI ax ≤ 4194304 := by unfold absI; split <;> omega
  have ey : 0 ≤ absI ay ∧ absI ay ≤ 4194304 := by unfold absI; split <;> omega
  generalize absI ax = u at ex ⊢
  generalize absI ay = v at ey ⊢
  have n1 : emptyB (px - (u + r)) (py - (v + r)) (px + (u + r)) (py + (v + r)) = false := emptyB_no.mpr (by omega)
  have n2 : emptyB (px - (u + s)) (py - (v + s)) (px + (u + s)) (py + (v + s)) = false := emptyB_no.mpr (by omega)
  have m1 : mn (px - (u + r)) (px - (u + s)) = px - (u + s) := by rw [box_mn]; split <;> omega
  have m2 : mn (py - (v + r)) (py - (v + s)) = py - (v + s) := by rw [box_mn]; split <;> omega
  have m3 : mx (px + (u + r)) (px + (u + s)) = px + (u + s) := by rw [box_mx]; split <;> omega
  have m4 : mx (py + (v + r)) (py + (v + s)) = py + (v + s) := by rw [box_mx]; split <;> omega
  have m5 : mx (px - (u + r)) (px - (u + s)) = px - (u + r) := by rw [box_mx]; split <;> omega
  have m6 : mx (py - (v + r)) (py - (v + s)) = py - (v + r) := by rw [box_mx]; split <;> omega
  have m7 : mn (px + (u + r)) (px + (u + s)) = px + (u + r) := by rw [box_mn]; split <;> omega
  have m8 : mn (py + (v + r)) (py + (v + s)) = py + (v + r) := by rw [box_mn]; split <;> omega
  have o : overB (px - (u + r)) (py - (v + r)) (px + (u + r)) (py + (v + r)) (px - (u + s)) (py - (v + s)) (px + (u + s)) (py + (v + s)) = true := overB_iff.mpr (by omega)
  rw [o]
  unfold unionB meetB
  rw [n1, n2, m1, m2, m3, m4, m5, m6, m7, m8, n1]
  simp only [Bool.false_eq_true, if_false, beq_self_eq_true, Bool.and_self, if_true]
  rw [w32_id (n := px - (u + r) - (px - (u + s))) (by omega) (by omega), w32_id (n := s - r) (by omega) (by omega), w32_id (n := py + (v + s) - (py + (v + r))) (by omega) (by omega), if_pos (by omega)]
  congr 1
  simp only [beq_iff_eq]
  omega
end Go.Proofs.YtniiffbcdjoelaaDoor.Pure
