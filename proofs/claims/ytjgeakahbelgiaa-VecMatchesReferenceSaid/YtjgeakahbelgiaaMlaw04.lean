/- The examples of the document's chapter 4 hold; the range of differences. -/
import Derived.Test.YtjgeakahbelgiaaQbilliardlaw04
import Derived.Test.YtjgeakahbelgiaaQbilliardref04
import Derived.Test.YtjgeakahbelgiaaMvec
import Derived.Test.YtjgeakahbelgiaaMfx
namespace Go.Proofs.Ytjgeakahbelgiaa.Q
open Go.RowKit Go.Proofs.YtjgeakahbelgiaaW.PrintWords Go.Proofs.YtjgeakahbelgiaaW.PrintLast Go.Proofs.YtjgeakahbelgiaaW.PrintMore
set_option linter.unusedVariables false

theorem vec_Perp.is {a b : Int} (hb : -2147483648 ≤ b ∧ b ≤ 2147483647) : vec_Perp.f a b = some (sat32 (0 - b), a) := by
  unfold vec_Perp.f
  rw [fx_Neg.is hb]
  rfl
theorem rt_25 : IsRt (3 * 3 + 4 * 4) 5 := by unfold IsRt; decide
theorem rt_0 : IsRt (0 * 0 + 0 * 0) 0 := by unfold IsRt; decide
theorem billiardlaw04_awake.yes (k : Nat) (hk : 33 ≤ k) : billiardlaw04_awake.f k = some true := by
  unfold billiardlaw04_awake.f
  rw [vec_Diff.is (by decide) (by decide) (by decide) (by decide), vec_Length.is rt_25 (by decide) k hk, vec_Unit.is rt_25 (by decide) k hk, vec_Unit.is rt_0 (by decide) k hk, vec_Dot.is (by decide) (by decide) (by decide) (by decide), vec_Cross.is (by decide) (by decide) (by decide) (by decide), vec_Perp.is (by decide)]
  simp only [Option.bind_some]
  decide
theorem billiardref04_In.is (d : Int) : billiardref04_In.f d = some (decide (-2181038080 ≤ d ∧ d ≤ 2181038080)) := by
  unfold billiardref04_In.f
  by_cases c : d ≥ -2181038080
  · rw [if_pos c]
    congr 1
    by_cases e : d ≤ 2181038080
    · rw [decide_eq_true e, decide_eq_true ⟨c, e⟩]
    · rw [decide_eq_false e, decide_eq_false (fun h => e h.2)]
  · rw [if_neg c, decide_eq_false (fun h => c h.1)]
theorem in_sq {x y : Int} (hx : -2181038080 ≤ x ∧ x ≤ 2181038080) (hy : -2181038080 ≤ y ∧ y ≤ 2181038080) : 0 ≤ x * x + y * y ∧ x * x + y * y ≤ 9513854212820172800 := by
  have a := sq_le hx.1 hx.2
  have b := sq_le hy.1 hy.2
  have c := sq_nn x
  have d := sq_nn y
  omega
end Go.Proofs.Ytjgeakahbelgiaa.Q
