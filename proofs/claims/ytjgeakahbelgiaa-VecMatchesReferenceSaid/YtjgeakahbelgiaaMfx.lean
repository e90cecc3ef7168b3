/- What the functions of fx and of their reference answer, in plain numbers. -/
import Derived.Test.YtjgeakahbelgiaaQfx
import Derived.Test.YtjgeakahbelgiaaMnum
import Derived.Test.YtjgeakahbelgiaaQbilliardref02
namespace Go.Proofs.Ytjgeakahbelgiaa.Q
open Go.RowKit Go.Proofs.YtjgeakahbelgiaaW.PrintWords Go.Proofs.YtjgeakahbelgiaaW.PrintLast Go.Proofs.YtjgeakahbelgiaaW.PrintMore
set_option linter.unusedVariables false

theorem fx_Add.is {a b : Int} (ha : -2147483648 ≤ a ∧ a ≤ 2147483647) (hb : -2147483648 ≤ b ∧ b ≤ 2147483647) : fx_Add.f a b = some (sat32 (a + b)) := by
  unfold fx_Add.f; rw [if_pos ⟨i32B_iff.mpr ha, i32B_iff.mpr hb⟩]
theorem fx_Sub.is {a b : Int} (ha : -2147483648 ≤ a ∧ a ≤ 2147483647) (hb : -2147483648 ≤ b ∧ b ≤ 2147483647) : fx_Sub.f a b = some (sat32 (a - b)) := by
  unfold fx_Sub.f; rw [if_pos ⟨i32B_iff.mpr ha, i32B_iff.mpr hb⟩]
theorem fx_Neg.is {a : Int} (ha : -2147483648 ≤ a ∧ a ≤ 2147483647) : fx_Neg.f a = some (sat32 (0 - a)) := by
  unfold fx_Neg.f
  rw [fx_Sub.is (by decide) ha]
  rfl
theorem fx_Mul.is {a b : Int} (ha : -2147483648 ≤ a ∧ a ≤ 2147483647) (hb : -2147483648 ≤ b ∧ b ≤ 2147483647) : fx_Mul.f a b = some (sat32 (a * b / 65536)) := by
  unfold fx_Mul.f; rw [if_pos ⟨i32B_iff.mpr ha, i32B_iff.mpr hb⟩]
theorem billiardref02_Saturate.is (a : Int) : billiardref02_Saturate.f a = some (sat32 a) := by
  unfold billiardref02_Saturate.f sat32 mx mn
  by_cases c : a > 2147483647
  · rw [if_pos c]; congr 1; omega
  · rw [if_neg c]
    by_cases d : a < -2147483648
    · rw [if_pos d]; congr 1; omega
    · rw [if_neg d, w32_id (by omega) (by omega)]; congr 1; omega
theorem billiardref01_Floor.is {a b : Int} (hb : 0 < b) (ha0 : -9223372036854775807 ≤ a) (ha1 : a ≤ 9223372036854775807) : billiardref01_Floor.f a b = some (a / b) := floor_wrap hb ha0 ha1
theorem billiardref02_Mul.is {a b : Int} (ha : -2147483648 ≤ a ∧ a ≤ 2147483647) (hb : -2147483648 ≤ b ∧ b ≤ 2147483647) : billiardref02_Mul.f a b = some (sat32 (a * b / 65536)) := by
  unfold billiardref02_Mul.f
  have := mul_i32 ha hb
  rw [prod_i32 ha hb, billiardref01_Floor.is (by decide) (by omega) (by omega)]
  simp only [Option.bind_some]
  rw [billiardref02_Saturate.is]
  rfl
end Go.Proofs.Ytjgeakahbelgiaa.Q
