/- Sums, products with a number that is not negative, and saturated numbers are monotone. No condition. -/
import Derived.Test.YtkkmknkpopgliaaQFxMonotone
import Derived.Test.YtkkmknkpopgliaaMlaw02
namespace Go.Proofs.Ytkkmknkpopgliaa.Pure
open Go.RowKit Go.Proofs.Ytkkmknkpopgliaa.Q Go.Proofs.YtkkmknkpopgliaaW.PrintWords Go.Proofs.YtkkmknkpopgliaaW.PrintLast
set_option linter.unusedVariables false

theorem fm_j1 (a b c n m : Int) (ha : -2147483648 ≤ a ∧ a ≤ 2147483647) (hb : -2147483648 ≤ b ∧ b ≤ 2147483647) (hc : -2147483648 ≤ c ∧ c ≤ 2147483647) (hab : a ≤ b) (hnm : n ≤ m) (k : Nat) : billiardlaw02_FxMonotone.j1 (k + 1) a b c n m = some true := by
  simp only [billiardlaw02_FxMonotone.j1]
  rw [fx_Add.is ha hc, fx_Add.is hb hc, fx_Sub.is hc ha, fx_Sub.is hc hb, fx_Saturate.is, fx_Saturate.is, fx_FromInt.is, fx_FromInt.is, fx_Mul.is ha hc, fx_Mul.is hb hc]
  simp only [Option.bind_some]
  have f : fromInt n ≤ fromInt m := by unfold fromInt; exact sat32_mono (by unfold lim mx mn; omega)
  rw [if_pos (sat32_mono (by omega)), if_pos (show sat32 (c - a) ≥ sat32 (c - b) from sat32_mono (by omega)), if_pos (sat32_mono hnm), if_pos f]
  by_cases d : c < 0
  · rw [if_pos d]
  · have h : a * c ≤ b * c := Int.mul_le_mul_of_nonneg_right hab (by omega)
    rw [if_neg d, decide_eq_true (sat32_mono (by omega))]
theorem fm_j0 (a b c n m : Int) (ha : -2147483648 ≤ a ∧ a ≤ 2147483647) (hb : -2147483648 ≤ b ∧ b ≤ 2147483647) (hc : -2147483648 ≤ c ∧ c ≤ 2147483647) (hab : a ≤ b) (k : Nat) : billiardlaw02_FxMonotone.j0 (k + 2) a b c n m = some true := by
  simp only [billiardlaw02_FxMonotone.j0]
  by_cases d : n > m
  · rw [if_pos d, fm_j1 a b c m n ha hb hc hab (by omega) k]
  · rw [if_neg d, fm_j1 a b c n m ha hb hc hab (by omega) k]

theorem FxMonotone : billiardlaw02_FxMonotone.Pure := by
  intro a b c n m wa wb wc _ _
  have ha := wf_i32 wa
  have hb := wf_i32 wb
  have hc := wf_i32 wc
  refine ⟨2, ?_⟩
  unfold billiardlaw02_FxMonotone.f
  rw [billiardlaw02_awake.yes]
  simp only [Option.bind_some, if_true]
  by_cases d : a > b
  · rw [if_pos d, fm_j0 b a c n m hb ha hc (by omega) 0]
  · rw [if_neg d, fm_j0 a b c n m ha hb hc (by omega) 0]

end Go.Proofs.Ytkkmknkpopgliaa.Pure
