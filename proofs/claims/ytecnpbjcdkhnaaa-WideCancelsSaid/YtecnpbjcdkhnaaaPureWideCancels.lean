/- Multiplying and dividing by the same number changes nothing; dividing by one is the product if it is in range. No condition. -/
import Derived.Test.YtecnpbjcdkhnaaaQWideCancels
import Derived.Test.YtecnpbjcdkhnaaaMlaw01
namespace Go.Proofs.Ytecnpbjcdkhnaaa.Pure
open Go.RowKit Go.Proofs.Ytecnpbjcdkhnaaa.Q Go.Proofs.YtecnpbjcdkhnaaaW.PrintWords Go.Proofs.YtecnpbjcdkhnaaaW.PrintLast Go.Proofs.YtecnpbjcdkhnaaaW.PrintMore
set_option linter.unusedVariables false

theorem WideCancels : billiardlaw01_WideCancels.Pure := by
  intro a b wa wb
  have ha := wf_i64 wa
  have hb := wf_i64 wb
  refine ⟨1, ?_⟩
  unfold billiardlaw01_WideCancels.f
  have m1 : mulDivS a b 1 = shiftS a b 0 := by
    have e3 : shiftS a b 0 = if i64B (a * b) = true then (a * b, 0) else (0, 3) := by
      unfold shiftS
      rw [if_pos (by decide)]
      simp
    rw [e3]
    unfold mulDivS
    rw [if_neg (by decide), fl_one]
  rw [billiardlaw01_awake.yes, wide_MulDiv.is ha hb hb, wide_MulDiv.is ha hb (by decide), wide_MulShift.is ha hb, m1]
  simp only [Option.bind_some, if_true]
  by_cases c : b = 0
  · subst c
    rw [if_pos rfl, ← m1]
    have e : mulDivS a 0 1 = (0, 0) := by
      unfold mulDivS
      rw [if_neg (by decide), fl_one, Int.mul_zero]
      rfl
    rw [e]
    simp [mulDivS]
  · rw [if_neg c]
    have e : mulDivS a b b = (a, 0) := by
      unfold mulDivS
      rw [if_neg c, fl_self c, if_pos (i64B_iff.mpr ha)]
    rw [e]
    simp

end Go.Proofs.Ytecnpbjcdkhnaaa.Pure
