/- Factors may be exchanged, and a product changes its sign with one of its factors. No condition. -/
import Derived.Test.YtecnpbjcdkhnaaaQWideSymmetric
import Derived.Test.YtecnpbjcdkhnaaaMlaw01
namespace Go.Proofs.Ytecnpbjcdkhnaaa.Pure
open Go.RowKit Go.Proofs.Ytecnpbjcdkhnaaa.Q Go.Proofs.YtecnpbjcdkhnaaaW.PrintWords Go.Proofs.YtecnpbjcdkhnaaaW.PrintLast Go.Proofs.YtecnpbjcdkhnaaaW.PrintMore
set_option linter.unusedVariables false

theorem WideSymmetric : billiardlaw01_WideSymmetric.Pure := by
  intro a b c n wa wb wc wn
  have ha := wf_i64 wa
  have hb := wf_i64 wb
  have hc := wf_i64 wc
  refine ⟨1, ?_⟩
  unfold billiardlaw01_WideSymmetric.f
  have m1 : mulDivS b a c = mulDivS a b c := by unfold mulDivS; rw [Int.mul_comm]
  have m2 : shiftS b a n = shiftS a b n := by unfold shiftS; rw [Int.mul_comm]
  rw [billiardlaw01_awake.yes, wide_Mul.is ha hb, wide_Mul.is hb ha, wide_MulDiv.is ha hb hc, wide_MulDiv.is hb ha hc, wide_MulShift.is ha hb, wide_MulShift.is hb ha, m1, m2, Int.mul_comm b a]
  simp only [Option.bind_some, if_true, bne_self_eq_false, billiardlaw01_WideSymmetric.j0]
  rw [if_neg (by decide)]
  by_cases c0 : a = -9223372036854775808
  · rw [if_pos c0]
  · rw [if_neg c0, w64_id (n := -a) (by omega) (by omega), wide_Mul.is ⟨by omega, by omega⟩ hb, Int.neg_mul]
    have hp := prod_bd ha hb
    generalize a * b = P at *
    simp only [Option.bind_some]
    have e1 : wrap64 (-hi64 P) = -hi64 P := w64_id (by unfold hi64; omega) (by unfold hi64; omega)
    have e2 : wrap64 (-hi64 P - 1) = -hi64 P - 1 := w64_id (by unfold hi64; omega) (by unfold hi64; omega)
    rw [e1, e2]
    by_cases z : lo64 P = 0
    · have f1 : lo64 (-P) = 0 := by unfold lo64 at *; omega
      have f2 : hi64 (-P) = -hi64 P := by unfold lo64 hi64 at *; omega
      rw [if_pos z, if_pos f1, f2]
      simp
    · have f1 : lo64 (-P) = IntKind.u64.wrap (-lo64 P) := by rw [IntKind.wrap_u64]; unfold lo64 at *; omega
      have f2 : hi64 (-P) = -hi64 P - 1 := by unfold lo64 hi64 at *; omega
      rw [if_neg z, if_pos f1, f2]
      simp

end Go.Proofs.Ytecnpbjcdkhnaaa.Pure
