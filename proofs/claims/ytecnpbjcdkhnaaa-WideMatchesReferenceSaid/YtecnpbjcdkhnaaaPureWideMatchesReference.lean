/- For all integers, all functions of wide return what the reference implementation returns. No condition. -/
import Derived.Test.YtecnpbjcdkhnaaaQWideMatchesReference
import Derived.Test.YtecnpbjcdkhnaaaMlaw01
namespace Go.Proofs.Ytecnpbjcdkhnaaa.Pure
open Go.RowKit Go.Proofs.Ytecnpbjcdkhnaaa.Q Go.Proofs.YtecnpbjcdkhnaaaW.PrintWords Go.Proofs.YtecnpbjcdkhnaaaW.PrintLast Go.Proofs.YtecnpbjcdkhnaaaW.PrintMore
set_option linter.unusedVariables false

theorem WideMatchesReference : billiardlaw01_WideMatchesReference.Pure := by
  intro a b c n x y wa wb wc wn wx wy
  have ha := wf_i64 wa
  have hb := wf_i64 wb
  have hc := wf_i64 wc
  have hn := wf_i64 wn
  refine ⟨1, ?_⟩
  unfold billiardlaw01_WideMatchesReference.f
  have m1 : billiardref01_Mul.f a b = some (hi64 (a * b), lo64 (a * b)) := by unfold billiardref01_Mul.f; rw [if_pos ⟨i64B_iff.mpr ha, i64B_iff.mpr hb⟩]
  have m2 : billiardref01_MulDiv.f a b c = some (mulDivS a b c) := by unfold billiardref01_MulDiv.f; rw [if_pos ⟨i64B_iff.mpr ha, i64B_iff.mpr hb, i64B_iff.mpr hc⟩]
  have m3 : billiardref01_MulShift.f a b n = some (shiftS a b n) := by unfold billiardref01_MulShift.f; rw [if_pos ⟨i64B_iff.mpr ha, i64B_iff.mpr hb, i64B_iff.mpr hn⟩]; rfl
  rw [billiardlaw01_awake.yes, wide_Mul.is ha hb, wide_MulDiv.is ha hb hc, wide_MulShift.is ha hb, m1, m2, m3, wide_Less.any]
  simp only [Option.bind_some, if_true]
  by_cases c1 : a < b
  · rw [if_pos c1]
    simp [c1]
  · rw [if_neg c1]
    by_cases c2 : a = b
    · rw [if_pos c2]
      simp [c2]
    · rw [if_neg c2]
      simp [c1, c2]

end Go.Proofs.Ytecnpbjcdkhnaaa.Pure
