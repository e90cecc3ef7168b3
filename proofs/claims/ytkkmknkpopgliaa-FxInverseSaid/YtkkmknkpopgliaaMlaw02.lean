/- The examples of the document's chapter 2 hold. -/
import Derived.Test.YtkkmknkpopgliaaQbilliardlaw02
import Derived.Test.YtkkmknkpopgliaaMfx
namespace Go.Proofs.Ytkkmknkpopgliaa.Q
open Go.RowKit Go.Proofs.YtkkmknkpopgliaaW.PrintWords Go.Proofs.YtkkmknkpopgliaaW.PrintLast Go.Proofs.YtkkmknkpopgliaaW.PrintMore
set_option linter.unusedVariables false
theorem billiardlaw02_awake.yes : billiardlaw02_awake.f = some true := by
  unfold billiardlaw02_awake.f
  rw [fx_Div.is (by decide) (by decide), fx_Div.is (by decide) (by decide), fx_Limit.is (by decide) (by decide), fx_Mul.is (by decide) (by decide), fx_Add.is (by decide) (by decide), fx_Neg.is (by decide), fx_FromInt.is]
  simp only [Option.bind_some]
  decide
theorem sat32_mono {a b : Int} (h : a ≤ b) : sat32 a ≤ sat32 b := by unfold sat32 mx mn; omega
end Go.Proofs.Ytkkmknkpopgliaa.Q
