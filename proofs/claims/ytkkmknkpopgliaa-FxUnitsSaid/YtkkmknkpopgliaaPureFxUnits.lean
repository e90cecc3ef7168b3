/- Multiplying and dividing by one changes nothing; integers are restored from fixed-point numbers. No condition. -/
import Derived.Test.YtkkmknkpopgliaaQFxUnits
import Derived.Test.YtkkmknkpopgliaaMlaw02
namespace Go.Proofs.Ytkkmknkpopgliaa.Pure
open Go.RowKit Go.Proofs.Ytkkmknkpopgliaa.Q Go.Proofs.YtkkmknkpopgliaaW.PrintWords Go.Proofs.YtkkmknkpopgliaaW.PrintLast
set_option linter.unusedVariables false

theorem FxUnits : billiardlaw02_FxUnits.Pure := by
  intro a n wa wn
  have ha := wf_i32 wa
  have hn := wf_i16 wn
  unfold billiardlaw02_FxUnits.f
  have m1 : sat32 (a * 65536 / 65536) = a := by rw [sat32_id (by omega)]; omega
  have m2 : divS a 65536 = (a, 0) := by unfold divS fl; rw [if_neg (by decide), if_pos (by decide), m1]
  have m3 : fromInt n = n * 65536 := by
    rw [fromInt_eq]
    by_cases c : n = -32768
    · subst c; decide
    · rw [if_neg (by omega), if_neg (by omega)]
  have m4 : ∀ x, fx_Frac.f x = some (x % 65536) := fun x => by unfold fx_Frac.f; rw [and_frac]
  have hm : 0 ≤ mg a ∧ mg a ≤ 2147483648 := mg_bd_i32 ha
  rw [billiardlaw02_awake.yes, fx_Div.is ha (by decide), fx_FromInt.is, fx_Mul.is ha (by decide), fx_Abs.is ha, m1, m2, w64_id (n := n) (by omega) (by omega), w32_id (n := n) (by omega) (by omega), m3]
  simp only [Option.bind_some, if_true, m4, fx_Floor.f]
  rw [if_pos (by omega), if_pos (by omega), if_pos (by omega), if_pos (by omega), decide_eq_true (by unfold sat32 mx mn; omega)]

end Go.Proofs.Ytkkmknkpopgliaa.Pure
