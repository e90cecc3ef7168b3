/- A quotient times the divisor is at most the dividend, and misses it by at most one unit more than the divisor's integral part, for positive divisors and quotients in range. No condition. -/
import Derived.Test.YtkkmknkpopgliaaQFxInverse
import Derived.Test.YtkkmknkpopgliaaMlaw02
namespace Go.Proofs.Ytkkmknkpopgliaa.Pure
open Go.RowKit Go.Proofs.Ytkkmknkpopgliaa.Q Go.Proofs.YtkkmknkpopgliaaW.PrintWords Go.Proofs.YtkkmknkpopgliaaW.PrintLast
set_option linter.unusedVariables false

theorem FxInverse : billiardlaw02_FxInverse.Pure := by
  intro a b wa wb
  have ha := wf_i32 wa
  have hb := wf_i32 wb
  refine ⟨1, ?_⟩
  unfold billiardlaw02_FxInverse.f
  rw [billiardlaw02_awake.yes]
  simp only [Option.bind_some, if_true, billiardlaw02_FxInverse.j0]
  by_cases c : b ≤ 0
  · rw [decide_eq_true c, if_pos rfl, billiardlaw02_awake.yes]
    rfl
  · have hd : divS a b = (sat32 (fl (a * 65536) b), 0) := by unfold divS; rw [if_neg (by omega)]
    rw [decide_eq_false c, if_neg (by decide), fx_Div.is ha hb, hd]
    simp only [Option.bind_some]
    rw [if_pos trivial]
    by_cases d : sat32 (fl (a * 65536) b) = 2147483647
    · rw [if_pos d]
    · rw [if_neg d]
      by_cases e : sat32 (fl (a * 65536) b) = -2147483648
      · rw [if_pos e]
      · have hbd := sat32_bd (fl (a * 65536) b)
        have hq : sat32 (fl (a * 65536) b) = fl (a * 65536) b := by unfold sat32 mx mn at *; omega
        rw [if_neg e, fx_Mul.is hbd hb]
        simp only [Option.bind_some]
        rw [hq] at hbd ⊢
        obtain ⟨q, hq'⟩ : ∃ q, q = fl (a * 65536) b := ⟨_, rfl⟩
        rw [← hq'] at hbd ⊢
        unfold fl at hq'
        rw [if_pos (by omega)] at hq'
        obtain ⟨r, hr⟩ : ∃ r, a * 65536 % b = r := ⟨_, rfl⟩
        obtain ⟨f1, f2, f3⟩ := div_parts (by omega) hq'.symm hr
        have t : Int.tdiv (wrap64 b) 65536 = b / 65536 := by
          rw [w64_id (n := b) (by omega) (by omega)]
          exact Int.tdiv_eq_ediv_of_nonneg (by omega)
        have k : sat32 (q * b / 65536) ≤ a ∧ a - (b / 65536 + 1) ≤ sat32 (q * b / 65536) := by unfold sat32 mx mn; omega
        have kb := sat32_bd (q * b / 65536)
        rw [t, w64_id (n := a) (by omega) (by omega), w64_id (n := sat32 (q * b / 65536)) (by omega) (by omega), w64_id (n := a - sat32 (q * b / 65536)) (by omega) (by omega), w64_id (n := b / 65536) (by omega) (by omega), w64_id (n := b / 65536 + 1) (by omega) (by omega), if_pos (by omega), decide_eq_true (by omega)]

end Go.Proofs.Ytkkmknkpopgliaa.Pure
