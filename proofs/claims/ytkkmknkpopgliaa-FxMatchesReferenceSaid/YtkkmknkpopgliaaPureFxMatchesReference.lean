/- For all numbers, all functions of fx return what the reference implementation returns. No condition. -/
import Derived.Test.YtkkmknkpopgliaaQFxMatchesReference
import Derived.Test.YtkkmknkpopgliaaMlaw02
namespace Go.Proofs.Ytkkmknkpopgliaa.Pure
open Go.RowKit Go.Proofs.Ytkkmknkpopgliaa.Q Go.Proofs.YtkkmknkpopgliaaW.PrintWords Go.Proofs.YtkkmknkpopgliaaW.PrintLast
set_option linter.unusedVariables false

theorem fr_j2 (a b : Int) (ha : -2147483648 ≤ a ∧ a ≤ 2147483647) (hb : -2147483648 ≤ b ∧ b ≤ 2147483647) (k : Nat) : billiardlaw02_FxMatchesReference.j2 (k + 1) a b a b (mg a) = some true := by
  simp only [billiardlaw02_FxMatchesReference.j2]
  have hm := mg_bd_i32 ha
  have m4 : fx_Frac.f a = some (a % 65536) := by unfold fx_Frac.f; rw [and_frac]
  rw [billiardref01_Floor.is (by decide) (by omega) (by omega), fx_Add.is ha hb, fx_Sub.is ha hb, fx_Neg.is ha, fx_Abs.is ha, m4, w64_id (n := a + b) (by omega) (by omega), w64_id (n := a - b) (by omega) (by omega), w64_id (n := -a) (by omega) (by omega), billiardref02_Saturate.is, billiardref02_Saturate.is, billiardref02_Saturate.is, billiardref02_Saturate.is]
  simp only [Option.bind_some, fx_Floor.f]
  rw [if_pos trivial, if_pos trivial, if_pos (by rw [Int.zero_sub]), if_pos trivial, w64_id (n := a / 65536) (by omega) (by omega), if_pos rfl, w64_id (n := a % 65536) (by omega) (by omega), w64_id (n := a / 65536 * 65536) (by omega) (by omega), w64_id (by omega) (by omega)]
  congr 1
  simp
  omega
theorem fr_j1 (a b : Int) (ha : -2147483648 ≤ a ∧ a ≤ 2147483647) (hb : -2147483648 ≤ b ∧ b ≤ 2147483647) (k : Nat) : billiardlaw02_FxMatchesReference.j1 (k + 2) a b = some true := by
  simp only [billiardlaw02_FxMatchesReference.j1]
  have h := fr_j2 a b ha hb k
  rw [w64_id (n := a) (by omega) (by omega), w64_id (n := b) (by omega) (by omega), w64_id (n := -a) (by omega) (by omega)]
  by_cases c : a < 0
  · rw [if_pos c]; simpa [mg, c] using h
  · rw [if_neg c]; simpa [mg, c] using h
theorem fr_j0 (a b n l : Int) (ha : -2147483648 ≤ a ∧ a ≤ 2147483647) (hb : -2147483648 ≤ b ∧ b ≤ 2147483647) (hl : l ≤ 9223372036854775807) (k : Nat) : billiardlaw02_FxMatchesReference.j0 (k + 3) a b n l false = some true := by
  simp only [billiardlaw02_FxMatchesReference.j0]
  have h := fr_j1 a b ha hb k
  rw [if_neg (by decide)]
  by_cases c : l ≥ 0
  · rw [if_pos c, fx_Limit.is (by omega) hl, billiardref02_Limit.is c hl]
    simp only [Option.bind_some]
    rw [if_pos trivial, if_neg (by simp), h]
  · rw [if_neg c, h]

theorem FxMatchesReference : billiardlaw02_FxMatchesReference.Pure := by
  intro a b n l wa wb _ wl
  have ha := wf_i32 wa
  have hb := wf_i32 wb
  have hl := wf_i64 wl
  refine ⟨3, ?_⟩
  unfold billiardlaw02_FxMatchesReference.f
  rw [billiardlaw02_awake.yes, fx_Div.is ha hb, billiardref02_Div.is ha hb, fx_Mul.is ha hb, billiardref02_Mul.is ha hb, fx_Saturate.is, billiardref02_Saturate.is, fx_FromInt.is, billiardref02_FromInt.is]
  simp only [Option.bind_some, if_true, bne_self_eq_false]
  exact fr_j0 a b n l ha hb hl.2 0

end Go.Proofs.Ytkkmknkpopgliaa.Pure
