/- A product that is not saturated is the greatest one that is at most the exact product; likewise a quotient. No condition. -/
import Derived.Test.YtkkmknkpopgliaaQFxBounds
import Derived.Test.YtkkmknkpopgliaaMlaw02
namespace Go.Proofs.Ytkkmknkpopgliaa.Pure
open Go.RowKit Go.Proofs.Ytkkmknkpopgliaa.Q Go.Proofs.YtkkmknkpopgliaaW.PrintWords Go.Proofs.YtkkmknkpopgliaaW.PrintLast
set_option linter.unusedVariables false

theorem fb_j1 (a b : Int) (ha : -2147483648 ≤ a ∧ a ≤ 2147483647) (hb : -2147483648 ≤ b ∧ b ≤ 2147483647) (hb0 : b ≠ 0) (p : Bool) (hp : p = false → sat32 (fl (a * 65536) b) ≠ 2147483647 ∧ sat32 (fl (a * 65536) b) ≠ -2147483648) (k : Nat) :
    billiardlaw02_FxBounds.j1 (k + 1) a b (sat32 (fl (a * 65536) b)) p = some true := by
  simp only [billiardlaw02_FxBounds.j1]
  cases p
  · obtain ⟨h1, h2⟩ := hp rfl
    have hq : sat32 (fl (a * 65536) b) = fl (a * 65536) b := by
      have := sat32_bd (fl (a * 65536) b)
      unfold sat32 mx mn at *
      omega
    have hbd := sat32_bd (fl (a * 65536) b)
    rw [hq] at hbd ⊢
    rw [if_neg (by decide), w64_id (n := b) (by omega) (by omega), w64_id (n := a) (by omega) (by omega), w64_id (n := a * 65536) (by omega) (by omega), w64_id (n := fl (a * 65536) b + 1) (by omega) (by omega)]
    obtain ⟨q, hq'⟩ : ∃ q, q = fl (a * 65536) b := ⟨_, rfl⟩
    rw [← hq'] at hbd ⊢
    have m1 := mul_i32 (a := q) (b := b) hbd hb
    have e1 : (q + 1) * b = q * b + b := by rw [Int.add_mul]; omega
    rw [w64_id (n := q * b) (by omega) (by omega), w64_id (n := (q + 1) * b) (by omega) (by omega), e1]
    unfold fl at hq'
    by_cases c : 0 < b
    · rw [if_pos c] at hq' ⊢
      obtain ⟨r, hr⟩ : ∃ r, a * 65536 % b = r := ⟨_, rfl⟩
      obtain ⟨f1, f2, f3⟩ := div_parts c hq'.symm hr
      rw [if_pos (by omega), decide_eq_true (by omega)]
    · rw [if_neg c] at hq' ⊢
      obtain ⟨r, hr⟩ : ∃ r, -(a * 65536) % -b = r := ⟨_, rfl⟩
      obtain ⟨f1, f2, f3⟩ := div_parts (by omega) hq'.symm hr
      rw [Int.mul_neg] at f1
      rw [if_pos (by omega), decide_eq_true (by omega)]
  · rfl
theorem fb_j0 (a b : Int) (ha : -2147483648 ≤ a ∧ a ≤ 2147483647) (hb : -2147483648 ≤ b ∧ b ≤ 2147483647) (k : Nat) : billiardlaw02_FxBounds.j0 (k + 2) a b false = some true := by
  simp only [billiardlaw02_FxBounds.j0]
  rw [if_neg (by decide), fx_Div.is ha hb]
  simp only [Option.bind_some, divS]
  by_cases c : b = 0
  · rw [if_pos c]
    simp only []
    rw [if_neg (by decide), if_pos c]
    rfl
  · rw [if_neg c]
    simp only []
    have hbd := sat32_bd (fl (a * 65536) b)
    rw [if_pos trivial, w64_id (n := sat32 (fl (a * 65536) b)) (by omega) (by omega)]
    by_cases d : sat32 (fl (a * 65536) b) = 2147483647
    · rw [if_pos d]
      exact fb_j1 a b ha hb c true (fun h => by cases h) k
    · rw [if_neg d]
      exact fb_j1 a b ha hb c _ (fun h => ⟨d, by simpa using h⟩) k

theorem FxBounds : billiardlaw02_FxBounds.Pure := by
  intro a b wa wb
  have ha := wf_i32 wa
  have hb := wf_i32 wb
  refine ⟨2, ?_⟩
  unfold billiardlaw02_FxBounds.f
  rw [billiardlaw02_awake.yes, fx_Mul.is ha hb]
  simp only [Option.bind_some, if_true]
  have hj := fb_j0 a b ha hb 0
  have hbd := sat32_bd (a * b / 65536)
  rw [prod_i32 ha hb, w64_id (n := sat32 (a * b / 65536)) (by omega) (by omega)]
  by_cases c1 : sat32 (a * b / 65536) < 2147483647
  case neg => rw [if_neg c1, hj]
  by_cases c2 : sat32 (a * b / 65536) > -2147483648
  case neg => rw [if_pos c1, if_neg c2, hj]
  have e : sat32 (a * b / 65536) = a * b / 65536 := by unfold sat32 mx mn at *; omega
  rw [e] at c1 c2 ⊢
  rw [if_pos c1, if_pos c2, w64_id (n := a * b / 65536 * 65536) (by omega) (by omega), w64_id (n := a * b / 65536 + 1) (by omega) (by omega), w64_id (n := (a * b / 65536 + 1) * 65536) (by omega) (by omega), if_neg (by omega), decide_eq_false (by omega), hj]

end Go.Proofs.Ytkkmknkpopgliaa.Pure
