/- The product lies between the quotient times the divisor and the next multiple of the divisor. No condition. -/
import Derived.Test.YtecnpbjcdkhnaaaQWideQuotient
import Derived.Test.YtecnpbjcdkhnaaaMlaw01
namespace Go.Proofs.Ytecnpbjcdkhnaaa.Pure
open Go.RowKit Go.Proofs.Ytecnpbjcdkhnaaa.Q Go.Proofs.YtecnpbjcdkhnaaaW.PrintWords Go.Proofs.YtecnpbjcdkhnaaaW.PrintLast Go.Proofs.YtecnpbjcdkhnaaaW.PrintMore
set_option linter.unusedVariables false

theorem q_last (a b c q : Int) (ha : -9223372036854775808 ≤ a ∧ a ≤ 9223372036854775807) (hb : -9223372036854775808 ≤ b ∧ b ≤ 9223372036854775807) (hc : -9223372036854775808 ≤ c ∧ c ≤ 9223372036854775807) (c0 : c ≠ 0)
    (hq : fl (a * b) c = q) (q0 : -9223372036854775808 ≤ q) (q1 : q < 9223372036854775807) (k : Nat) : billiardlaw01_WideQuotient.j0 (k + 1) a b c q false = some true := by
  simp only [billiardlaw01_WideQuotient.j0]
  have m : ∀ x y : Int, (-9223372036854775808 ≤ x ∧ x ≤ 9223372036854775807) → (-9223372036854775808 ≤ y ∧ y ≤ 9223372036854775807) → billiardref01_Mul.f x y = some (hi64 (x * y), lo64 (x * y)) := fun x y hx hy => by
    unfold billiardref01_Mul.f
    rw [if_pos ⟨i64B_iff.mpr hx, i64B_iff.mpr hy⟩]
  rw [if_neg (by decide), w64_id (n := q + 1) (by omega) (by omega), m a b ha hb, m q c ⟨q0, by omega⟩ hc, m (q + 1) c ⟨by omega, by omega⟩ hc]
  simp only [Option.bind_some, wide_Less.is]
  by_cases cp : c > 0
  · have h := fl_pos (n := a * b) cp
    rw [hq] at h
    rw [if_pos cp, decide_eq_false (by omega), if_neg (by decide), decide_eq_true h.2]
  · have h := fl_negd (n := a * b) (d := c) (by omega)
    rw [hq] at h
    rw [if_neg cp, decide_eq_false (by omega), if_neg (by decide), decide_eq_true h.2]
theorem q_skip (a b c q : Int) (k : Nat) : billiardlaw01_WideQuotient.j0 (k + 1) a b c q true = some true := by
  simp [billiardlaw01_WideQuotient.j0]
theorem WideQuotient : billiardlaw01_WideQuotient.Pure := by
  intro a b c wa wb wc
  have ha := wf_i64 wa
  have hb := wf_i64 wb
  have hc := wf_i64 wc
  refine ⟨1, ?_⟩
  unfold billiardlaw01_WideQuotient.f
  rw [billiardlaw01_awake.yes, wide_MulDiv.is ha hb hc]
  simp only [Option.bind_some, if_true]
  by_cases c0 : c = 0
  · have e : mulDivS a b c = (0, 2) := by unfold mulDivS; rw [if_pos c0]
    rw [e, if_neg (by decide), if_pos rfl, c0]
    rfl
  · by_cases r : i64B (fl (a * b) c) = true
    · have e : mulDivS a b c = (fl (a * b) c, 0) := by unfold mulDivS; rw [if_neg c0, if_pos r]
      rw [e]
      have rb := i64B_iff.mp r
      obtain ⟨q, hq⟩ : ∃ q, fl (a * b) c = q := ⟨_, rfl⟩
      rw [hq] at rb ⊢
      rw [if_pos rfl]
      by_cases qm : q = 9223372036854775807
      · rw [if_pos qm, q_skip]
      · rw [if_neg qm]
        by_cases qn : q = -9223372036854775808
        · have : (q == -9223372036854775808) = true := by simp [qn]
          simp only [this, q_skip]
        · have : (q == -9223372036854775808) = false := by simp [qn]
          simp only [this]
          exact q_last a b c q ha hb hc c0 hq rb.1 (by omega) 0
    · have e : mulDivS a b c = (0, 3) := by unfold mulDivS; rw [if_neg c0, if_neg r]
      rw [e, if_neg (by decide), if_pos rfl]
      have : (c == 0) = false := by simp [c0]
      rw [this]
      rfl

end Go.Proofs.Ytecnpbjcdkhnaaa.Pure
