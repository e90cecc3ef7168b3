/- For all valid bodies, the contact and the gap are those of the reference implementation. No condition. -/
import Derived.Test.YtahbfafnodeimaaQContactMatchesReference
import Derived.Test.YtahbfafnodeimaaMcontact14
namespace Go.Proofs.Ytahbfafnodeimaa.Pure
open Go.RowKit Go.Proofs.Ytahbfafnodeimaa.Q Go.Proofs.YtahbfafnodeimaaW.PrintWords Go.Proofs.YtahbfafnodeimaaW.PrintLast Go.Proofs.YtahbfafnodeimaaW.PrintMore
set_option linter.unusedVariables false
theorem ContactMatchesReference : billiardlaw14_ContactMatchesReference.Pure := by
  intro k0 r0 ax0 ay0 m0 b0 px0 py0 vx0 vy0 k1 r1 ax1 ay1 m1 b1 px1 py1 vx1 vy1 _ _ _ _ _ _ _ _ _ _ _ _ _ _ _ _ _ _ _ _
  refine ⟨60, ?_⟩
  unfold billiardlaw14_ContactMatchesReference.f
  rw [billiardlaw14_awake.yes _ (by omega)]
  simp only [Option.bind_some, if_true]
  rcases billiardref14_Right.cases 55 k0 r0 ax0 ay0 m0 b0 px0 py0 vx0 vy0 k1 r1 ax1 ay1 m1 b1 px1 py1 vx1 vy1 with ⟨e, h0, h1, hne⟩ | e
  · rw [e]
    simp only [Option.bind_some, Bool.not_true, billiardlaw14_ContactMatchesReference.j0]
    rw [if_neg (by decide)]
    unfold contact_Touch.f
    by_cases c : k0 > k1
    · obtain ⟨dx, dy, n, hm⟩ := Meas.ex h1 h0
      rw [contact_Of.high c, contact_Gap.high c, billiardref14_Of.high c 58, billiardref14_Gap.high c 58, contact_Of.low h1 h0 (by omega) hm _ (by omega), contact_Gap.low h1 h0 (by omega) hm _ (by omega), billiardref14_Of.low h1 h0 (by omega) hm 57 (by omega), billiardref14_Gap.low h1 h0 (by omega) hm 57 (by omega)]
      simp
    · obtain ⟨dx, dy, n, hm⟩ := Meas.ex h0 h1
      rw [contact_Of.low h0 h1 c hm _ (by omega), contact_Gap.low h0 h1 c hm _ (by omega), billiardref14_Of.low h0 h1 (by omega) hm 58 (by omega), billiardref14_Gap.low h0 h1 (by omega) hm 58 (by omega)]
      simp
  · rw [e]
    simp [billiardlaw14_ContactMatchesReference.j0, billiardlaw14_awake.yes]

end Go.Proofs.Ytahbfafnodeimaa.Pure
