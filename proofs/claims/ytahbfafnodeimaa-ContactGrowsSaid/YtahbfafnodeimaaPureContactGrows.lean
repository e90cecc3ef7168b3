/- With a greater radius, the gap is less by the difference, and bodies that touch still do, with the same normal. No condition. -/
import Derived.Test.YtahbfafnodeimaaQContactGrows
import Derived.Test.YtahbfafnodeimaaMcontact
namespace Go.Proofs.Ytahbfafnodeimaa.Pure
open Go.RowKit Go.Proofs.Ytahbfafnodeimaa.Q Go.Proofs.YtahbfafnodeimaaW.PrintWords Go.Proofs.YtahbfafnodeimaaW.PrintLast Go.Proofs.YtahbfafnodeimaaW.PrintMore
set_option linter.unusedVariables false
/-- The two bodies measured once, for both radii. -/
theorem grown {k0 r0 ax0 ay0 m0 b0 px0 py0 vx0 vy0 k1 r1 ax1 ay1 m1 b1 px1 py1 vx1 vy1 r : Int} (h0 : Valid k0 r0 ax0 ay0 m0 b0 px0 py0 vx0 vy0) (h2 : Valid k0 r ax0 ay0 m0 b0 px0 py0 vx0 vy0) (h1 : Valid k1 r1 ax1 ay1 m1 b1 px1 py1 vx1 vy1) (hne : k0 ≠ k1) (k : Nat) (hkk : 33 ≤ k) :
    ∃ kl kh dx dy n, IsRt (dx * dx + dy * dy) n ∧ contact_Of.f k k0 r0 ax0 ay0 m0 b0 px0 py0 vx0 vy0 k1 r1 ax1 ay1 m1 b1 px1 py1 vx1 vy1 = some (conS kl kh (r0 + r1) dx dy n) ∧ contact_Of.f k k0 r ax0 ay0 m0 b0 px0 py0 vx0 vy0 k1 r1 ax1 ay1 m1 b1 px1 py1 vx1 vy1 = some (conS kl kh (r + r1) dx dy n) ∧ contact_Gap.f k k0 r0 ax0 ay0 m0 b0 px0 py0 vx0 vy0 k1 r1 ax1 ay1 m1 b1 px1 py1 vx1 vy1 = some (n - (r0 + r1)) ∧ contact_Gap.f k k0 r ax0 ay0 m0 b0 px0 py0 vx0 vy0 k1 r1 ax1 ay1 m1 b1 px1 py1 vx1 vy1 = some (n - (r + r1)) := by
  by_cases c : k0 > k1
  · obtain ⟨dx, dy, n, hm⟩ := Meas.ex h1 h0
    refine ⟨k1, k0, dx, dy, n, hm.rt, ?_, ?_, ?_, ?_⟩
    · rw [contact_Of.high c, contact_Of.low h1 h0 (by omega) hm k hkk, Int.add_comm r1 r0]
    · rw [contact_Of.high c, contact_Of.low h1 h2 (by omega) hm k hkk, Int.add_comm r1 r]
    · rw [contact_Gap.high c, contact_Gap.low h1 h0 (by omega) hm k hkk, Int.add_comm r1 r0]
    · rw [contact_Gap.high c, contact_Gap.low h1 h2 (by omega) hm k hkk, Int.add_comm r1 r]
  · obtain ⟨dx, dy, n, hm⟩ := Meas.ex h0 h1
    exact ⟨k0, k1, dx, dy, n, hm.rt, contact_Of.low h0 h1 c hm k hkk, contact_Of.low h2 h1 c hm k hkk, contact_Gap.low h0 h1 c hm k hkk, contact_Gap.low h2 h1 c hm k hkk⟩
theorem ContactGrows : billiardlaw14_ContactGrows.Pure := by
  intro k0 r0 ax0 ay0 m0 b0 px0 py0 vx0 vy0 k1 r1 ax1 ay1 m1 b1 px1 py1 vx1 vy1 r _ _ _ _ _ _ _ _ _ _ _ _ _ _ _ _ _ _ _ _ _
  refine ⟨60, ?_⟩
  unfold billiardlaw14_ContactGrows.f
  rw [billiardlaw14_awake.yes _ (by omega)]
  simp only [Option.bind_some, if_true]
  have early : billiardlaw14_ContactGrows.j0 60 r true k0 r0 ax0 ay0 m0 b0 px0 py0 vx0 vy0 k1 r1 ax1 ay1 m1 b1 px1 py1 vx1 vy1 k0 r ax0 ay0 m0 b0 px0 py0 vx0 vy0 = some true := by simp [billiardlaw14_ContactGrows.j0, billiardlaw14_awake.yes]
  rcases billiardref14_Right.cases 55 k0 r0 ax0 ay0 m0 b0 px0 py0 vx0 vy0 k1 r1 ax1 ay1 m1 b1 px1 py1 vx1 vy1 with ⟨e, h0, h1, hne⟩ | e
  rotate_left
  · rw [e]; exact early
  rw [e]
  simp only [Option.bind_some, if_true]
  rcases billiardref14_Right.cases 55 k0 r ax0 ay0 m0 b0 px0 py0 vx0 vy0 k1 r1 ax1 ay1 m1 b1 px1 py1 vx1 vy1 with ⟨e, h2, _, _⟩ | e
  rotate_left
  · rw [e]; exact early
  rw [e]
  simp only [Option.bind_some, if_true]
  by_cases c : r < r0
  · rw [decide_eq_true c]; exact early
  rw [decide_eq_false c]
  simp only [billiardlaw14_ContactGrows.j0]
  obtain ⟨kl, kh, dx, dy, n, hn, e1, e2, e3, e4⟩ := grown h0 h2 h1 hne 59 (by omega)
  have hr0 := h0.r
  have hr1 := h1.r
  have hr2 := h2.r
  have g0 := hn.1
  have g1 := hn.2.1
  rw [if_neg (by decide), e1, e2, e3, e4]
  simp only [Option.bind_some]
  rw [w32_id (n := r - r0) (by omega) (by omega), w64_id (n := r - r0) (by omega) (by omega), w64_id (n := n - (r0 + r1) - (r - r0)) (by omega) (by omega), if_pos (by omega)]
  unfold conS
  by_cases c1 : (r0 + r1) * (r0 + r1) ≤ dx * dx + dy * dy
  · rw [if_pos c1, if_neg (by decide)]
  · have hmono : (r0 + r1) * (r0 + r1) ≤ (r + r1) * (r + r1) := Int.mul_le_mul (by omega) (by omega) (by omega) (by omega)
    have hl := near_len hn (show 0 ≤ r0 + r1 by omega) c1
    rw [if_neg c1, if_neg (show ¬ (r + r1) * (r + r1) ≤ dx * dx + dy * dy by omega), if_pos rfl, if_pos rfl, if_pos (by simp)]
    simp only
    rw [w32_id (by omega) (by omega), beq_iff_eq.mpr (by omega)]

end Go.Proofs.Ytahbfafnodeimaa.Pure
