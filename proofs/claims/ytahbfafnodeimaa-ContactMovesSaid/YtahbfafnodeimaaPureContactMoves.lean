/- Moving both bodies by the same vector, and changing their velocities, masses and bounces, does not change the contact. No condition. -/
import Derived.Test.YtahbfafnodeimaaQContactMoves
import Derived.Test.YtahbfafnodeimaaMcontact
import Derived.Test.YtahbfafnodeimaaMsegmv
namespace Go.Proofs.Ytahbfafnodeimaa.Pure
open Go.RowKit Go.Proofs.Ytahbfafnodeimaa.Q Go.Proofs.YtahbfafnodeimaaW.PrintWords Go.Proofs.YtahbfafnodeimaaW.PrintLast Go.Proofs.YtahbfafnodeimaaW.PrintMore
set_option linter.unusedVariables false
theorem meas_move {px0 py0 ax0 ay0 px1 py1 ax1 ay1 dx dy n d0 d1 : Int} (h : Meas px0 py0 ax0 ay0 px1 py1 ax1 ay1 dx dy n) (hr : Right4 (px0 + d0 - ax0) (py0 + d1 - ay0) (px0 + d0 + ax0) (py0 + d1 + ay0) (px1 + d0 - ax1) (py1 + d1 - ay1) (px1 + d0 + ax1) (py1 + d1 + ay1)) : Meas (px0 + d0) (py0 + d1) ax0 ay0 (px1 + d0) (py1 + d1) ax1 ay1 dx dy n := by
  obtain ⟨h1, h2, h3, h4, h5, h6⟩ := h
  have e : seg4 (px0 + d0 - ax0) (py0 + d1 - ay0) (px0 + d0 + ax0) (py0 + d1 + ay0) (px1 + d0 - ax1) (py1 + d1 - ay1) (px1 + d0 + ax1) (py1 + d1 + ay1) = mvS d0 d1 (seg4 (px0 - ax0) (py0 - ay0) (px0 + ax0) (py0 + ay0) (px1 - ax1) (py1 - ay1) (px1 + ax1) (py1 + ay1)) := by
    rw [← seg4_move h1]
    have f1 : ∀ p d a : Int, p + d - a = p - a + d := fun p d a => by omega
    have f2 : ∀ p d a : Int, p + d + a = p + a + d := fun p d a => by omega
    rw [f1 px0 d0 ax0, f1 py0 d1 ay0, f1 px1 d0 ax1, f1 py1 d1 ay1, f2 px0 d0 ax0, f2 py0 d1 ay0, f2 px1 d0 ax1, f2 py1 d1 ay1]
  refine ⟨hr, ?_, ?_, h4, h5, h6⟩
  · rw [e, h2]
    unfold mvS
    simp only
    omega
  · rw [e, h3]
    unfold mvS
    simp only
    omega
theorem valid_right4 {k0 r0 ax0 ay0 m0 b0 px0 py0 vx0 vy0 k1 r1 ax1 ay1 m1 b1 px1 py1 vx1 vy1 : Int} (h0 : Valid k0 r0 ax0 ay0 m0 b0 px0 py0 vx0 vy0) (h1 : Valid k1 r1 ax1 ay1 m1 b1 px1 py1 vx1 vy1) : Right4 (px0 - ax0) (py0 - ay0) (px0 + ax0) (py0 + ay0) (px1 - ax1) (py1 - ay1) (px1 + ax1) (py1 + ay1) := by
  obtain ⟨dx, dy, n, hm⟩ := Meas.ex h0 h1
  exact hm.right
theorem moved {k0 r0 ax0 ay0 m0 b0 px0 py0 vx0 vy0 k1 r1 ax1 ay1 m1 b1 px1 py1 vx1 vy1 d0 d1 : Int} (h0 : Valid k0 r0 ax0 ay0 m0 b0 px0 py0 vx0 vy0) (h1 : Valid k1 r1 ax1 ay1 m1 b1 px1 py1 vx1 vy1) (h2 : Valid k0 r0 ax0 ay0 0 0 (px0 + d0) (py0 + d1) 0 0) (h3 : Valid k1 r1 ax1 ay1 0 0 (px1 + d0) (py1 + d1) 0 0) (hne : k0 ≠ k1) (k : Nat) (hkk : 33 ≤ k) :
    contact_Of.f k k0 r0 ax0 ay0 m0 b0 px0 py0 vx0 vy0 k1 r1 ax1 ay1 m1 b1 px1 py1 vx1 vy1 = contact_Of.f k k0 r0 ax0 ay0 0 0 (px0 + d0) (py0 + d1) 0 0 k1 r1 ax1 ay1 0 0 (px1 + d0) (py1 + d1) 0 0 ∧ contact_Gap.f k k0 r0 ax0 ay0 m0 b0 px0 py0 vx0 vy0 k1 r1 ax1 ay1 m1 b1 px1 py1 vx1 vy1 = contact_Gap.f k k0 r0 ax0 ay0 0 0 (px0 + d0) (py0 + d1) 0 0 k1 r1 ax1 ay1 0 0 (px1 + d0) (py1 + d1) 0 0 ∧ (∃ x, contact_Of.f k k0 r0 ax0 ay0 m0 b0 px0 py0 vx0 vy0 k1 r1 ax1 ay1 m1 b1 px1 py1 vx1 vy1 = some x) ∧ ∃ x, contact_Gap.f k k0 r0 ax0 ay0 m0 b0 px0 py0 vx0 vy0 k1 r1 ax1 ay1 m1 b1 px1 py1 vx1 vy1 = some x := by
  by_cases c : k0 > k1
  · obtain ⟨dx, dy, n, hm⟩ := Meas.ex h1 h0
    have hm2 := meas_move hm (valid_right4 h3 h2)
    rw [contact_Of.high c, contact_Of.high c, contact_Gap.high c, contact_Gap.high c, contact_Of.low h1 h0 (by omega) hm k hkk, contact_Of.low h3 h2 (by omega) hm2 k hkk, contact_Gap.low h1 h0 (by omega) hm k hkk, contact_Gap.low h3 h2 (by omega) hm2 k hkk]
    exact ⟨rfl, rfl, ⟨_, rfl⟩, ⟨_, rfl⟩⟩
  · obtain ⟨dx, dy, n, hm⟩ := Meas.ex h0 h1
    have hm2 := meas_move hm (valid_right4 h2 h3)
    rw [contact_Of.low h0 h1 c hm k hkk, contact_Of.low h2 h3 c hm2 k hkk, contact_Gap.low h0 h1 c hm k hkk, contact_Gap.low h2 h3 c hm2 k hkk]
    exact ⟨rfl, rfl, ⟨_, rfl⟩, ⟨_, rfl⟩⟩
theorem ContactMoves : billiardlaw14_ContactMoves.Pure := by
  intro k0 r0 ax0 ay0 m0 b0 px0 py0 vx0 vy0 k1 r1 ax1 ay1 m1 b1 px1 py1 vx1 vy1 d0 d1 _ _ _ _ _ _ _ _ _ _ _ _ _ _ _ _ _ _ _ _ _ _
  refine ⟨60, ?_⟩
  unfold billiardlaw14_ContactMoves.f
  rw [billiardlaw14_awake.yes _ (by omega)]
  simp only [Option.bind_some, if_true]
  have early : billiardlaw14_ContactMoves.j0 60 true k0 r0 ax0 ay0 m0 b0 px0 py0 vx0 vy0 k1 r1 ax1 ay1 m1 b1 px1 py1 vx1 vy1 d0 d1 = some true := by simp [billiardlaw14_ContactMoves.j0, billiardlaw14_awake.yes]
  rcases billiardref14_Right.cases 55 k0 r0 ax0 ay0 m0 b0 px0 py0 vx0 vy0 k1 r1 ax1 ay1 m1 b1 px1 py1 vx1 vy1 with ⟨e, h0, h1, hne⟩ | e
  rotate_left
  · rw [e]; exact early
  rw [e]
  simp only [Option.bind_some, if_true]
  rw [billiardref05_In.is d0 1000000000 (by omega), billiardref05_In.is d1 1000000000 (by omega)]
  by_cases c1 : -1000000000 ≤ d0 ∧ d0 ≤ 1000000000
  rotate_left
  · rw [decide_eq_false c1]; exact early
  rw [decide_eq_true c1]
  by_cases c2 : -1000000000 ≤ d1 ∧ d1 ≤ 1000000000
  rotate_left
  · rw [decide_eq_false c2]; exact early
  rw [decide_eq_true c2]
  simp only [Option.bind_some, if_true, Bool.not_true, billiardlaw14_ContactMoves.j0]
  have p1 := h0.px
  have p2 := h0.py
  have p3 := h1.px
  have p4 := h1.py
  rw [if_neg (by decide), w32_id (n := px0 + d0) (by omega) (by omega), w32_id (n := py0 + d1) (by omega) (by omega), w32_id (n := px1 + d0) (by omega) (by omega), w32_id (n := py1 + d1) (by omega) (by omega)]
  rcases billiardref14_Right.cases 54 k0 r0 ax0 ay0 0 0 (px0 + d0) (py0 + d1) 0 0 k1 r1 ax1 ay1 0 0 (px1 + d0) (py1 + d1) 0 0 with ⟨e, h2, h3, _⟩ | e
  · rw [e]
    obtain ⟨e1, e2, ⟨x, ex⟩, ⟨y, ey⟩⟩ := moved h0 h1 h2 h3 hne 59 (by omega)
    rw [← e1, ← e2, ex, ey]
    simp
  · rw [e]
    simp

end Go.Proofs.Ytahbfafnodeimaa.Pure
