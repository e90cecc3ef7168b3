/- What the functions of contact return for valid bodies. -/
import Derived.Test.YtahbfafnodeimaaMseg
import Derived.Test.YtahbfafnodeimaaMbody
import Derived.Test.YtahbfafnodeimaaQcontact
import Derived.Test.YtahbfafnodeimaaQbilliardref14
import Derived.Test.YtahbfafnodeimaaQbilliardlaw14
namespace Go.Proofs.Ytahbfafnodeimaa.Q
open Go.RowKit Go.Proofs.YtahbfafnodeimaaW.PrintWords Go.Proofs.YtahbfafnodeimaaW.PrintLast Go.Proofs.YtahbfafnodeimaaW.PrintMore
set_option linter.unusedVariables false
/-- The difference of the chosen points of two bodies, and its length. -/
structure Meas (px0 py0 ax0 ay0 px1 py1 ax1 ay1 dx dy n : Int) : Prop where
  right : Right4 (px0 - ax0) (py0 - ay0) (px0 + ax0) (py0 + ay0) (px1 - ax1) (py1 - ay1) (px1 + ax1) (py1 + ay1)
  edx : dx = (seg4 (px0 - ax0) (py0 - ay0) (px0 + ax0) (py0 + ay0) (px1 - ax1) (py1 - ay1) (px1 + ax1) (py1 + ay1)).2.2.1 - (seg4 (px0 - ax0) (py0 - ay0) (px0 + ax0) (py0 + ay0) (px1 - ax1) (py1 - ay1) (px1 + ax1) (py1 + ay1)).1
  edy : dy = (seg4 (px0 - ax0) (py0 - ay0) (px0 + ax0) (py0 + ay0) (px1 - ax1) (py1 - ay1) (px1 + ax1) (py1 + ay1)).2.2.2.1 - (seg4 (px0 - ax0) (py0 - ay0) (px0 + ax0) (py0 + ay0) (px1 - ax1) (py1 - ay1) (px1 + ax1) (py1 + ay1)).2.1
  bx : -2164260864 ≤ dx ∧ dx ≤ 2164260864
  by_ : -2164260864 ≤ dy ∧ dy ≤ 2164260864
  rt : IsRt (dx * dx + dy * dy) n
theorem Valid.ends {k0 r0 ax0 ay0 m0 b0 px0 py0 vx0 vy0 : Int} (h : Valid k0 r0 ax0 ay0 m0 b0 px0 py0 vx0 vy0) : (wrap32 (px0 - ax0) = px0 - ax0 ∧ wrap32 (py0 - ay0) = py0 - ay0 ∧ wrap32 (px0 + ax0) = px0 + ax0 ∧ wrap32 (py0 + ay0) = py0 + ay0) ∧ InB (px0 - ax0) ∧ InB (py0 - ay0) ∧ InB (px0 + ax0) ∧ InB (py0 + ay0) ∧ (-16777216 ≤ px0 + ax0 - (px0 - ax0) ∧ px0 + ax0 - (px0 - ax0) ≤ 16777216) ∧ (-16777216 ≤ py0 + ay0 - (py0 - ay0) ∧ py0 + ay0 - (py0 - ay0) ≤ 16777216) := by
  obtain ⟨_, a1, a2, _, _, p1, p2, _, _⟩ := h
  unfold InB
  exact ⟨⟨w32_id (by omega) (by omega), w32_id (by omega) (by omega), w32_id (by omega) (by omega), w32_id (by omega) (by omega)⟩, by omega, by omega, by omega, by omega, by omega, by omega⟩
theorem Meas.ex {k0 r0 ax0 ay0 m0 b0 px0 py0 vx0 vy0 k1 r1 ax1 ay1 m1 b1 px1 py1 vx1 vy1 : Int} (h0 : Valid k0 r0 ax0 ay0 m0 b0 px0 py0 vx0 vy0) (h1 : Valid k1 r1 ax1 ay1 m1 b1 px1 py1 vx1 vy1) : ∃ dx dy n, Meas px0 py0 ax0 ay0 px1 py1 ax1 ay1 dx dy n := by
  obtain ⟨_, e1, e2, e3, e4, e5, e6⟩ := h0.ends
  obtain ⟨_, f1, f2, f3, f4, f5, f6⟩ := h1.ends
  have hr : Right4 (px0 - ax0) (py0 - ay0) (px0 + ax0) (py0 + ay0) (px1 - ax1) (py1 - ay1) (px1 + ax1) (py1 + ay1) := ⟨⟨e1, e2, e3, e4, f1, f2, e5, e6⟩, ⟨f1, f2, f3, f4, e1, e2, f5, f6⟩⟩
  obtain ⟨g1, g2, g3, g4, _⟩ := Four.dist hr
  have bx := in_diff g3 g1
  have by_ := in_diff g4 g2
  have hd := dS_bd bx by_
  unfold dS at hd
  obtain ⟨n, hn⟩ := isRt_ex _ hd.1 (by omega)
  exact ⟨_, _, n, hr, rfl, rfl, bx, by_, hn⟩
/-- The contact of two bodies in the order of their keys: both keys, the sum of the radii, the difference of the chosen points, its length. -/
def conS (k0 k1 s dx dy n : Int) : Int × Int × Int × Int × Int × Bool := if s * s ≤ dx * dx + dy * dy then (0, 0, 0, 0, 0, false) else (k0, k1, (unitS n dx dy).1, (unitS n dx dy).2, s - n, true)
theorem dd_bd {dx dy : Int} (bx : -2164260864 ≤ dx ∧ dx ≤ 2164260864) (by_ : -2164260864 ≤ dy ∧ dy ≤ 2164260864) : 0 ≤ dx * dx + dy * dy ∧ dx * dx + dy * dy ≤ 18446744073709551615 := by
  have := dS_bd bx by_
  unfold dS at this
  omega
theorem bd_mul0 {s : Int} (h : 0 ≤ s ∧ s ≤ 8388608) : 0 ≤ s * s ∧ s * s ≤ 8388608 * 8388608 := ⟨Int.mul_nonneg h.1 h.1, Int.mul_le_mul h.2 h.2 h.1 (by omega)⟩
theorem ss_bd {s : Int} (h : 0 ≤ s ∧ s ≤ 8388608) : 0 ≤ s * s ∧ s * s ≤ 70368744177664 := by
  have := bd_mul0 h
  omega
theorem near_len {s n q : Int} (hn : IsRt q n) (hs : 0 ≤ s) (h : ¬ s * s ≤ q) : 0 ≤ n ∧ n < s := by
  obtain ⟨g0, g1, g2, g3⟩ := hn
  have := sq_lt_cancel (a := n) (b := s) hs (by omega)
  omega
theorem far_len {s n q : Int} (hn : IsRt q n) (hs : 0 ≤ s) (h : s * s ≤ q) : s ≤ n := by
  obtain ⟨g0, g1, g2, g3⟩ := hn
  have := sq_lt_cancel (a := s) (b := n + 1) (by omega) (by omega)
  omega
section
variable {k0 r0 ax0 ay0 m0 b0 px0 py0 vx0 vy0 k1 r1 ax1 ay1 m1 b1 px1 py1 vx1 vy1 dx dy n : Int}
theorem contact_measure.is (h0 : Valid k0 r0 ax0 ay0 m0 b0 px0 py0 vx0 vy0) (h1 : Valid k1 r1 ax1 ay1 m1 b1 px1 py1 vx1 vy1) (hm : Meas px0 py0 ax0 ay0 px1 py1 ax1 ay1 dx dy n) :
    contact_measure.f k0 r0 ax0 ay0 m0 b0 px0 py0 vx0 vy0 (px0 - ax0) (py0 - ay0) (px0 + ax0) (py0 + ay0) k1 r1 ax1 ay1 m1 b1 px1 py1 vx1 vy1 (px1 - ax1) (py1 - ay1) (px1 + ax1) (py1 + ay1) = some (dx, dy, r0 + r1) := by
  have hr0 := h0.r
  have hr1 := h1.r
  obtain ⟨hr, ex, ey, bx, by_, _⟩ := hm
  obtain ⟨g1, g2, g3, g4, _⟩ := Four.dist hr
  unfold contact_measure.f vec_Diff.f
  rw [segment_Chosen.is hr]
  simp only [Option.bind_some]
  rw [wdiff g3 g1, wdiff g4 g2, ← ex, ← ey, w64_id (n := r0) (by omega) (by omega), w64_id (n := r1) (by omega) (by omega), w64_id (n := r0 + r1) (by omega) (by omega)]
theorem contact_solidOf.is (h0 : Valid k0 r0 ax0 ay0 m0 b0 px0 py0 vx0 vy0) : contact_solidOf.f k0 r0 ax0 ay0 m0 b0 px0 py0 vx0 vy0 = some (k0, r0, ax0, ay0, m0, b0, px0, py0, vx0, vy0, px0 - ax0, py0 - ay0, px0 + ax0, py0 + ay0) := by
  obtain ⟨⟨e1, e2, e3, e4⟩, _⟩ := h0.ends
  unfold contact_solidOf.f body_Ends.f
  rw [e1, e2, e3, e4]
  rfl
theorem contact_Of.low (h0 : Valid k0 r0 ax0 ay0 m0 b0 px0 py0 vx0 vy0) (h1 : Valid k1 r1 ax1 ay1 m1 b1 px1 py1 vx1 vy1) (hk : ¬ k0 > k1) (hm : Meas px0 py0 ax0 ay0 px1 py1 ax1 ay1 dx dy n) (k : Nat) (hkk : 33 ≤ k) :
    contact_Of.f k k0 r0 ax0 ay0 m0 b0 px0 py0 vx0 vy0 k1 r1 ax1 ay1 m1 b1 px1 py1 vx1 vy1 = some (conS k0 k1 (r0 + r1) dx dy n) := by
  have hr0 := h0.r
  have hr1 := h1.r
  have hss := ss_bd (s := r0 + r1) (by omega)
  have hdd := dd_bd hm.bx hm.by_
  unfold contact_Of.f contact_inOrder.f
  rw [if_neg hk, contact_solidOf.is h0, contact_solidOf.is h1]
  simp only [Option.bind_some]
  rw [contact_measure.is h0 h1 hm]
  simp only [Option.bind_some]
  rw [vec_LengthSq.is hdd.2]
  simp only [Option.bind_some]
  rw [w64_id (n := (r0 + r1) * (r0 + r1)) (by omega) (by omega), u64_id (n := (r0 + r1) * (r0 + r1)) (by omega) (by omega)]
  unfold conS
  by_cases c : (r0 + r1) * (r0 + r1) ≤ dx * dx + dy * dy
  · rw [if_pos c, if_pos c]
  · have hl := near_len hm.rt (show 0 ≤ r0 + r1 by omega) c
    rw [if_neg c, if_neg c, vec_Unit.is hm.rt hdd.2 k hkk, vec_Length.is hm.rt hdd.2 k hkk]
    simp only [Option.bind_some]
    rw [w64_id (n := r0 + r1 - n) (by omega) (by omega), w32_id (by omega) (by omega)]
theorem contact_Gap.low (h0 : Valid k0 r0 ax0 ay0 m0 b0 px0 py0 vx0 vy0) (h1 : Valid k1 r1 ax1 ay1 m1 b1 px1 py1 vx1 vy1) (hk : ¬ k0 > k1) (hm : Meas px0 py0 ax0 ay0 px1 py1 ax1 ay1 dx dy n) (k : Nat) (hkk : 33 ≤ k) :
    contact_Gap.f k k0 r0 ax0 ay0 m0 b0 px0 py0 vx0 vy0 k1 r1 ax1 ay1 m1 b1 px1 py1 vx1 vy1 = some (n - (r0 + r1)) := by
  have hr0 := h0.r
  have hr1 := h1.r
  have hdd := dd_bd hm.bx hm.by_
  obtain ⟨g0, g1, _⟩ := hm.rt
  unfold contact_Gap.f contact_inOrder.f
  rw [if_neg hk, contact_solidOf.is h0, contact_solidOf.is h1]
  simp only [Option.bind_some]
  rw [contact_measure.is h0 h1 hm]
  simp only [Option.bind_some]
  rw [vec_Length.is hm.rt hdd.2 k hkk]
  simp only [Option.bind_some]
  rw [w64_id (by omega) (by omega)]
theorem contact_Of.high (hk : k0 > k1) (k : Nat) : contact_Of.f k k0 r0 ax0 ay0 m0 b0 px0 py0 vx0 vy0 k1 r1 ax1 ay1 m1 b1 px1 py1 vx1 vy1 = contact_Of.f k k1 r1 ax1 ay1 m1 b1 px1 py1 vx1 vy1 k0 r0 ax0 ay0 m0 b0 px0 py0 vx0 vy0 := by
  unfold contact_Of.f contact_inOrder.f
  rw [if_pos hk, if_neg (show ¬ k1 > k0 by omega)]
theorem contact_Gap.high (hk : k0 > k1) (k : Nat) : contact_Gap.f k k0 r0 ax0 ay0 m0 b0 px0 py0 vx0 vy0 k1 r1 ax1 ay1 m1 b1 px1 py1 vx1 vy1 = contact_Gap.f k k1 r1 ax1 ay1 m1 b1 px1 py1 vx1 vy1 k0 r0 ax0 ay0 m0 b0 px0 py0 vx0 vy0 := by
  unfold contact_Gap.f contact_inOrder.f
  rw [if_pos hk, if_neg (show ¬ k1 > k0 by omega)]
theorem billiardref14_Right.cases (k : Nat) (k0 r0 ax0 ay0 m0 b0 px0 py0 vx0 vy0 k1 r1 ax1 ay1 m1 b1 px1 py1 vx1 vy1 : Int) : (billiardref14_Right.f (k + 5) k0 r0 ax0 ay0 m0 b0 px0 py0 vx0 vy0 k1 r1 ax1 ay1 m1 b1 px1 py1 vx1 vy1 = some true ∧ Valid k0 r0 ax0 ay0 m0 b0 px0 py0 vx0 vy0 ∧ Valid k1 r1 ax1 ay1 m1 b1 px1 py1 vx1 vy1 ∧ k0 ≠ k1) ∨ billiardref14_Right.f (k + 5) k0 r0 ax0 ay0 m0 b0 px0 py0 vx0 vy0 k1 r1 ax1 ay1 m1 b1 px1 py1 vx1 vy1 = some false := by
  unfold billiardref14_Right.f
  rcases Check_cases k k0 r0 ax0 ay0 m0 b0 px0 py0 vx0 vy0 with ⟨e, h⟩ | ⟨x, hx, e⟩
  rotate_left
  · exact Or.inr (by rw [e]; simp only [Option.bind_some]; rw [if_neg hx])
  rw [e]
  simp only [Option.bind_some, if_true]
  rcases Check_cases k k1 r1 ax1 ay1 m1 b1 px1 py1 vx1 vy1 with ⟨e, g⟩ | ⟨x, hx, e⟩
  rotate_left
  · exact Or.inr (by rw [e]; simp only [Option.bind_some]; rw [if_neg hx])
  rw [e]
  simp only [Option.bind_some, if_true]
  by_cases c : k0 = k1
  · exact Or.inr (by subst c; simp)
  · exact Or.inl ⟨by simp [c], h, g, c⟩
end
theorem billiardlaw14_awake.yes (k : Nat) (hk : 40 ≤ k) : billiardlaw14_awake.f k = some true := at_rounds billiardlaw14_awake.mono hk (by decide +kernel)
end Go.Proofs.Ytahbfafnodeimaa.Q
