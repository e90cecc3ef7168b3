/- The depth of a contact is from 1 to the sum of the radii, and is the negative gap; bodies without a contact have a gap that is not negative; bodies that touch have boxes that overlap. No condition. -/
import Derived.Test.YtahbfafnodeimaaQContactDepth
import Derived.Test.YtahbfafnodeimaaMcontact
import Derived.Test.YtahbfafnodeimaaMseg
namespace Go.Proofs.Ytahbfafnodeimaa.Pure
open Go.RowKit Go.Proofs.Ytahbfafnodeimaa.Q Go.Proofs.YtahbfafnodeimaaW.PrintWords Go.Proofs.YtahbfafnodeimaaW.PrintLast Go.Proofs.YtahbfafnodeimaaW.PrintMore
set_option linter.unusedVariables false
/-- What is known of two bodies in either order. -/
theorem both {k0 r0 ax0 ay0 m0 b0 px0 py0 vx0 vy0 k1 r1 ax1 ay1 m1 b1 px1 py1 vx1 vy1 : Int} (h0 : Valid k0 r0 ax0 ay0 m0 b0 px0 py0 vx0 vy0) (h1 : Valid k1 r1 ax1 ay1 m1 b1 px1 py1 vx1 vy1) (hne : k0 ≠ k1) (k : Nat) (hkk : 33 ≤ k) :
    ∃ kl kh dx dy n, kl < kh ∧ contact_Of.f k k0 r0 ax0 ay0 m0 b0 px0 py0 vx0 vy0 k1 r1 ax1 ay1 m1 b1 px1 py1 vx1 vy1 = some (conS kl kh (r0 + r1) dx dy n) ∧ contact_Gap.f k k0 r0 ax0 ay0 m0 b0 px0 py0 vx0 vy0 k1 r1 ax1 ay1 m1 b1 px1 py1 vx1 vy1 = some (n - (r0 + r1)) ∧ IsRt (dx * dx + dy * dy) n ∧
      (px0 - px1 ≤ mg ax0 + mg ax1 + mg dx ∧ px1 - px0 ≤ mg ax0 + mg ax1 + mg dx) ∧ (py0 - py1 ≤ mg ay0 + mg ay1 + mg dy ∧ py1 - py0 ≤ mg ay0 + mg ay1 + mg dy) := by
  by_cases c : k0 > k1
  · obtain ⟨dx, dy, n, hm⟩ := Meas.ex h1 h0
    obtain ⟨b1, b2, b3, b4⟩ := Four.betw hm.right
    have e1 := hm.edx
    have e2 := hm.edy
    refine ⟨k1, k0, dx, dy, n, by omega, ?_, ?_, hm.rt, ?_, ?_⟩
    · rw [contact_Of.high c, contact_Of.low h1 h0 (by omega) hm k hkk, Int.add_comm r1 r0]
    · rw [contact_Gap.high c, contact_Gap.low h1 h0 (by omega) hm k hkk, Int.add_comm r1 r0]
    · generalize seg4 (px1 - ax1) (py1 - ay1) (px1 + ax1) (py1 + ay1) (px0 - ax0) (py0 - ay0) (px0 + ax0) (py0 + ay0) = s at *
      unfold Betw mg at *
      omega
    · generalize seg4 (px1 - ax1) (py1 - ay1) (px1 + ax1) (py1 + ay1) (px0 - ax0) (py0 - ay0) (px0 + ax0) (py0 + ay0) = s at *
      unfold Betw mg at *
      omega
  · obtain ⟨dx, dy, n, hm⟩ := Meas.ex h0 h1
    obtain ⟨b1, b2, b3, b4⟩ := Four.betw hm.right
    have e1 := hm.edx
    have e2 := hm.edy
    refine ⟨k0, k1, dx, dy, n, by omega, ?_, ?_, hm.rt, ?_, ?_⟩
    · rw [contact_Of.low h0 h1 c hm k hkk]
    · rw [contact_Gap.low h0 h1 c hm k hkk]
    · generalize seg4 (px0 - ax0) (py0 - ay0) (px0 + ax0) (py0 + ay0) (px1 - ax1) (py1 - ay1) (px1 + ax1) (py1 + ay1) = s at *
      unfold Betw mg at *
      omega
    · generalize seg4 (px0 - ax0) (py0 - ay0) (px0 + ax0) (py0 + ay0) (px1 - ax1) (py1 - ay1) (px1 + ax1) (py1 + ay1) = s at *
      unfold Betw mg at *
      omega
theorem ref_box {k0 r0 ax0 ay0 m0 b0 px0 py0 vx0 vy0 : Int} (h : Valid k0 r0 ax0 ay0 m0 b0 px0 py0 vx0 vy0) : billiardref08_Of.f k0 r0 ax0 ay0 m0 b0 px0 py0 vx0 vy0 = some (px0 - (mg ax0 + r0), py0 - (mg ay0 + r0), px0 + (mg ax0 + r0), py0 + (mg ay0 + r0)) := by
  obtain ⟨r, a1, a2, _, _, p1, p2, _, _⟩ := h
  have ab : ∀ a, -4194304 ≤ a ∧ a ≤ 4194304 → billiardref05_Abs.f a = some (mg a) := by
    intro a ha
    unfold billiardref05_Abs.f mg
    split
    · rw [w32_id (by omega) (by omega)]
    · rfl
  have g1 : 0 ≤ mg ax0 ∧ mg ax0 ≤ 4194304 := by unfold mg; omega
  have g2 : 0 ≤ mg ay0 ∧ mg ay0 ≤ 4194304 := by unfold mg; omega
  unfold billiardref08_Of.f
  rw [ab ax0 a1, ab ay0 a2]
  simp only [Option.bind_some]
  rw [w32_id (n := mg ax0 + r0) (by omega) (by omega), w32_id (n := mg ay0 + r0) (by omega) (by omega), w32_id (n := px0 - (mg ax0 + r0)) (by omega) (by omega), w32_id (n := py0 - (mg ay0 + r0)) (by omega) (by omega), w32_id (n := px0 + (mg ax0 + r0)) (by omega) (by omega), w32_id (n := py0 + (mg ay0 + r0)) (by omega) (by omega)]
theorem overlap_yes {a0 a1 a2 a3 c0 c1 c2 c3 : Int} (h1 : a0 ≤ a2) (h2 : a1 ≤ a3) (h3 : c0 ≤ c2) (h4 : c1 ≤ c3) (h5 : a0 ≤ c2) (h6 : c0 ≤ a2) (h7 : a1 ≤ c3) (h8 : c1 ≤ a3) : billiardref08_Overlap.f a0 a1 a2 a3 c0 c1 c2 c3 = some true := by
  have e : ∀ x y z w : Int, x ≤ z → y ≤ w → billiardref08_Empty.f x y z w = some false := by
    intro x y z w hx hy
    unfold billiardref08_Empty.f
    rw [if_neg (by omega), decide_eq_false (by omega)]
  unfold billiardref08_Overlap.f
  rw [e _ _ _ _ h1 h2, e _ _ _ _ h3 h4]
  simp only [Option.bind_some]
  rw [if_neg (by decide), if_neg (by decide), if_pos h5, if_pos h6, if_pos h7, decide_eq_true h8]
theorem ContactDepth : billiardlaw14_ContactDepth.Pure := by
  intro k0 r0 ax0 ay0 m0 b0 px0 py0 vx0 vy0 k1 r1 ax1 ay1 m1 b1 px1 py1 vx1 vy1 _ _ _ _ _ _ _ _ _ _ _ _ _ _ _ _ _ _ _ _
  refine ⟨60, ?_⟩
  unfold billiardlaw14_ContactDepth.f
  rw [billiardlaw14_awake.yes _ (by omega)]
  simp only [Option.bind_some, if_true]
  rcases billiardref14_Right.cases 55 k0 r0 ax0 ay0 m0 b0 px0 py0 vx0 vy0 k1 r1 ax1 ay1 m1 b1 px1 py1 vx1 vy1 with ⟨e, h0, h1, hne⟩ | e
  · rw [e]
    simp only [Option.bind_some, Bool.not_true, billiardlaw14_ContactDepth.j0]
    obtain ⟨kl, kh, dx, dy, n, hlt, e1, e2, hn, hx, hy⟩ := both h0 h1 hne 59 (by omega)
    have hr0 := h0.r
    have hr1 := h1.r
    have hc := hn.comp
    have g0 := hn.1
    have g1 := hn.2.1
    rw [if_neg (by decide), e1, e2]
    simp only [Option.bind_some]
    unfold conS
    by_cases c : (r0 + r1) * (r0 + r1) ≤ dx * dx + dy * dy
    · have hl := far_len hn (show 0 ≤ r0 + r1 by omega) c
      rw [if_pos c, if_neg (by decide), if_pos (by omega)]
      rfl
    · have hl := near_len hn (show 0 ≤ r0 + r1 by omega) c
      have m0 : 0 ≤ mg ax0 := by unfold mg; omega
      have m1 : 0 ≤ mg ay0 := by unfold mg; omega
      have m2 : 0 ≤ mg ax1 := by unfold mg; omega
      have m3 : 0 ≤ mg ay1 := by unfold mg; omega
      have mdx : mg dx ≤ n := by unfold mg; omega
      have mdy : mg dy ≤ n := by unfold mg; omega
      rw [if_neg c, if_pos rfl]
      simp only
      rw [if_pos (by omega), w32_id (n := r0 + r1) (by omega) (by omega), if_pos (by omega), w64_id (n := r0 + r1 - n) (by omega) (by omega), w64_id (n := -(n - (r0 + r1))) (by omega) (by omega), if_pos (by omega), if_pos hlt, ref_box h0, ref_box h1]
      simp only [Option.bind_some]
      rw [overlap_yes (by omega) (by omega) (by omega) (by omega) (by omega) (by omega) (by omega) (by omega)]
      rfl
  · rw [e]
    simp [billiardlaw14_ContactDepth.j0, billiardlaw14_awake.yes]

end Go.Proofs.Ytahbfafnodeimaa.Pure
