/- The order of the bodies does not matter; exchanging their keys turns the normal around, up to rounding, for circles. No condition. -/
import Derived.Test.YtahbfafnodeimaaQContactSymmetric
import Derived.Test.YtahbfafnodeimaaMcontact
import Derived.Test.YtahbfafnodeimaaMsegmv
namespace Go.Proofs.Ytahbfafnodeimaa.Pure
open Go.RowKit Go.Proofs.Ytahbfafnodeimaa.Q Go.Proofs.YtahbfafnodeimaaW.PrintWords Go.Proofs.YtahbfafnodeimaaW.PrintLast Go.Proofs.YtahbfafnodeimaaW.PrintMore
set_option linter.unusedVariables false
theorem order {k0 r0 ax0 ay0 m0 b0 px0 py0 vx0 vy0 k1 r1 ax1 ay1 m1 b1 px1 py1 vx1 vy1 : Int} (hne : k0 ≠ k1) (k : Nat) : contact_Of.f k k0 r0 ax0 ay0 m0 b0 px0 py0 vx0 vy0 k1 r1 ax1 ay1 m1 b1 px1 py1 vx1 vy1 = contact_Of.f k k1 r1 ax1 ay1 m1 b1 px1 py1 vx1 vy1 k0 r0 ax0 ay0 m0 b0 px0 py0 vx0 vy0 ∧ contact_Gap.f k k0 r0 ax0 ay0 m0 b0 px0 py0 vx0 vy0 k1 r1 ax1 ay1 m1 b1 px1 py1 vx1 vy1 = contact_Gap.f k k1 r1 ax1 ay1 m1 b1 px1 py1 vx1 vy1 k0 r0 ax0 ay0 m0 b0 px0 py0 vx0 vy0 := by
  by_cases c : k0 > k1
  · exact ⟨contact_Of.high c k, contact_Gap.high c k⟩
  · exact ⟨(contact_Of.high (show k1 > k0 by omega) k).symm, (contact_Gap.high (show k1 > k0 by omega) k).symm⟩
theorem known {k0 r0 ax0 ay0 m0 b0 px0 py0 vx0 vy0 k1 r1 ax1 ay1 m1 b1 px1 py1 vx1 vy1 : Int} (h0 : Valid k0 r0 ax0 ay0 m0 b0 px0 py0 vx0 vy0) (h1 : Valid k1 r1 ax1 ay1 m1 b1 px1 py1 vx1 vy1) (k : Nat) (hkk : 33 ≤ k) : (∃ x, contact_Of.f k k0 r0 ax0 ay0 m0 b0 px0 py0 vx0 vy0 k1 r1 ax1 ay1 m1 b1 px1 py1 vx1 vy1 = some x) ∧ ∃ x, contact_Gap.f k k0 r0 ax0 ay0 m0 b0 px0 py0 vx0 vy0 k1 r1 ax1 ay1 m1 b1 px1 py1 vx1 vy1 = some x := by
  by_cases c : k0 > k1
  · obtain ⟨dx, dy, n, hm⟩ := Meas.ex h1 h0
    rw [contact_Of.high c, contact_Gap.high c, contact_Of.low h1 h0 (by omega) hm k hkk, contact_Gap.low h1 h0 (by omega) hm k hkk]
    exact ⟨⟨_, rfl⟩, ⟨_, rfl⟩⟩
  · obtain ⟨dx, dy, n, hm⟩ := Meas.ex h0 h1
    rw [contact_Of.low h0 h1 c hm k hkk, contact_Gap.low h0 h1 c hm k hkk]
    exact ⟨⟨_, rfl⟩, ⟨_, rfl⟩⟩
theorem floor_neg {a n : Int} (hn : 0 < n) : -1 ≤ -a * 65536 / n + a * 65536 / n ∧ -a * 65536 / n + a * 65536 / n ≤ 0 := by
  have e : -a * 65536 = -(a * 65536) := by omega
  rw [e]
  generalize a * 65536 = t
  have h1 := Int.emod_add_mul_ediv t n
  have h2 := Int.emod_nonneg t (show n ≠ 0 by omega)
  have h3 := Int.emod_lt_of_pos t hn
  have h4 := Int.emod_add_mul_ediv (-t) n
  have h5 := Int.emod_nonneg (-t) (show n ≠ 0 by omega)
  have h6 := Int.emod_lt_of_pos (-t) hn
  generalize t / n = q at *
  generalize (-t) / n = p at *
  have h7 : n * (p + q) = -(t % n) - (-t) % n := by rw [Int.mul_add]; omega
  constructor
  · have : n * (-2) < n * (p + q) := by omega
    have := Int.lt_of_mul_lt_mul_left this (by omega)
    omega
  · have : n * (p + q) < n * 1 := by omega
    have := Int.lt_of_mul_lt_mul_left this (by omega)
    omega
/-- Two circles: the difference of their positions. -/
theorem circles {px0 py0 px1 py1 dx dy n : Int} (hm : Meas px0 py0 0 0 px1 py1 0 0 dx dy n) : dx = px1 - px0 ∧ dy = py1 - py0 := by
  obtain ⟨hr, ex, ey, _⟩ := hm
  simp only [Int.sub_zero, Int.add_zero] at hr ex ey
  obtain ⟨s1, s2, s3, s4⟩ := seg4_points hr
  rw [s1, s3] at ex
  rw [s2, s4] at ey
  exact ⟨ex, ey⟩
/-- The keys of two circles exchanged. -/
theorem turned {k0 r0 m0 b0 px0 py0 vx0 vy0 k1 r1 m1 b1 px1 py1 vx1 vy1 : Int} (h0 : Valid k0 r0 0 0 m0 b0 px0 py0 vx0 vy0) (h1 : Valid k1 r1 0 0 m1 b1 px1 py1 vx1 vy1) (hne : k0 ≠ k1) (hp : ¬ (px0 = px1 ∧ py0 = py1)) (k : Nat) (hkk : 33 ≤ k) :
    (∃ kl kh x y z, contact_Of.f k k0 r0 0 0 m0 b0 px0 py0 vx0 vy0 k1 r1 0 0 m1 b1 px1 py1 vx1 vy1 = some (kl, kh, x, y, z, true) ∧ ∃ x' y', contact_Of.f k k1 r0 0 0 m0 b0 px0 py0 vx0 vy0 k0 r1 0 0 m1 b1 px1 py1 vx1 vy1 = some (kl, kh, x', y', z, true) ∧ (-65536 ≤ x ∧ x ≤ 65536) ∧ (-65536 ≤ y ∧ y ≤ 65536) ∧ (-1 ≤ x' + x ∧ x' + x ≤ 0) ∧ (-1 ≤ y' + y ∧ y' + y ≤ 0)) ∨ ∃ kl kh x y z, contact_Of.f k k0 r0 0 0 m0 b0 px0 py0 vx0 vy0 k1 r1 0 0 m1 b1 px1 py1 vx1 vy1 = some (kl, kh, x, y, z, false) := by
  have h2 : Valid k1 r0 0 0 m0 b0 px0 py0 vx0 vy0 := ⟨h0.r, h0.ax, h0.ay, h0.m, h0.b, h0.px, h0.py, h0.vx, h0.vy⟩
  have h3 : Valid k0 r1 0 0 m1 b1 px1 py1 vx1 vy1 := ⟨h1.r, h1.ax, h1.ay, h1.m, h1.b, h1.px, h1.py, h1.vx, h1.vy⟩
  obtain ⟨dx, dy, n, hm⟩ := Meas.ex h0 h1
  obtain ⟨ex, ey, l, hl⟩ := Meas.ex h1 h0
  obtain ⟨c1, c2⟩ := circles hm
  obtain ⟨c3, c4⟩ := circles hl
  have f1 : ex = -dx := by omega
  have f2 : ey = -dy := by omega
  have g1 := hm.rt
  have g2 := hl.rt
  rw [f1, f2, Int.neg_mul_neg, Int.neg_mul_neg] at g2
  have f3 : l = n := IsRt.uniq g2 g1
  subst f1 f2 f3
  have hnz : 0 < l := by
    have hx := sq_nn dx
    have hy := sq_nn dy
    have g0 := g1.1
    have g3 := g1.2.2.2
    by_cases z : l = 0
    · exfalso
      subst z
      have hq : dx * dx + dy * dy = 0 := by omega
      have a1 : dx * dx = 0 := by omega
      have a2 : dy * dy = 0 := by omega
      have b1 : dx = 0 := by rcases Int.mul_eq_zero.mp a1 with h | h <;> exact h
      have b2 : dy = 0 := by rcases Int.mul_eq_zero.mp a2 with h | h <;> exact h
      exact hp ⟨by omega, by omega⟩
    · omega
  have hc := g1.comp
  have u1 := unit_part hnz hc.1.1 hc.1.2
  have u2 := unit_part hnz hc.2.1 hc.2.2
  have w1 := unit_part (d := -dx) hnz (by omega) (by omega)
  have w2 := unit_part (d := -dy) hnz (by omega) (by omega)
  have v1 := floor_neg (a := dx) hnz
  have v2 := floor_neg (a := dy) hnz
  by_cases c : k0 > k1
  · rw [contact_Of.high c, contact_Of.low h1 h0 (by omega) hl k hkk, contact_Of.low h2 h3 (by omega) hm k hkk, Int.add_comm r1 r0]
    unfold conS unitS
    rw [Int.neg_mul_neg, Int.neg_mul_neg]
    by_cases d : (r0 + r1) * (r0 + r1) ≤ dx * dx + dy * dy
    · rw [if_pos d]; exact Or.inr ⟨_, _, _, _, _, rfl⟩
    · rw [if_neg d, if_neg d, if_neg (show ¬ l = 0 by omega), if_neg (show ¬ l = 0 by omega)]
      exact Or.inl ⟨_, _, _, _, _, rfl, _, _, rfl, w1, w2, by omega, by omega⟩
  · rw [contact_Of.low h0 h1 c hm k hkk, contact_Of.high (show k1 > k0 by omega), contact_Of.low h3 h2 (by omega) hl k hkk, Int.add_comm r1 r0]
    unfold conS unitS
    rw [Int.neg_mul_neg, Int.neg_mul_neg]
    by_cases d : (r0 + r1) * (r0 + r1) ≤ dx * dx + dy * dy
    · rw [if_pos d]; exact Or.inr ⟨_, _, _, _, _, rfl⟩
    · rw [if_neg d, if_neg d, if_neg (show ¬ l = 0 by omega), if_neg (show ¬ l = 0 by omega)]
      exact Or.inl ⟨_, _, _, _, _, rfl, _, _, rfl, u1, u2, v1, v2⟩
theorem ContactSymmetric : billiardlaw14_ContactSymmetric.Pure := by
  intro k0 r0 ax0 ay0 m0 b0 px0 py0 vx0 vy0 k1 r1 ax1 ay1 m1 b1 px1 py1 vx1 vy1 _ _ _ _ _ _ _ _ _ _ _ _ _ _ _ _ _ _ _ _
  refine ⟨60, ?_⟩
  unfold billiardlaw14_ContactSymmetric.f
  rw [billiardlaw14_awake.yes _ (by omega)]
  simp only [Option.bind_some, if_true]
  rcases billiardref14_Right.cases 55 k0 r0 ax0 ay0 m0 b0 px0 py0 vx0 vy0 k1 r1 ax1 ay1 m1 b1 px1 py1 vx1 vy1 with ⟨e, h0, h1, hne⟩ | e
  rotate_left
  · rw [e]; simp [billiardlaw14_ContactSymmetric.j0, billiardlaw14_awake.yes]
  rw [e]
  simp only [Option.bind_some, Bool.not_true, billiardlaw14_ContactSymmetric.j0]
  obtain ⟨o1, o2⟩ := @order k0 r0 ax0 ay0 m0 b0 px0 py0 vx0 vy0 k1 r1 ax1 ay1 m1 b1 px1 py1 vx1 vy1 hne 59
  obtain ⟨⟨⟨kl, kh, x, y, z, ok⟩, ec⟩, ⟨g, eg⟩⟩ := known h0 h1 59 (by omega)
  rw [if_neg (by decide), ← o1, ← o2, ec, eg]
  simp only [Option.bind_some, beq_self_eq_true, Bool.not_true, Bool.or_self, bne_self_eq_false]
  rw [if_neg (by decide), if_neg (by decide)]
  simp only [billiardlaw14_ContactSymmetric.j1]
  rw [if_neg (by decide)]
  have done : ∀ u v w a b, billiardlaw14_ContactSymmetric.j2 58 true k0 r0 ax0 ay0 m0 b0 px0 py0 vx0 vy0 k1 r1 ax1 ay1 m1 b1 px1 py1 vx1 vy1 u v w a b = some true := by intro u v w a b; simp [billiardlaw14_ContactSymmetric.j2]
  by_cases c1 : ax0 = 0 ∧ ay0 = 0
  rotate_left
  · have hc : (!(ax0 == 0) || (!(ay0 == 0))) = true := by simp; omega
    rw [if_pos hc]; exact done _ _ _ _ _
  obtain ⟨rfl, rfl⟩ := c1
  rw [if_neg (by decide)]
  by_cases c2 : ax1 = 0 ∧ ay1 = 0
  rotate_left
  · have hc : (!(ax1 == 0) || (!(ay1 == 0))) = true := by simp; omega
    rw [if_pos hc]; exact done _ _ _ _ _
  obtain ⟨rfl, rfl⟩ := c2
  rw [if_neg (by decide)]
  cases ok
  · rw [if_neg (by decide)]; exact done _ _ _ _ _
  rw [if_pos rfl]
  by_cases c3 : px0 = px1 ∧ py0 = py1
  · have hc : (px0 == px1 && (py0 == py1)) = true := by rw [c3.1, c3.2]; simp
    rw [hc]; exact done _ _ _ _ _
  have hc : (px0 == px1 && (py0 == py1)) = false := by simp; omega
  rw [hc]
  simp only [billiardlaw14_ContactSymmetric.j2]
  rw [if_neg (by decide)]
  have K : contact_Of.f 57 k0 r0 0 0 m0 b0 px0 py0 vx0 vy0 k1 r1 0 0 m1 b1 px1 py1 vx1 vy1 = some (kl, kh, x, y, z, true) := by
    obtain ⟨⟨q, eq⟩, _⟩ := known h0 h1 57 (by omega)
    have := at_rounds (contact_Of.mono k0 r0 0 0 m0 b0 px0 py0 vx0 vy0 k1 r1 0 0 m1 b1 px1 py1 vx1 vy1) (show 57 ≤ 59 by omega) eq
    rw [ec] at this
    rw [eq, ← this]
  rcases turned h0 h1 hne c3 57 (by omega) with ⟨kl', kh', x1, y1, z1, e1, x2, y2, e2, b1, b2, b3, b4⟩ | ⟨kl', kh', x1, y1, z1, e1⟩
  · rw [K] at e1
    simp only [Option.some.injEq, Prod.mk.injEq] at e1
    obtain ⟨rfl, rfl, rfl, rfl, rfl, _⟩ := e1
    rw [e2]
    simp only [Option.bind_some, if_true]
    rw [w32_id (n := x2 + x) (by omega) (by omega), w32_id (n := y2 + y) (by omega) (by omega), if_pos (by omega), if_pos (by omega), if_pos (by omega), decide_eq_true (by omega)]
  · rw [K] at e1
    simp only [Option.some.injEq, Prod.mk.injEq] at e1
    exact absurd e1.2.2.2.2.2 (by decide)

end Go.Proofs.Ytahbfafnodeimaa.Pure
