/- The reference's contact and gap are those of the program. -/
import Derived.Test.YtahbfafnodeimaaMcontact
namespace Go.Proofs.Ytahbfafnodeimaa.Q
open Go.RowKit Go.Proofs.YtahbfafnodeimaaW.PrintWords Go.Proofs.YtahbfafnodeimaaW.PrintLast Go.Proofs.YtahbfafnodeimaaW.PrintMore
set_option linter.unusedVariables false
theorem ref_floor {t : Int} (h : -9223372036854775807 ≤ t ∧ t ≤ 9223372036854775807) {d : Int} (hd : 0 < d) : billiardref01_Floor.f t d = some (t / d) := by
  unfold billiardref01_Floor.f
  exact floor_wrap hd h.1 h.2
theorem billiardref04_Length.is {dx dy n : Int} (bx : -2164260864 ≤ dx ∧ dx ≤ 2164260864) (by_ : -2164260864 ≤ dy ∧ dy ≤ 2164260864) (hn : IsRt (dx * dx + dy * dy) n) (k : Nat) (hk : 33 ≤ k) : billiardref04_Length.f k dx dy = some n := by
  have hdd := dd_bd bx by_
  have hb := hn
  obtain ⟨g0, g1, _, _⟩ := hb
  unfold billiardref04_Length.f
  rw [billiardref04_LengthSq.is bx by_]
  simp only [Option.bind_some]
  unfold dS
  rw [billiardref03_Isqrt.is hn hdd.1 hdd.2 k hk]
  simp only [Option.bind_some]
  rw [w64_id (by omega) (by omega)]
theorem billiardref04_Unit.is {dx dy n : Int} (bx : -2164260864 ≤ dx ∧ dx ≤ 2164260864) (by_ : -2164260864 ≤ dy ∧ dy ≤ 2164260864) (hn : IsRt (dx * dx + dy * dy) n) (k : Nat) (hk : 33 ≤ k) : billiardref04_Unit.f (k + 1) dx dy = some (unitS n dx dy) := by
  have hx := sq_nn dx
  have hy := sq_nn dy
  have hc := hn.comp
  have far : n ≠ 0 → billiardref04_Unit.j0 (k + 1) dx dy false = some (unitS n dx dy) := by
    intro h0
    have hp : 0 < n := by have := hn.1; omega
    have u1 := unit_part hp hc.1.1 hc.1.2
    have u2 := unit_part hp hc.2.1 hc.2.2
    simp only [billiardref04_Unit.j0]
    rw [if_neg (by decide), billiardref04_Length.is bx by_ hn k hk]
    simp only [Option.bind_some]
    rw [w64_id (n := dx * 65536) (by omega) (by omega), w64_id (n := dy * 65536) (by omega) (by omega), ref_floor (by omega) hp, ref_floor (by omega) hp]
    simp only [Option.bind_some]
    rw [w32_id (by omega) (by omega), w32_id (by omega) (by omega)]
    unfold unitS
    rw [if_neg h0]
  unfold billiardref04_Unit.f
  by_cases c : dx = 0
  · rw [if_pos c]
    by_cases d : dy = 0
    · subst c
      subst d
      have h0 : n = 0 := IsRt.uniq hn (by unfold IsRt; decide)
      subst h0
      rfl
    · rw [beq_eq_false_iff_ne.mpr d]
      refine far (fun h => ?_)
      subst h
      omega
  · rw [if_neg c]
    refine far (fun h => ?_)
    subst h
    omega
section
variable {k0 r0 ax0 ay0 m0 b0 px0 py0 vx0 vy0 k1 r1 ax1 ay1 m1 b1 px1 py1 vx1 vy1 dx dy n : Int}
theorem billiardref14_chosen.is (h0 : Valid k0 r0 ax0 ay0 m0 b0 px0 py0 vx0 vy0) (h1 : Valid k1 r1 ax1 ay1 m1 b1 px1 py1 vx1 vy1) (hr : Right4 (px0 - ax0) (py0 - ay0) (px0 + ax0) (py0 + ay0) (px1 - ax1) (py1 - ay1) (px1 + ax1) (py1 + ay1)) (k : Nat) :
    billiardref14_chosen.f (k + 4) k0 r0 ax0 ay0 m0 b0 px0 py0 vx0 vy0 k1 r1 ax1 ay1 m1 b1 px1 py1 vx1 vy1 = some ((seg4 (px0 - ax0) (py0 - ay0) (px0 + ax0) (py0 + ay0) (px1 - ax1) (py1 - ay1) (px1 + ax1) (py1 + ay1)).1, (seg4 (px0 - ax0) (py0 - ay0) (px0 + ax0) (py0 + ay0) (px1 - ax1) (py1 - ay1) (px1 + ax1) (py1 + ay1)).2.1, (seg4 (px0 - ax0) (py0 - ay0) (px0 + ax0) (py0 + ay0) (px1 - ax1) (py1 - ay1) (px1 + ax1) (py1 + ay1)).2.2.1, (seg4 (px0 - ax0) (py0 - ay0) (px0 + ax0) (py0 + ay0) (px1 - ax1) (py1 - ay1) (px1 + ax1) (py1 + ay1)).2.2.2.1) := by
  obtain ⟨⟨e1, e2, e3, e4⟩, _⟩ := h0.ends
  obtain ⟨⟨f1, f2, f3, f4⟩, _⟩ := h1.ends
  unfold billiardref14_chosen.f billiardref05_First.f billiardref05_Second.f
  rw [e1, e2, e3, e4, f1, f2, f3, f4]
  simp only [Option.bind_some]
  rw [ref13_Chosen.is hr k]
  rfl
theorem billiardref14_Of.low (h0 : Valid k0 r0 ax0 ay0 m0 b0 px0 py0 vx0 vy0) (h1 : Valid k1 r1 ax1 ay1 m1 b1 px1 py1 vx1 vy1) (hk : ¬ k1 < k0) (hm : Meas px0 py0 ax0 ay0 px1 py1 ax1 ay1 dx dy n) (k : Nat) (hkk : 38 ≤ k) :
    billiardref14_Of.f (k + 1) k0 r0 ax0 ay0 m0 b0 px0 py0 vx0 vy0 k1 r1 ax1 ay1 m1 b1 px1 py1 vx1 vy1 = some (conS k0 k1 (r0 + r1) dx dy n) := by
  have hr0 := h0.r
  have hr1 := h1.r
  have hss := ss_bd (s := r0 + r1) (by omega)
  obtain ⟨hr, ex, ey, bx, by_, hn⟩ := hm
  have hdd := dd_bd bx by_
  obtain ⟨g1, g2, g3, g4, gd⟩ := Four.dist hr
  obtain ⟨j, rfl⟩ : ∃ j, k = j + 4 := ⟨k - 4, by omega⟩
  rw [billiardref14_Of.f, if_neg hk, billiardref14_chosen.is h0 h1 hr j]
  simp only [Option.bind_some]
  rw [billiardref13_DistSq.is g1 g2 g3 g4, wdiff g3 g1, wdiff g4 g2, ← ex, ← ey]
  simp only [Option.bind_some]
  rw [w64_id (n := r0) (by omega) (by omega), w64_id (n := r1) (by omega) (by omega), w64_id (n := r0 + r1) (by omega) (by omega), u64_id (n := r0 + r1) (by omega) (by omega), u64_id (n := (r0 + r1) * (r0 + r1)) (by omega) (by omega)]
  unfold conS
  by_cases c : (r0 + r1) * (r0 + r1) ≤ dx * dx + dy * dy
  · rw [if_pos (show dS dx dy ≥ (r0 + r1) * (r0 + r1) from c), if_pos c]
  · have hl := near_len hn (show 0 ≤ r0 + r1 by omega) c
    rw [if_neg (show ¬ dS dx dy ≥ (r0 + r1) * (r0 + r1) from c), if_neg c, show j + 4 = (j + 3) + 1 from rfl, billiardref04_Unit.is bx by_ hn (j + 3) (by omega), billiardref04_Length.is bx by_ hn _ (by omega)]
    simp only [Option.bind_some]
    rw [w64_id (n := r0 + r1 - n) (by omega) (by omega), w32_id (by omega) (by omega)]
theorem billiardref14_Gap.low (h0 : Valid k0 r0 ax0 ay0 m0 b0 px0 py0 vx0 vy0) (h1 : Valid k1 r1 ax1 ay1 m1 b1 px1 py1 vx1 vy1) (hk : ¬ k1 < k0) (hm : Meas px0 py0 ax0 ay0 px1 py1 ax1 ay1 dx dy n) (k : Nat) (hkk : 38 ≤ k) :
    billiardref14_Gap.f (k + 1) k0 r0 ax0 ay0 m0 b0 px0 py0 vx0 vy0 k1 r1 ax1 ay1 m1 b1 px1 py1 vx1 vy1 = some (n - (r0 + r1)) := by
  have hr0 := h0.r
  have hr1 := h1.r
  obtain ⟨hr, ex, ey, bx, by_, hn⟩ := hm
  have g0 := hn.1
  have g00 := hn.2.1
  obtain ⟨g1, g2, g3, g4, gd⟩ := Four.dist hr
  obtain ⟨j, rfl⟩ : ∃ j, k = j + 4 := ⟨k - 4, by omega⟩
  rw [billiardref14_Gap.f, if_neg hk, billiardref14_chosen.is h0 h1 hr j]
  simp only [Option.bind_some]
  rw [wdiff g3 g1, wdiff g4 g2, ← ex, ← ey, billiardref04_Length.is bx by_ hn _ (by omega)]
  simp only [Option.bind_some]
  rw [w64_id (n := r0) (by omega) (by omega), w64_id (n := r1) (by omega) (by omega), w64_id (n := n - r0) (by omega) (by omega), w64_id (n := n - r0 - r1) (by omega) (by omega)]
  congr 1
  omega
theorem billiardref14_Of.high (hk : k1 < k0) (k : Nat) : billiardref14_Of.f (k + 1) k0 r0 ax0 ay0 m0 b0 px0 py0 vx0 vy0 k1 r1 ax1 ay1 m1 b1 px1 py1 vx1 vy1 = billiardref14_Of.f k k1 r1 ax1 ay1 m1 b1 px1 py1 vx1 vy1 k0 r0 ax0 ay0 m0 b0 px0 py0 vx0 vy0 := by
  rw [billiardref14_Of.f, if_pos hk]
  cases billiardref14_Of.f k k1 r1 ax1 ay1 m1 b1 px1 py1 vx1 vy1 k0 r0 ax0 ay0 m0 b0 px0 py0 vx0 vy0 <;> rfl
theorem billiardref14_Gap.high (hk : k1 < k0) (k : Nat) : billiardref14_Gap.f (k + 1) k0 r0 ax0 ay0 m0 b0 px0 py0 vx0 vy0 k1 r1 ax1 ay1 m1 b1 px1 py1 vx1 vy1 = billiardref14_Gap.f k k1 r1 ax1 ay1 m1 b1 px1 py1 vx1 vy1 k0 r0 ax0 ay0 m0 b0 px0 py0 vx0 vy0 := by
  rw [billiardref14_Gap.f, if_pos hk]
  cases billiardref14_Gap.f k k1 r1 ax1 ay1 m1 b1 px1 py1 vx1 vy1 k0 r0 ax0 ay0 m0 b0 px0 py0 vx0 vy0 <;> rfl
end
end Go.Proofs.Ytahbfafnodeimaa.Q
