/- The plain law of root.Isqrt, root.Ceil, root.Sqrt and the reference's Isqrt, Ceil: each answers the integer square root. -/
import Derived.Test.YtahbfafnodeimaaQroot
import Derived.Test.YtahbfafnodeimaaQbilliardref03
import Derived.IntWalk
import Derived.Test.YtahbfafnodeimaaMspec
namespace Go.Proofs.Ytahbfafnodeimaa.Q
open Go.RowKit Go.Proofs.YtahbfafnodeimaaW.PrintWords Go.Proofs.YtahbfafnodeimaaW.PrintLast Go.Proofs.YtahbfafnodeimaaW.PrintMore
set_option linter.unusedVariables false

/-- r is the integer square root of n. -/
def IsRt (n r : Int) : Prop := 0 ≤ r ∧ r ≤ 4294967295 ∧ r * r ≤ n ∧ n < (r + 1) * (r + 1)

theorem IsRt.le {n m r s : Int} (h : IsRt n r) (g : IsRt m s) (hnm : n ≤ m) : r ≤ s := by
  obtain ⟨h0, _, h1, h2⟩ := h
  obtain ⟨g0, _, g1, g2⟩ := g
  by_cases c : r ≤ s
  · exact c
  · have := sq_mono (a := s + 1) (b := r) (by omega) (by omega)
    omega

theorem IsRt.uniq {n r s : Int} (h : IsRt n r) (g : IsRt n s) : r = s := by
  have a := h.le g (Int.le_refl _)
  have b := g.le h (Int.le_refl _)
  omega

theorem root_pow : ∀ d : Fin 33, (1 : Int) ≤ 2 ^ d.val ∧ (2 : Int) ^ d.val ≤ 4294967296 := by decide +kernel
theorem root_bit : ∀ d : Fin 32, shr .u64 4611686018427387904 (wrap64 (2 * (31 - (d.val : Int)))) = 2 ^ d.val * 2 ^ d.val := by decide +kernel

theorem root_loop (n : Int) (hn0 : 0 ≤ n) (hn : n ≤ 18446744073709551615) (d : Nat) : ∀ (k : Nat) (R : Int), d ≤ 32 → d < k → 0 ≤ R → R * R ≤ n → n < (R + 2 ^ d) * (R + 2 ^ d) → R + 2 ^ d ≤ 4294967296 →
    ∃ r, root_Isqrt.l0 k (n - R * R) (R * 2 ^ d) (32 - (d : Int)) = some r ∧ IsRt n r := by
  induction d with
  | zero =>
    intro k R _ hk h0 h1 h2 h3
    obtain ⟨k, rfl⟩ : ∃ m, k = m + 1 := ⟨k - 1, by omega⟩
    refine ⟨R, ?_, h0, by simp at h3; omega, h1, by simpa using h2⟩
    simp only [root_Isqrt.l0]
    rw [if_neg (by simp)]
    simp
  | succ d ih =>
    intro k R hd hk h0 h1 h2 h3
    obtain ⟨k, rfl⟩ : ∃ m, k = m + 1 := ⟨k - 1, by omega⟩
    have hb := root_bit ⟨d, by omega⟩
    have hp := root_pow ⟨d, by omega⟩
    simp only [] at hb hp
    have e31 : (32 : Int) - ((d + 1 : Nat) : Int) = 31 - (d : Int) := by omega
    have w31 : wrap64 (2 * (31 - (d : Int))) = 2 * (31 - (d : Int)) := by unfold wrap64; omega
    have wi : wrap64 (31 - (d : Int) + 1) = 32 - (d : Int) := by unfold wrap64; omega
    rw [e31]
    simp only [root_Isqrt.l0]
    rw [hb, wi, w31]
    rw [Int.pow_succ] at h2 h3 ⊢
    generalize (2 : Int) ^ d = p at *
    obtain ⟨p1, p2⟩ := hp
    -- the sizes
    have s1 : R * (p * 2) = 2 * (R * p) := by rw [← Int.mul_assoc, Int.mul_comm]
    have s0 : 0 ≤ R * p := Int.mul_nonneg h0 (by omega)
    have s2 : (R + p) * (R + p) = R * R + 2 * (R * p) + p * p := by
      rw [Int.add_mul, Int.mul_add, Int.mul_add, Int.mul_comm p R]; omega
    have s3 : 0 ≤ p * p := Int.mul_nonneg (by omega) (by omega)
    have s4 : R * R + 2 * (R * p) + p * p < 18446744073709551616 := by
      have := sq_mono (a := R + p) (b := 4294967295) (by omega) (by omega)
      omega
    have s5 : 0 ≤ R * R := Int.mul_nonneg h0 h0
    have w1 : IntKind.u64.wrap (2 * (R * p) + p * p) = 2 * (R * p) + p * p := IntWalk.u64_in _ ⟨by omega, by omega⟩
    have hdiv : 2 * (R * p) / 2 = R * p := by omega
    rw [s1]
    rw [if_pos (by omega), if_pos (by omega), w1, hdiv]
    by_cases c : (R + p) * (R + p) ≤ n
    · rw [if_pos (by omega)]
      have w2 : IntKind.u64.wrap (n - R * R - (2 * (R * p) + p * p)) = n - (R + p) * (R + p) := by
        rw [IntWalk.u64_in _ ⟨by omega, by omega⟩]; omega
      have w3 : IntKind.u64.wrap (R * p + p * p) = (R + p) * p := by
        rw [IntWalk.u64_in _ ⟨by omega, by omega⟩, Int.add_mul]
      rw [w2, w3]
      exact ih k (R + p) (by omega) (by omega) (by omega) c (by rw [show R + p + p = R + p * 2 by omega]; exact h2) (by omega)
    · rw [if_neg (by omega)]
      exact ih k R (by omega) (by omega) h0 h1 (by omega) (by omega)

/-- root.Isqrt answers the integer square root. -/
theorem root_Isqrt.tells (n : Int) (hn0 : 0 ≤ n) (hn : n ≤ 18446744073709551615) (k : Nat) (hk : 33 ≤ k) : ∃ r, root_Isqrt.f k n = some r ∧ IsRt n r := by
  have := root_loop n hn0 hn 32 k 0 (by omega) (by omega) (by omega) (by omega) (by omega) (by decide)
  simpa [root_Isqrt.f] using this

theorem root_Isqrt.is {n r : Int} (hr : IsRt n r) (hn0 : 0 ≤ n) (hn : n ≤ 18446744073709551615) (k : Nat) (hk : 33 ≤ k) : root_Isqrt.f k n = some r := by
  obtain ⟨s, h, hs⟩ := root_Isqrt.tells n hn0 hn k hk
  rw [h, hs.uniq hr]

/-- there is an integer square root -/
theorem isRt_nat : ∀ n : Nat, ∃ r : Nat, r * r ≤ n ∧ n < (r + 1) * (r + 1)
  | 0 => ⟨0, by decide, by decide⟩
  | n + 1 => by
    obtain ⟨r, h1, h2⟩ := isRt_nat n
    by_cases c : n + 1 < (r + 1) * (r + 1)
    · exact ⟨r, by omega, c⟩
    · have e : (r + 1 + 1) * (r + 1 + 1) = (r + 1) * (r + 1) + 2 * r + 3 := by grind
      exact ⟨r + 1, by omega, by omega⟩
theorem isRt_ex (n : Int) (hn0 : 0 ≤ n) (hn : n ≤ 18446744073709551615) : ∃ r, IsRt n r := by
  obtain ⟨r, h1, h2⟩ := isRt_nat n.toNat
  have g1 : ((r * r : Nat) : Int) ≤ n := by omega
  have g2 : n < (((r + 1) * (r + 1) : Nat) : Int) := by omega
  rw [Int.natCast_mul] at g1 g2
  refine ⟨r, by omega, ?_, g1, by simpa using g2⟩
  by_cases c : (r : Int) ≤ 4294967295
  · exact c
  · have := sq_mono (a := 4294967296) (b := (r : Int)) (by omega) (by omega)
    omega

theorem refroot_loop (n : Int) (hn0 : 0 ≤ n) (hn : n ≤ 18446744073709551615) (d : Nat) : ∀ (k : Nat) (lo hi : Int), d < k → 0 ≤ lo → lo ≤ hi → hi ≤ 4294967295 → hi - lo < 2 ^ d → lo * lo ≤ n → n < (hi + 1) * (hi + 1) →
    ∃ r, billiardref03_Isqrt.l0 k n lo hi = some r ∧ IsRt n r := by
  induction d with
  | zero =>
    intro k lo hi hk h0 h1 h2 h3 h4 h5
    obtain ⟨k, rfl⟩ : ∃ m, k = m + 1 := ⟨k - 1, by omega⟩
    have e : hi = lo := by simp at h3; omega
    subst e
    refine ⟨hi, ?_, h0, h2, h4, h5⟩
    simp only [billiardref03_Isqrt.l0]
    rw [if_neg (by omega)]
  | succ d ih =>
    intro k lo hi hk h0 h1 h2 h3 h4 h5
    obtain ⟨k, rfl⟩ : ∃ m, k = m + 1 := ⟨k - 1, by omega⟩
    by_cases c : lo < hi
    · have w0 : IntKind.u64.wrap ((IntKind.u64.wrap (IntKind.u64.wrap (lo + hi) + 1)).tdiv 2) = (lo + hi + 1) / 2 := by
        rw [IntWalk.u64_in (lo + hi) ⟨by omega, by omega⟩, IntWalk.u64_in (lo + hi + 1) ⟨by omega, by omega⟩, IntWalk.u64_quo _ _ ⟨by omega, by omega, by omega⟩]
      obtain ⟨m, hm⟩ : ∃ m, m = (lo + hi + 1) / 2 := ⟨_, rfl⟩
      have m1 : lo < m := by omega
      have m2 : m ≤ hi := by omega
      have s0 := sq_mono (a := m) (b := 4294967295) (by omega) (by omega)
      have s1 : 0 ≤ m * m := Int.mul_nonneg (by omega) (by omega)
      have w1 : IntKind.u64.wrap (m * m) = m * m := IntWalk.u64_in _ ⟨by omega, by omega⟩
      have w2 : IntKind.u64.wrap (m - 1) = m - 1 := IntWalk.u64_in _ ⟨by omega, by omega⟩
      rw [Int.pow_succ] at h3
      generalize (2 : Int) ^ d = p at *
      simp only [billiardref03_Isqrt.l0]
      rw [if_pos c, w0, ← hm, w1, w2]
      by_cases c2 : m * m ≤ n
      · rw [if_pos c2]
        exact ih k m hi (by omega) (by omega) (by omega) (by omega) (by omega) c2 h5
      · rw [if_neg c2]
        exact ih k lo (m - 1) (by omega) (by omega) (by omega) (by omega) (by omega) h4 (by rw [show m - 1 + 1 = m by omega]; omega)
    · have e : hi = lo := by omega
      subst e
      refine ⟨hi, ?_, h0, h2, h4, h5⟩
      simp only [billiardref03_Isqrt.l0]
      rw [if_neg (by omega)]

theorem billiardref03_Isqrt.is {n r : Int} (hr : IsRt n r) (hn0 : 0 ≤ n) (hn : n ≤ 18446744073709551615) (k : Nat) (hk : 33 ≤ k) : billiardref03_Isqrt.f k n = some r := by
  obtain ⟨s, h, hs⟩ := refroot_loop n hn0 hn 32 k 0 4294967295 (by omega) (by omega) (by omega) (by omega) (by decide) (by omega) (by omega)
  rw [billiardref03_Isqrt.f, h, hs.uniq hr]

/-- The least integer whose square is at least n. -/
def rtCeil (n r : Int) : Int := if r * r < n then r + 1 else r

theorem IsRt.sq_u64 {n r : Int} (hr : IsRt n r) : IntKind.u64.wrap (r * r) = r * r := by
  obtain ⟨h0, h1, _, _⟩ := hr
  have := sq_mono (a := r) (b := 4294967295) h0 h1
  exact IntWalk.u64_in _ ⟨Int.mul_nonneg h0 h0, by omega⟩

end Go.Proofs.Ytahbfafnodeimaa.Q
