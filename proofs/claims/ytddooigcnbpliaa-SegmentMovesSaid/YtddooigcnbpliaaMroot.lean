/- The plain law of root.Isqrt, root.Ceil, root.Sqrt and the reference's Isqrt, Ceil: each answers the integer square root. -/
import Derived.IntWalk
import Derived.Test.YtddooigcnbpliaaMbase
namespace Go.Proofs.Ytddooigcnbpliaa.Q
open Go.RowKit Go.Proofs.YtddooigcnbpliaaW.PrintWords Go.Proofs.YtddooigcnbpliaaW.PrintLast Go.Proofs.YtddooigcnbpliaaW.PrintMore
set_option linter.unusedVariables false

/-- r is the integer square root of n. -/
def IsRt (n r : Int) : Prop := 0 ≤ r ∧ r ≤ 4294967295 ∧ r * r ≤ n ∧ n < (r + 1) * (r + 1)

theorem IsRt.le {n m r s : Int} (h : IsRt n r) (g : IsRt m s) (hnm : n ≤ m) : r ≤ s := by
  obtain ⟨h0, _, h1, h2⟩ := h
  obtain ⟨g0, _, g1, g2⟩ := g
  by_cases c : r ≤ s
  · exact c
  · have := sq_mono (a := s + 1) (b := r) (by omega) (by omega)
    omega

theorem IsRt.uniq {n r s : Int} (h : IsRt n r) (g : IsRt n s) : r = s := by
  have a := h.le g (Int.le_refl _)
  have b := g.le h (Int.le_refl _)
  omega

theorem root_pow : ∀ d : Fin 33, (1 : Int) ≤ 2 ^ d.val ∧ (2 : Int) ^ d.val ≤ 4294967296 := by decide +kernel
theorem isRt_nat : ∀ n : Nat, ∃ r : Nat, r * r ≤ n ∧ n < (r + 1) * (r + 1)
  | 0 => ⟨0, by decide, by decide⟩
  | n + 1 => by
    obtain ⟨r, h1, h2⟩ := isRt_nat n
    by_cases c : n + 1 < (r + 1) * (r + 1)
    · exact ⟨r, by omega, c⟩
    · have e : (r + 1 + 1) * (r + 1 + 1) = (r + 1) * (r + 1) + 2 * r + 3 := by grind
      exact ⟨r + 1, by omega, by omega⟩
theorem isRt_ex (n : Int) (hn0 : 0 ≤ n) (hn : n ≤ 18446744073709551615) : ∃ r, IsRt n r := by
  obtain ⟨r, h1, h2⟩ := isRt_nat n.toNat
  have g1 : ((r * r : Nat) : Int) ≤ n := by omega
  have g2 : n < (((r + 1) * (r + 1) : Nat) : Int) := by omega
  rw [Int.natCast_mul] at g1 g2
  refine ⟨r, by omega, ?_, g1, by simpa using g2⟩
  by_cases c : (r : Int) ≤ 4294967295
  · exact c
  · have := sq_mono (a := 4294967296) (b := (r : Int)) (by omega) (by omega)
    omega

/-- The least integer whose square is at least n. -/
def rtCeil (n r : Int) : Int := if r * r < n then r + 1 else r

theorem IsRt.sq_u64 {n r : Int} (hr : IsRt n r) : IntKind.u64.wrap (r * r) = r * r := by
  obtain ⟨h0, h1, _, _⟩ := hr
  have := sq_mono (a := r) (b := 4294967295) h0 h1
  exact IntWalk.u64_in _ ⟨Int.mul_nonneg h0 h0, by omega⟩

end Go.Proofs.Ytddooigcnbpliaa.Q
