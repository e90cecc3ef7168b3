/- The floor of a quotient by absolute values, as the reference computes it. -/
import Derived.Test.YtddooigcnbpliaaMspec
namespace Go.Proofs.Ytddooigcnbpliaa.Q
open Go.RowKit Go.Proofs.YtddooigcnbpliaaW.PrintWords Go.Proofs.YtddooigcnbpliaaW.PrintLast Go.Proofs.YtddooigcnbpliaaW.PrintMore
set_option linter.unusedVariables false

/-- The floor of a quotient of a product, and the error. -/
def mulDivS (a b c : Int) : Int × Int := if c = 0 then (0, 2) else if i64B (fl (a * b) c) = true then (fl (a * b) c, 0) else (0, 3)
theorem div_parts {P C q r : Int} (hC : 0 < C) (hq : P / C = q) (hr : P % C = r) : P = q * C + r ∧ 0 ≤ r ∧ r < C := by
  have h1 := Int.emod_add_mul_ediv P C
  have h2 := Int.emod_nonneg P (show C ≠ 0 by omega)
  have h3 := Int.emod_lt_of_pos P hC
  rw [hq, hr] at h1
  rw [hr] at h2 h3
  exact ⟨by rw [Int.mul_comm q C]; omega, h2, h3⟩
theorem fl_neg {P C q r : Int} (hC : 0 < C) (hq : P / C = q) (hr : P % C = r) : (-P) / C = if r = 0 then -q else -(q + 1) := by
  obtain ⟨e, r0, r1⟩ := div_parts hC hq hr
  split
  · rename_i z
    exact (div_uniq (n := -P) (d := C) (q := -q) (r := 0) (by omega) hC (by rw [Int.neg_mul]; omega)).1
  · rename_i z
    exact (div_uniq (n := -P) (d := C) (q := -(q + 1)) (r := C - r) (by omega) (by omega) (by rw [Int.neg_mul, Int.add_mul]; omega)).1
/-- The floor by absolute values. -/
theorem fl_mg (a b c : Int) (hc : c ≠ 0) (pa pb pc : Bool) (hpa : decide (a < 0) = pa) (hpb : decide (b < 0) = pb) (hpc : decide (c < 0) = pc) :
    fl (a * b) c = if (!(!pa == pb) == pc) = true then (-(mg a * mg b)) / mg c else (mg a * mg b) / mg c := by
  subst hpa hpb hpc
  by_cases ca : a < 0 <;> by_cases cb : b < 0 <;> by_cases cc : c < 0 <;> simp [fl, mg, ca, cb, cc, Int.neg_mul, Int.mul_neg] <;> (intro h; exact absurd h (by omega))
/-- The floor, with a sign, of a quotient and a remainder. -/
def flS (p : Bool) (q r : Int) : Int := if p = true then (if r = 0 then -q else -(q + 1)) else q
end Go.Proofs.Ytddooigcnbpliaa.Q
