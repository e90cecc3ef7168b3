/- What the functions of vec answer, in plain numbers. -/
import Derived.Test.YtddooigcnbpliaaQvec
import Derived.Test.YtddooigcnbpliaaMroot
import Derived.Test.YtddooigcnbpliaaMnum
namespace Go.Proofs.Ytddooigcnbpliaa.Q
open Go.RowKit Go.Proofs.YtddooigcnbpliaaW.PrintWords Go.Proofs.YtddooigcnbpliaaW.PrintLast Go.Proofs.YtddooigcnbpliaaW.PrintMore
set_option linter.unusedVariables false

theorem vec_square.is {d : Int} (h0 : -4294967295 ≤ d) (h1 : d ≤ 4294967295) : vec_square.f d = some (d * d) := by
  unfold vec_square.f
  have hs := sq_le h0 h1
  have h := sq_nn d
  by_cases c : d < 0
  · rw [if_pos c, w64_id (n := -d) (by omega) (by omega), u64_id (n := -d) (by omega) (by omega), Int.neg_mul_neg, u64_id h (by omega)]
  · rw [if_neg c, u64_id (n := d) (by omega) (by omega), u64_id h (by omega)]
theorem sq_small {d m : Int} (hm : 0 ≤ m) (h : d * d ≤ m) : m ≤ 18446744073709551615 → -4294967295 ≤ d ∧ d ≤ 4294967295 := by
  intro hm2
  have := sq_lt_cancel (a := d) (b := 4294967296) (by omega) (by omega)
  omega

theorem vec_LengthSq.is {x y : Int} (h : x * x + y * y ≤ 18446744073709551615) : vec_LengthSq.f x y = some (x * x + y * y) := by
  have hx := sq_nn x
  have hy := sq_nn y
  have bx := sq_small (d := x) (by omega) (by omega) h
  have by_ := sq_small (d := y) (by omega) (by omega) h
  unfold vec_LengthSq.f
  rw [vec_square.is bx.1 bx.2, vec_square.is by_.1 by_.2]
  simp only [Option.bind_some]
  rw [u64_id (by omega) h]
/-- The root is at least each component. -/
theorem IsRt.comp {x y n : Int} (hn : IsRt (x * x + y * y) n) : (-n ≤ x ∧ x ≤ n) ∧ (-n ≤ y ∧ y ≤ n) := by
  have hx := sq_nn x
  have hy := sq_nn y
  obtain ⟨g0, g1, g2, g3⟩ := hn
  have a := sq_lt_cancel (a := x) (b := n + 1) (by omega) (by omega)
  have b := sq_lt_cancel (a := y) (b := n + 1) (by omega) (by omega)
  omega

theorem unit_part {d n : Int} (hn : 0 < n) (h0 : -n ≤ d) (h1 : d ≤ n) : -65536 ≤ d * 65536 / n ∧ d * 65536 / n ≤ 65536 := by
  constructor
  · refine (Int.le_ediv_iff_mul_le hn).mpr ?_
    omega
  · exact Int.ediv_le_of_le_mul hn (by omega)

/-- The unit vector. -/
def unitS (n x y : Int) : Int × Int := if n = 0 then (65536, 0) else (x * 65536 / n, y * 65536 / n)
theorem vec_Diff.is {a b c d : Int} (ha : -2147483648 ≤ a ∧ a ≤ 2147483647) (hb : -2147483648 ≤ b ∧ b ≤ 2147483647) (hc : -2147483648 ≤ c ∧ c ≤ 2147483647) (hd : -2147483648 ≤ d ∧ d ≤ 2147483647) :
    vec_Diff.f a b c d = some (c - a, d - b) := by
  unfold vec_Diff.f
  rw [w64_id (n := a) (by omega) (by omega), w64_id (n := b) (by omega) (by omega), w64_id (n := c) (by omega) (by omega), w64_id (n := d) (by omega) (by omega), w64_id (by omega) (by omega), w64_id (by omega) (by omega)]
end Go.Proofs.Ytddooigcnbpliaa.Q
