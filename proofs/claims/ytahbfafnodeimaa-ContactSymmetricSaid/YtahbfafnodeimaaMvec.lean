/- What the functions of vec answer, in plain numbers. -/
import Derived.Test.YtahbfafnodeimaaQvec
import Derived.Test.YtahbfafnodeimaaMroot
import Derived.Test.YtahbfafnodeimaaMspec
namespace Go.Proofs.Ytahbfafnodeimaa.Q
open Go.RowKit Go.Proofs.YtahbfafnodeimaaW.PrintWords Go.Proofs.YtahbfafnodeimaaW.PrintLast Go.Proofs.YtahbfafnodeimaaW.PrintMore
set_option linter.unusedVariables false

theorem vec_square.is {d : Int} (h0 : -4294967295 ≤ d) (h1 : d ≤ 4294967295) : vec_square.f d = some (d * d) := by
  unfold vec_square.f
  have hs := sq_le h0 h1
  have h := sq_nn d
  by_cases c : d < 0
  · rw [if_pos c, w64_id (n := -d) (by omega) (by omega), u64_id (n := -d) (by omega) (by omega), Int.neg_mul_neg, u64_id h (by omega)]
  · rw [if_neg c, u64_id (n := d) (by omega) (by omega), u64_id h (by omega)]
theorem sq_small {d m : Int} (hm : 0 ≤ m) (h : d * d ≤ m) : m ≤ 18446744073709551615 → -4294967295 ≤ d ∧ d ≤ 4294967295 := by
  intro hm2
  have := sq_lt_cancel (a := d) (b := 4294967296) (by omega) (by omega)
  omega

theorem vec_LengthSq.is {x y : Int} (h : x * x + y * y ≤ 18446744073709551615) : vec_LengthSq.f x y = some (x * x + y * y) := by
  have hx := sq_nn x
  have hy := sq_nn y
  have bx := sq_small (d := x) (by omega) (by omega) h
  have by_ := sq_small (d := y) (by omega) (by omega) h
  unfold vec_LengthSq.f
  rw [vec_square.is bx.1 bx.2, vec_square.is by_.1 by_.2]
  simp only [Option.bind_some]
  rw [u64_id (by omega) h]
theorem vec_Length.is {x y n : Int} (hn : IsRt (x * x + y * y) n) (h : x * x + y * y ≤ 18446744073709551615) (k : Nat) (hk : 33 ≤ k) : vec_Length.f k x y = some n := by
  have hx := sq_nn x
  have hy := sq_nn y
  unfold vec_Length.f
  rw [vec_LengthSq.is h]
  simp only [Option.bind_some]
  rw [root_Isqrt.is hn (by omega) h k hk]
  simp only [Option.bind_some]
  obtain ⟨g0, g1, _, _⟩ := hn
  rw [w64_id (by omega) (by omega)]
/-- The root is at least each component. -/
theorem IsRt.comp {x y n : Int} (hn : IsRt (x * x + y * y) n) : (-n ≤ x ∧ x ≤ n) ∧ (-n ≤ y ∧ y ≤ n) := by
  have hx := sq_nn x
  have hy := sq_nn y
  obtain ⟨g0, g1, g2, g3⟩ := hn
  have a := sq_lt_cancel (a := x) (b := n + 1) (by omega) (by omega)
  have b := sq_lt_cancel (a := y) (b := n + 1) (by omega) (by omega)
  omega

theorem vec_floor.is {a b : Int} (hb : 0 < b) (ha0 : -9223372036854775807 ≤ a) (ha1 : a ≤ 9223372036854775807) : vec_floor.f a b = some (a / b) := floor_wrap hb ha0 ha1
theorem unit_part {d n : Int} (hn : 0 < n) (h0 : -n ≤ d) (h1 : d ≤ n) : -65536 ≤ d * 65536 / n ∧ d * 65536 / n ≤ 65536 := by
  constructor
  · refine (Int.le_ediv_iff_mul_le hn).mpr ?_
    omega
  · exact Int.ediv_le_of_le_mul hn (by omega)

/-- The unit vector. -/
def unitS (n x y : Int) : Int × Int := if n = 0 then (65536, 0) else (x * 65536 / n, y * 65536 / n)
theorem vec_Unit.is {x y n : Int} (hn : IsRt (x * x + y * y) n) (h : x * x + y * y ≤ 18446744073709551615) (k : Nat) (hk : 33 ≤ k) : vec_Unit.f k x y = some (unitS n x y) := by
  unfold vec_Unit.f unitS
  rw [vec_Length.is hn h k hk]
  simp only [Option.bind_some]
  by_cases c : n = 0
  · rw [if_pos c, if_pos c]
  · have g0 := hn.1
    have g1 := hn.2.1
    obtain ⟨⟨x0, x1⟩, ⟨y0, y1⟩⟩ := hn.comp
    have ux := unit_part (d := x) (n := n) (by omega) x0 x1
    have uy := unit_part (d := y) (n := n) (by omega) y0 y1
    rw [if_neg c, if_neg c, w64_id (n := x * 65536) (by omega) (by omega), w64_id (n := y * 65536) (by omega) (by omega), vec_floor.is (by omega) (by omega) (by omega), vec_floor.is (by omega) (by omega) (by omega)]
    simp only [Option.bind_some]
    rw [w32_id (by omega) (by omega), w32_id (by omega) (by omega)]
theorem vec_Diff.is {a b c d : Int} (ha : -2147483648 ≤ a ∧ a ≤ 2147483647) (hb : -2147483648 ≤ b ∧ b ≤ 2147483647) (hc : -2147483648 ≤ c ∧ c ≤ 2147483647) (hd : -2147483648 ≤ d ∧ d ≤ 2147483647) :
    vec_Diff.f a b c d = some (c - a, d - b) := by
  unfold vec_Diff.f
  rw [w64_id (n := a) (by omega) (by omega), w64_id (n := b) (by omega) (by omega), w64_id (n := c) (by omega) (by omega), w64_id (n := d) (by omega) (by omega), w64_id (by omega) (by omega), w64_id (by omega) (by omega)]
end Go.Proofs.Ytahbfafnodeimaa.Q
