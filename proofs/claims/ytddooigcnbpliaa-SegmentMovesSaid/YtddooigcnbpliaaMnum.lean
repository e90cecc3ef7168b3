/- Plain facts: squares, floors, products of numbers of 32 bits, a mask. -/
import Derived.Test.YtddooigcnbpliaaMspec
namespace Go.Proofs.Ytddooigcnbpliaa.Q
open Go.RowKit Go.Proofs.YtddooigcnbpliaaW.PrintWords Go.Proofs.YtddooigcnbpliaaW.PrintLast Go.Proofs.YtddooigcnbpliaaW.PrintMore
set_option linter.unusedVariables false

theorem sq_le {d m : Int} (h0 : -m ≤ d) (h1 : d ≤ m) : d * d ≤ m * m := by
  by_cases c : 0 ≤ d
  · exact sq_mono c h1
  · have := sq_mono (a := -d) (b := m) (by omega) (by omega)
    rwa [Int.neg_mul_neg] at this
theorem sq_nn (d : Int) : 0 ≤ d * d := by
  by_cases c : 0 ≤ d
  · exact Int.mul_nonneg c c
  · have := Int.mul_nonneg (a := -d) (b := -d) (by omega) (by omega)
    rwa [Int.neg_mul_neg] at this
theorem sq_lt_cancel {a b : Int} (hb : 0 ≤ b) (h : a * a < b * b) : -b < a ∧ a < b := by
  constructor
  · by_cases c : -b < a
    · exact c
    · have := sq_mono (a := b) (b := -a) hb (by omega)
      rw [Int.neg_mul_neg] at this
      omega
  · by_cases c : a < b
    · exact c
    · have := sq_mono (a := b) (b := a) hb (by omega)
      omega
theorem sq_le_cancel {a b : Int} (hb : 0 ≤ b) (h : a * a ≤ b * b) : -b ≤ a ∧ a ≤ b := by
  have := sq_lt_cancel (a := a) (b := b + 1) (by omega) (by have : (b + 1) * (b + 1) = b * b + 2 * b + 1 := by rw [Int.add_mul, Int.mul_add]; omega
                                                            omega)
  omega

theorem tdiv_floor (a b : Int) (hb : 0 < b) : (if Int.tmod a b < 0 then Int.tdiv a b - 1 else Int.tdiv a b) = a / b := by
  have h1 := Int.tdiv_eq_ediv (a := a) (b := b)
  have h2 := Int.tmod_eq_emod (a := a) (b := b)
  have h3 := Int.emod_nonneg a (show b ≠ 0 by omega)
  have h4 := Int.emod_lt_of_pos a hb
  rw [h1, h2]
  by_cases c : 0 ≤ a ∨ b ∣ a
  · rw [if_pos c, if_pos c, if_neg (by omega)]
    omega
  · rw [if_neg c, if_neg c, Int.sign_eq_one_of_pos hb, if_pos (by omega)]
    omega

theorem tdiv_bd (a b : Int) (hb : 0 < b) : mg (Int.tdiv a b) ≤ mg a := by
  have h : (Int.tdiv a b).natAbs ≤ a.natAbs := by rw [Int.natAbs_tdiv]; exact Nat.div_le_self _ _
  unfold mg
  split <;> split <;> omega

/-- The two floors of a quotient, with whatever wraps, in range. -/
theorem floor_wrap {a b : Int} (hb : 0 < b) (ha0 : -9223372036854775807 ≤ a) (ha1 : a ≤ 9223372036854775807) :
    (if b = 0 then (none : Option Int) else (if (Int.tmod a b) < 0 then (some (wrap64 ((wrap64 (Int.tdiv a b)) - 1))) else (some (wrap64 (Int.tdiv a b))))) = some (a / b) := by
  have h := tdiv_floor a b hb
  have hbd := tdiv_bd a b hb
  have hm : mg a ≤ 9223372036854775807 := by unfold mg; split <;> omega
  have hq : -9223372036854775807 ≤ Int.tdiv a b ∧ Int.tdiv a b ≤ 9223372036854775807 := by
    have : mg (Int.tdiv a b) ≤ 9223372036854775807 := by omega
    unfold mg at this
    split at this <;> omega
  rw [if_neg (by omega), w64_id (n := Int.tdiv a b) (by omega) (by omega)]
  · by_cases c : Int.tmod a b < 0
    · rw [if_pos c] at h ⊢
      rw [w64_id (by omega) (by omega), h]
    · rw [if_neg c] at h ⊢
      rw [h]

theorem prod_i32 {a b : Int} (ha : -2147483648 ≤ a ∧ a ≤ 2147483647) (hb : -2147483648 ≤ b ∧ b ≤ 2147483647) : wrap64 (wrap64 a * wrap64 b) = a * b := by
  have h := mul_i32 ha hb
  rw [w64_id (n := a) (by omega) (by omega), w64_id (n := b) (by omega) (by omega), w64_id (by omega) (by omega)]
theorem prod_i32' {a b : Int} (ha : -2147483648 < a ∧ a ≤ 2147483647) (hb : -2147483648 < b ∧ b ≤ 2147483647) : -4611686014132420609 ≤ a * b ∧ a * b ≤ 4611686014132420609 := by
  have h1 : mg a ≤ 2147483647 := by unfold mg; split <;> omega
  have h2 : mg b ≤ 2147483647 := by unfold mg; split <;> omega
  have h3 : 0 ≤ mg a := by unfold mg; split <;> omega
  have h4 : 0 ≤ mg b := by unfold mg; split <;> omega
  have k := Int.mul_le_mul h1 h2 h4 (by omega)
  have k0 : 0 ≤ mg a * mg b := Int.mul_nonneg h3 h4
  by_cases ca : a < 0 <;> by_cases cb : b < 0
  · have e : mg a * mg b = a * b := by simp [mg, ca, cb, Int.neg_mul, Int.mul_neg]
    omega
  · have e : mg a * mg b = -(a * b) := by simp [mg, ca, cb, Int.neg_mul]
    omega
  · have e : mg a * mg b = -(a * b) := by simp [mg, ca, cb, Int.mul_neg]
    omega
  · have e : mg a * mg b = a * b := by simp [mg, ca, cb]
    omega

theorem bits_i32 (x y : Int) : bits .and .i32 x y = IntKind.i32.wrap (((x % 4294967296).toNat &&& (y % 4294967296).toNat : Nat) : Int) := by
  show IntKind.i32.wrap ((BitVec.ofInt 32 x &&& BitVec.ofInt 32 y).toNat : Int) = _
  rw [BitVec.toNat_and, BitVec.toNat_ofInt, BitVec.toNat_ofInt]
  rfl
theorem and_frac {x : Int} : bits .and .i32 x 65535 = x % 65536 := by
  rw [bits_i32, show ((65535 : Int) % 4294967296).toNat = 2 ^ 16 - 1 from rfl, Nat.and_two_pow_sub_one_eq_mod, IntKind.wrap_i32]
  omega
end Go.Proofs.Ytddooigcnbpliaa.Q
