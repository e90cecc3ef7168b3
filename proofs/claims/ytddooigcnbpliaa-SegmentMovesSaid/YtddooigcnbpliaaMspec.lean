/- The words in which my contracts are told: ranges, halves of wide numbers, the floor of a quotient, saturation. -/
import Derived.Test.YtddooigcnbpliaaMbase
import Derived.Laws.BitsLemmas
import Derived.Laws.Bits64
import Derived.Laws.BitsAllLaws
import Derived.Lib.Hide
namespace Go.Proofs.Ytddooigcnbpliaa.Q
open Go.RowKit Go.Proofs.YtddooigcnbpliaaW.PrintWords Go.Proofs.YtddooigcnbpliaaW.PrintLast Go.Proofs.YtddooigcnbpliaaW.PrintMore
set_option linter.unusedVariables false

def i64B (a : Int) : Bool := decide (-9223372036854775808 ≤ a ∧ a ≤ 9223372036854775807)
def i32B (a : Int) : Bool := decide (-2147483648 ≤ a ∧ a ≤ 2147483647)
def u64B (a : Int) : Bool := decide (0 ≤ a ∧ a ≤ 18446744073709551615)
theorem i64B_iff {a : Int} : i64B a = true ↔ (-9223372036854775808 ≤ a ∧ a ≤ 9223372036854775807) := by simp [i64B]
theorem i32B_iff {a : Int} : i32B a = true ↔ (-2147483648 ≤ a ∧ a ≤ 2147483647) := by simp [i32B]
theorem u64B_iff {a : Int} : u64B a = true ↔ (0 ≤ a ∧ a ≤ 18446744073709551615) := by simp [u64B]
theorem i64B_neg {a : Int} : i64B a = false ↔ ¬ (-9223372036854775808 ≤ a ∧ a ≤ 9223372036854775807) := by simp [i64B]

/-- The absolute value. -/
def mg (a : Int) : Int := if a < 0 then -a else a
theorem mg_bd {a : Int} (h : -9223372036854775808 ≤ a ∧ a ≤ 9223372036854775807) : 0 ≤ mg a ∧ mg a ≤ 9223372036854775808 := by unfold mg; split <;> omega
theorem mg_bd_i32 {a : Int} (h : -2147483648 ≤ a ∧ a ≤ 2147483647) : 0 ≤ mg a ∧ mg a ≤ 2147483648 := by unfold mg; split <;> omega
theorem mg_mul (a b : Int) (ha : -9223372036854775808 ≤ a ∧ a ≤ 9223372036854775807) (hb : -9223372036854775808 ≤ b ∧ b ≤ 9223372036854775807) : 0 ≤ mg a * mg b ∧ mg a * mg b ≤ 85070591730234615865843651857942052864 := by
  have h1 := mg_bd ha
  have h2 := mg_bd hb
  exact ⟨Int.mul_nonneg h1.1 h2.1, by have := Int.mul_le_mul h1.2 h2.2 h2.1 (by omega : (0 : Int) ≤ 9223372036854775808); omega⟩
/-- The high and the low half of a wide number. -/
def hi64 (p : Int) : Int := p / 18446744073709551616
def lo64 (p : Int) : Int := p % 18446744073709551616
/-- All bits turned. -/
def not64 (x : Int) : Int := 18446744073709551615 - x
/-- The floor of a quotient, the divisor of any sign. -/
def fl (n d : Int) : Int := if 0 < d then n / d else (-n) / (-d)
/-- The nearest number of 32 bits. -/
def sat32 (n : Int) : Int := mx (-2147483648) (mn n 2147483647)
theorem sat32_bd (n : Int) : -2147483648 ≤ sat32 n ∧ sat32 n ≤ 2147483647 := by unfold sat32 mx mn; omega
theorem sat32_id {n : Int} (h : -2147483648 ≤ n ∧ n ≤ 2147483647) : sat32 n = n := by unfold sat32 mx mn; omega
theorem ret_int {k : IntKind} {a b : Int} (h : a = b) : Ending.returned (.int k a) = .returned (.int k b) := by rw [h]
theorem ret_two {j k : IntKind} {a b c d : Int} (h : a = b) (g : c = d) : Ending.returned (.tuple #[.int j a, .int k c]) = .returned (.tuple #[.int j b, .int k d]) := by rw [h, g]

theorem mul_i32 {a b : Int} (ha : -2147483648 ≤ a ∧ a ≤ 2147483647) (hb : -2147483648 ≤ b ∧ b ≤ 2147483647) : -4611686016279904256 ≤ a * b ∧ a * b ≤ 4611686018427387904 := by
  have h := mg_bd_i32 ha
  have g := mg_bd_i32 hb
  have k : mg a * mg b ≤ 2147483648 * 2147483648 := Int.mul_le_mul h.2 g.2 g.1 (by omega)
  have k0 : 0 ≤ mg a * mg b := Int.mul_nonneg h.1 g.1
  by_cases ca : a < 0 <;> by_cases cb : b < 0
  · have e : mg a * mg b = a * b := by simp [mg, ca, cb, Int.neg_mul, Int.mul_neg]
    omega
  · have e : mg a * mg b = -(a * b) := by simp [mg, ca, cb, Int.neg_mul]
    have k : mg a * mg b ≤ 2147483648 * 2147483647 := Int.mul_le_mul h.2 (by unfold mg; omega) g.1 (by omega)
    omega
  · have e : mg a * mg b = -(a * b) := by simp [mg, ca, cb, Int.mul_neg]
    have k : mg a * mg b ≤ 2147483647 * 2147483648 := Int.mul_le_mul (by unfold mg; omega) g.2 g.1 (by omega)
    omega
  · have e : mg a * mg b = a * b := by simp [mg, ca, cb]
    omega
theorem lo64_bd (p : Int) : 0 ≤ lo64 p ∧ lo64 p ≤ 18446744073709551615 := by unfold lo64; omega
theorem not64_bd {x : Int} (h : 0 ≤ x ∧ x ≤ 18446744073709551615) : 0 ≤ not64 x ∧ not64 x ≤ 18446744073709551615 := by unfold not64; omega
theorem not_u64 {x : Int} (h : 0 ≤ x ∧ x ≤ 18446744073709551615) : bits .xor .u64 IntKind.u64.max x = not64 x := by
  obtain ⟨n, rfl⟩ := Int.eq_ofNat_of_zero_le h.1
  have e : IntKind.u64.max = ((18446744073709551615 : Nat) : Int) := by decide
  rw [e, bits_xor_u64_nat _ n (by decide) (by omega)]
  have hn : n < 2 ^ 64 := by omega
  have := BitVec.toNat_not (x := BitVec.ofNat 64 n)
  have k : (BitVec.allOnes 64 ^^^ BitVec.ofNat 64 n).toNat = 2 ^ 64 - 1 - n := by
    rw [BitVec.allOnes_xor, this, BitVec.toNat_ofNat, Nat.mod_eq_of_lt hn]
  rw [BitVec.toNat_xor, BitVec.toNat_allOnes, BitVec.toNat_ofNat, Nat.mod_eq_of_lt hn] at k
  have k2 : 18446744073709551615 ^^^ n = 18446744073709551615 - n := k
  rw [k2]
  unfold not64
  omega

theorem wraps_u64 (n : Int) (h0 : 0 ≤ n) (h1 : n < 2 ^ 64) : IntKind.u64.wrap n = n := by rw [IntKind.wrap_u64]; omega
/-- The low half of a word. -/
theorem and_low {x : Int} (h0 : 0 ≤ x) (h1 : x ≤ 18446744073709551615) : bits .and .u64 x 4294967295 = x % 4294967296 :=
  bits_mask .u64 64 (by decide) wraps_u64 32 (by decide) x h0 (by omega)
/-- Two parts of a word joined. -/
theorem or_join (i : Nat) {x y : Int} (hx0 : 0 ≤ x) (hx : x % 2 ^ i = 0) (hx1 : x ≤ 18446744073709551615) (hy0 : 0 ≤ y) (hy : y < 2 ^ i) (hy1 : y ≤ 18446744073709551615) : bits .or .u64 x y = x + y :=
  bits_join .u64 64 (by decide) wraps_u64 i x y hx0 hx (by omega) hy0 hy (by omega)
theorem div_uniq {n d q r : Int} (h0 : 0 ≤ r) (h1 : r < d) (h : n = q * d + r) : n / d = q ∧ n % d = r := by
  subst h
  have hd : d ≠ 0 := by omega
  constructor
  · rw [Int.add_comm, Int.add_mul_ediv_right _ _ hd, Int.ediv_eq_zero_of_lt h0 h1, Int.zero_add]
  · rw [Int.add_comm, Int.add_mul_emod_self_right, Int.emod_eq_of_lt h0 h1]

theorem Drawn0.of_eq {w w' : World} (h : w = w') : Drawn0 w w' := h ▸ Drawn0.refl _
end Go.Proofs.Ytddooigcnbpliaa.Q
