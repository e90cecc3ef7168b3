/- The examples of the document's chapter 1 hold. -/
import Derived.Test.YtecnpbjcdkhnaaaQbilliardlaw01
import Derived.Test.YtecnpbjcdkhnaaaMwide
namespace Go.Proofs.Ytecnpbjcdkhnaaa.Q
open Go.RowKit Go.Proofs.YtecnpbjcdkhnaaaW.PrintWords Go.Proofs.YtecnpbjcdkhnaaaW.PrintLast Go.Proofs.YtecnpbjcdkhnaaaW.PrintMore
set_option linter.unusedVariables false
theorem billiardlaw01_awake.yes (k : Nat) : billiardlaw01_awake.f (k + 1) = some true := by
  unfold billiardlaw01_awake.f
  rw [wide_MulDiv.is (by decide) (by decide) (by decide), wide_MulDiv.is (by decide) (by decide) (by decide), wide_MulDiv.is (by decide) (by decide) (by decide), wide_Mul.is (by decide) (by decide), wide_MulShift.is (by decide) (by decide), wide_MulShift.is (by decide) (by decide)]
  simp only [Option.bind_some]
  decide
theorem prod_bd {a b : Int} (ha : -9223372036854775808 ≤ a ∧ a ≤ 9223372036854775807) (hb : -9223372036854775808 ≤ b ∧ b ≤ 9223372036854775807) : -85070591730234615865843651857942052864 ≤ a * b ∧ a * b ≤ 85070591730234615865843651857942052864 := by
  have h := mg_mul a b ha hb
  have e : a * b = mg a * mg b ∨ a * b = -(mg a * mg b) := by
    by_cases ca : a < 0 <;> by_cases cb : b < 0 <;> simp [mg, ca, cb, Int.neg_mul, Int.mul_neg]
  omega
theorem fl_self {a b : Int} (hb : b ≠ 0) : fl (a * b) b = a := by
  unfold fl
  split
  · exact (div_uniq (n := a * b) (d := b) (q := a) (r := 0) (by omega) (by omega) (by omega)).1
  · exact (div_uniq (n := -(a * b)) (d := -b) (q := a) (r := 0) (by omega) (by omega) (by rw [Int.mul_neg]; omega)).1
theorem fl_one (n : Int) : fl n 1 = n := by simp [fl]
theorem fl_pow (n : Int) (m : Nat) : fl n (2 ^ m) = n / 2 ^ m := by
  unfold fl
  rw [if_pos (Int.pow_pos (by decide))]
theorem fl_pos {n d : Int} (h : 0 < d) : fl n d * d ≤ n ∧ n < (fl n d + 1) * d := by
  unfold fl
  rw [if_pos h]
  obtain ⟨e, r0, r1⟩ := div_parts (P := n) h rfl rfl
  rw [Int.add_mul]
  omega
theorem fl_negd {n d : Int} (h : d < 0) : n ≤ fl n d * d ∧ (fl n d + 1) * d < n := by
  unfold fl
  rw [if_neg (by omega)]
  obtain ⟨e, r0, r1⟩ := div_parts (P := -n) (C := -d) (by omega) rfl rfl
  rw [Int.mul_neg] at e
  rw [Int.add_mul]
  omega
theorem wide_Less.is (x y : Int) : wide_Less.f (hi64 x) (lo64 x) (hi64 y) (lo64 y) = some (decide (x < y)) := by
  unfold wide_Less.f hi64 lo64
  by_cases c : x / 18446744073709551616 < y / 18446744073709551616
  · rw [if_pos c, decide_eq_true (by omega)]
  · rw [if_neg c]
    by_cases d : x / 18446744073709551616 = y / 18446744073709551616
    · rw [if_pos d]
      congr 1
      rw [Bool.eq_iff_iff, decide_eq_true_eq, decide_eq_true_eq]
      omega
    · rw [if_neg d, decide_eq_false (by omega)]
theorem wide_Less.any (a x b y : Int) : wide_Less.f a x b y = some (decide (a < b ∨ a = b ∧ x < y)) := by
  unfold wide_Less.f
  by_cases c : a < b
  · rw [if_pos c, decide_eq_true (Or.inl c)]
  · rw [if_neg c]
    by_cases d : a = b
    · rw [if_pos d]
      congr 1
      rw [Bool.eq_iff_iff, decide_eq_true_eq, decide_eq_true_eq]
      omega
    · rw [if_neg d, decide_eq_false (by omega)]
end Go.Proofs.Ytecnpbjcdkhnaaa.Q
