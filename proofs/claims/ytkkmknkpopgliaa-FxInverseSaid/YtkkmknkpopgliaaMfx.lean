/- What the functions of fx and of their reference answer, in plain numbers. -/
import Derived.Test.YtkkmknkpopgliaaQfx
import Derived.Test.YtkkmknkpopgliaaMnum
import Derived.Test.YtkkmknkpopgliaaQbilliardref02
namespace Go.Proofs.Ytkkmknkpopgliaa.Q
open Go.RowKit Go.Proofs.YtkkmknkpopgliaaW.PrintWords Go.Proofs.YtkkmknkpopgliaaW.PrintLast Go.Proofs.YtkkmknkpopgliaaW.PrintMore
set_option linter.unusedVariables false

theorem fx_Add.is {a b : Int} (ha : -2147483648 ≤ a ∧ a ≤ 2147483647) (hb : -2147483648 ≤ b ∧ b ≤ 2147483647) : fx_Add.f a b = some (sat32 (a + b)) := by
  unfold fx_Add.f; rw [if_pos ⟨i32B_iff.mpr ha, i32B_iff.mpr hb⟩]
theorem fx_Sub.is {a b : Int} (ha : -2147483648 ≤ a ∧ a ≤ 2147483647) (hb : -2147483648 ≤ b ∧ b ≤ 2147483647) : fx_Sub.f a b = some (sat32 (a - b)) := by
  unfold fx_Sub.f; rw [if_pos ⟨i32B_iff.mpr ha, i32B_iff.mpr hb⟩]
theorem fx_Neg.is {a : Int} (ha : -2147483648 ≤ a ∧ a ≤ 2147483647) : fx_Neg.f a = some (sat32 (0 - a)) := by
  unfold fx_Neg.f
  rw [fx_Sub.is (by decide) ha]
  rfl
theorem fx_Abs.is {a : Int} (ha : -2147483648 ≤ a ∧ a ≤ 2147483647) : fx_Abs.f a = some (sat32 (mg a)) := by
  unfold fx_Abs.f mg
  by_cases c : a < 0
  · rw [if_pos c, if_pos c, fx_Neg.is ha]
    simp
  · rw [if_neg c, if_neg c, sat32_id ha]
theorem fx_Mul.is {a b : Int} (ha : -2147483648 ≤ a ∧ a ≤ 2147483647) (hb : -2147483648 ≤ b ∧ b ≤ 2147483647) : fx_Mul.f a b = some (sat32 (a * b / 65536)) := by
  unfold fx_Mul.f; rw [if_pos ⟨i32B_iff.mpr ha, i32B_iff.mpr hb⟩]
theorem fx_Saturate.is (a : Int) : fx_Saturate.f a = some (sat32 a) := rfl
/-- The nearest number from -l to l. -/
def lim (n l : Int) : Int := mx (-l) (mn n l)
theorem fx_Limit.is {a l : Int} (h0 : -9223372036854775807 ≤ l) (h1 : l ≤ 9223372036854775807) : fx_Limit.f a l = some (lim a l, (lim a l != a)) := by
  unfold fx_Limit.f lim
  rw [w64_id (n := -l) (by omega) (by omega)]
def fromInt (n : Int) : Int := sat32 (lim n 65536 * 65536)
theorem lim_bd (n : Int) : -65536 ≤ lim n 65536 ∧ lim n 65536 ≤ 65536 := by unfold lim mx mn; omega
theorem fx_FromInt.is (n : Int) : fx_FromInt.f n = some (fromInt n) := by
  unfold fx_FromInt.f
  rw [fx_Limit.is (by decide) (by decide)]
  have := lim_bd n
  simp only [Option.bind_some]
  rw [fx_Saturate.is, w64_id (by omega) (by omega)]
  rfl
theorem fromInt_eq (n : Int) : fromInt n = if n ≥ 32768 then 2147483647 else if n ≤ -32768 then -2147483648 else n * 65536 := by
  unfold fromInt sat32 lim mx mn
  split <;> (try split) <;> omega
/-- The quotient of fixed-point numbers, and the error. -/
def divS (a b : Int) : Int × Int := if b = 0 then (0, 2) else (sat32 (fl (a * 65536) b), 0)
theorem fl_bd {n d m : Int} (hd : d ≠ 0) (h0 : -m ≤ n) (h1 : n ≤ m) : -m ≤ fl n d ∧ fl n d ≤ m := by
  unfold fl
  by_cases c : 0 < d
  · rw [if_pos c]
    refine ⟨(Int.le_ediv_iff_mul_le c).mpr ?_, Int.ediv_le_of_le_mul c ?_⟩
    · have : -m * d ≤ -m * 1 := Int.mul_le_mul_of_nonpos_left (by omega) (by omega)
      omega
    · have : m * 1 ≤ m * d := Int.mul_le_mul_of_nonneg_left (by omega) (by omega)
      omega
  · rw [if_neg c]
    have c2 : 0 < -d := by omega
    refine ⟨(Int.le_ediv_iff_mul_le c2).mpr ?_, Int.ediv_le_of_le_mul c2 ?_⟩
    · have : -m * -d ≤ -m * 1 := Int.mul_le_mul_of_nonpos_left (by omega) (by omega)
      omega
    · have : m * 1 ≤ m * -d := Int.mul_le_mul_of_nonneg_left (by omega) (by omega)
      omega
theorem fx_Div.is {a b : Int} (ha : -2147483648 ≤ a ∧ a ≤ 2147483647) (hb : -2147483648 ≤ b ∧ b ≤ 2147483647) : fx_Div.f a b = some (divS a b) := by
  unfold fx_Div.f wide_MulDiv.f mulDivS divS
  rw [w64_id (n := a) (by omega) (by omega), w64_id (n := b) (by omega) (by omega), if_pos ⟨i64B_iff.mpr (by omega), by decide, i64B_iff.mpr (by omega)⟩]
  by_cases c : b = 0
  · rw [if_pos c, if_pos c]
    rfl
  · have h := fl_bd (n := a * 65536) (d := b) (m := 140737488355328) c (by omega) (by omega)
    rw [if_neg c, if_neg c, if_pos (i64B_iff.mpr (by omega))]
    rfl
theorem billiardref02_Saturate.is (a : Int) : billiardref02_Saturate.f a = some (sat32 a) := by
  unfold billiardref02_Saturate.f sat32 mx mn
  by_cases c : a > 2147483647
  · rw [if_pos c]; congr 1; omega
  · rw [if_neg c]
    by_cases d : a < -2147483648
    · rw [if_pos d]; congr 1; omega
    · rw [if_neg d, w32_id (by omega) (by omega)]; congr 1; omega
theorem billiardref01_Floor.is {a b : Int} (hb : 0 < b) (ha0 : -9223372036854775807 ≤ a) (ha1 : a ≤ 9223372036854775807) : billiardref01_Floor.f a b = some (a / b) := floor_wrap hb ha0 ha1
theorem billiardref02_Mul.is {a b : Int} (ha : -2147483648 ≤ a ∧ a ≤ 2147483647) (hb : -2147483648 ≤ b ∧ b ≤ 2147483647) : billiardref02_Mul.f a b = some (sat32 (a * b / 65536)) := by
  unfold billiardref02_Mul.f
  have := mul_i32 ha hb
  rw [prod_i32 ha hb, billiardref01_Floor.is (by decide) (by omega) (by omega)]
  simp only [Option.bind_some]
  rw [billiardref02_Saturate.is]
  rfl
theorem billiardref02_Div.is {a b : Int} (ha : -2147483648 ≤ a ∧ a ≤ 2147483647) (hb : -2147483648 ≤ b ∧ b ≤ 2147483647) : billiardref02_Div.f a b = some (divS a b) := by
  unfold billiardref02_Div.f divS
  by_cases c : b = 0
  · rw [if_pos c, if_pos c]
  · rw [if_neg c, if_neg c, w64_id (n := a) (by omega) (by omega), w64_id (n := b) (by omega) (by omega), w64_id (n := a * 65536) (by omega) (by omega), w64_id (n := -(a * 65536)) (by omega) (by omega), w64_id (n := -b) (by omega) (by omega)]
    by_cases d : b < 0
    · rw [if_pos d, billiardref01_Floor.is (by omega) (by omega) (by omega)]
      simp only [Option.bind_some]
      rw [billiardref02_Saturate.is]
      simp only [Option.bind_some, fl]
      rw [if_neg (by omega)]
    · rw [if_neg d, billiardref01_Floor.is (by omega) (by omega) (by omega)]
      simp only [Option.bind_some]
      rw [billiardref02_Saturate.is]
      simp only [Option.bind_some, fl]
      rw [if_pos (by omega)]
theorem billiardref02_FromInt.is (n : Int) : billiardref02_FromInt.f n = some (fromInt n) := by
  rw [fromInt_eq]
  unfold billiardref02_FromInt.f
  by_cases c : n ≥ 32768
  · rw [if_pos c, if_pos c]
  · rw [if_neg c, if_neg c]
    by_cases d : n ≤ -32768
    · rw [if_pos d, if_pos d]
    · rw [if_neg d, if_neg d, w64_id (by omega) (by omega), w32_id (by omega) (by omega)]
theorem billiardref02_Limit.is {n l : Int} (h0 : 0 ≤ l) (h1 : l ≤ 9223372036854775807) : billiardref02_Limit.f n l = some (lim n l) := by
  unfold billiardref02_Limit.f lim mx mn
  rw [w64_id (n := -l) (by omega) (by omega)]
  by_cases c : n > l
  · rw [if_pos c]; congr 1; omega
  · rw [if_neg c]
    by_cases d : n < -l
    · rw [if_pos d]; congr 1; omega
    · rw [if_neg d]; congr 1; omega
end Go.Proofs.Ytkkmknkpopgliaa.Q
