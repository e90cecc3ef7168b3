/- What wide.MulShift returns, and that the examples of the document's chapter 1 hold. -/
import Derived.Test.YtcbdcgghccjdpaaQwide
import Derived.Test.YtcbdcgghccjdpaaMspec
namespace Go.Proofs.Ytcbdcgghccjdpaa.Q
open Go.RowKit Go.Proofs.YtcbdcgghccjdpaaW.PrintWords Go.Proofs.YtcbdcgghccjdpaaW.PrintLast Go.Proofs.YtcbdcgghccjdpaaW.PrintMore
set_option linter.unusedVariables false
theorem or_low {i : Nat} {y x : Int} (hy0 : 0 ≤ y) (hy : y < 2 ^ i) (hy1 : y ≤ 18446744073709551615) (hx0 : 0 ≤ x) (hx : x % 2 ^ i = 0) (hx1 : x ≤ 18446744073709551615) : bits .or .u64 y x = y + x := by
  have h := or_join i hx0 hx hx1 hy0 hy hy1
  obtain ⟨a, rfl⟩ := Int.eq_ofNat_of_zero_le hx0
  obtain ⟨b, rfl⟩ := Int.eq_ofNat_of_zero_le hy0
  have ha : a < 2 ^ 64 := by omega
  have hb : b < 2 ^ 64 := by omega
  rw [(bits_nat .u64 64 (by decide) wraps_u64 a b ha hb).2] at h
  rw [(bits_nat .u64 64 (by decide) wraps_u64 b a hb ha).2, Nat.or_comm, h]
  omega
theorem pow_halves : ∀ s : Fin 64, (2 : Int) ^ s.val * 2 ^ (64 - s.val) = 18446744073709551616 ∧ (1 : Int) ≤ 2 ^ s.val ∧ (1 : Int) ≤ 2 ^ (64 - s.val) := by decide +kernel
/-- The floor of a product by a power of two, in halves of 64 bits. -/
theorem shift_halves {A B h l : Int} (hA : 1 ≤ A) (hB : 1 ≤ B) (hAB : A * B = 18446744073709551616) (hl0 : 0 ≤ l) (hl1 : l ≤ 18446744073709551615) :
    (h * 18446744073709551616 + l) / A = h * B + l / A ∧ 0 ≤ l / A ∧ l / A < B ∧ (h * B) % 18446744073709551616 = (h % A) * B ∧ 0 ≤ (h % A) * B ∧ (h % A) * B + B ≤ 18446744073709551616 := by
  have a0 : A ≠ 0 := by omega
  have e1 : h * 18446744073709551616 + l = l + h * B * A := by rw [← hAB, Int.mul_comm A B, ← Int.mul_assoc]; omega
  have r0 := Int.emod_nonneg h a0
  have r1 := Int.emod_lt_of_pos h (show 0 < A by omega)
  have p0 : 0 ≤ (h % A) * B := Int.mul_nonneg r0 (by omega)
  have p1 : (h % A) * B + B ≤ 18446744073709551616 := by
    have := Int.mul_le_mul_of_nonneg_right (show h % A + 1 ≤ A by omega) (show 0 ≤ B by omega)
    rw [hAB, Int.add_mul, Int.one_mul] at this
    exact this
  have e2 : h * B = (h / A) * 18446744073709551616 + (h % A) * B := by
    have := Int.emod_add_mul_ediv h A
    rw [← hAB]
    calc h * B = (h % A + A * (h / A)) * B := by rw [this]
      _ = _ := by grind
  refine ⟨?_, Int.ediv_nonneg hl0 (by omega), ?_, ?_, p0, p1⟩
  · rw [e1, Int.add_mul_ediv_right _ _ a0]; omega
  · exact Int.ediv_lt_of_lt_mul (by omega) (by rw [Int.mul_comm, hAB]; omega)
  · exact (div_uniq (n := h * B) (d := 18446744073709551616) (q := h / A) (r := (h % A) * B) p0 (by omega) e2).2
theorem range_halves (F : Int) : (F / 18446744073709551616 = wrap64 F / 9223372036854775808) ↔ i64B F = true := by
  rw [i64B_iff]
  unfold wrap64
  omega
theorem range_id {F : Int} (h : i64B F = true) : wrap64 F = F := by
  rw [i64B_iff] at h
  exact w64_id h.1 h.2
theorem wrap64_mod (F : Int) : wrap64 (F % 18446744073709551616) = wrap64 F := by unfold wrap64; omega
theorem shr_at {k : IntKind} (x : Int) (m : Nat) (hm : m ≤ k.bits) : shr k x (m : Int) = x / 2 ^ m := by
  unfold shr
  rw [Int.toNat_natCast, Nat.min_eq_left hm]
theorem shl_at {k : IntKind} (x : Int) (m : Nat) (hm : m ≤ k.bits) : shl k x (m : Int) = k.wrap (x * 2 ^ m) := by
  unfold shl
  rw [Int.toNat_natCast, Nat.min_eq_left hm]
/-- The shift's answer. -/
def shiftS (a b n : Int) : Int × Int := if 0 ≤ n ∧ n ≤ 63 then (if i64B (a * b / 2 ^ n.toNat) = true then (a * b / 2 ^ n.toNat, 0) else (0, 3)) else (0, 1)
theorem wide_Mul.is {a b : Int} (ha : -9223372036854775808 ≤ a ∧ a ≤ 9223372036854775807) (hb : -9223372036854775808 ≤ b ∧ b ≤ 9223372036854775807) : wide_Mul.f a b = some (hi64 (a * b), lo64 (a * b)) := by
  unfold wide_Mul.f
  rw [if_pos ⟨i64B_iff.mpr ha, i64B_iff.mpr hb⟩]
theorem wide_MulDiv.is {a b c : Int} (ha : -9223372036854775808 ≤ a ∧ a ≤ 9223372036854775807) (hb : -9223372036854775808 ≤ b ∧ b ≤ 9223372036854775807) (hc : -9223372036854775808 ≤ c ∧ c ≤ 9223372036854775807) : wide_MulDiv.f a b c = some (mulDivS a b c) := by
  unfold wide_MulDiv.f
  rw [if_pos ⟨i64B_iff.mpr ha, i64B_iff.mpr hb, i64B_iff.mpr hc⟩]
theorem wide_MulShift.at {a b : Int} (ha : -9223372036854775808 ≤ a ∧ a ≤ 9223372036854775807) (hb : -9223372036854775808 ≤ b ∧ b ≤ 9223372036854775807) (m : Nat) (hm : m ≤ 63) (k : Nat) :
    wide_MulShift.j0 (k + 1) a b (m : Int) false = some (if i64B (a * b / 2 ^ m) = true then (a * b / 2 ^ m, 0) else (0, 3)) := by
  simp only [wide_MulShift.j0]
  rw [wide_Mul.is ha hb]
  generalize a * b = P
  have w1 : wrap64 (64 - (m : Int)) = ((64 - m : Nat) : Int) := by rw [w64_id (by omega) (by omega)]; omega
  have w2 : IntKind.u64.wrap (m : Int) = (m : Int) := u64_id (by omega) (by omega)
  have w3 : IntKind.u64.wrap ((64 - m : Nat) : Int) = ((64 - m : Nat) : Int) := u64_id (by omega) (by omega)
  simp only [Option.bind_some, w1, w2, w3]
  rw [if_neg (by decide), if_pos (by omega), if_pos (by omega), shr_at _ m (by simp [IntKind.bits]; omega), shr_at _ m (by simp [IntKind.bits]; omega), shl_at _ (64 - m) (by simp [IntKind.bits])]
  have hP : P = hi64 P * 18446744073709551616 + lo64 P := by unfold hi64 lo64; omega
  have hl := lo64_bd P
  generalize hi64 P = h at *
  generalize lo64 P = l at *
  obtain ⟨hAB, hA, hB⟩ := pow_halves ⟨m, by omega⟩
  simp only at hAB hA hB
  obtain ⟨s1, s2, s3, s4, s5, s6⟩ := shift_halves (h := h) hA hB hAB hl.1 hl.2
  rw [← hP] at s1
  have g1 : h / 2 ^ m = P / 2 ^ m / 18446744073709551616 := by
    rw [s1, ← hAB, Int.mul_comm (2 ^ m) (2 ^ (64 - m)), ← Int.ediv_ediv_of_nonneg (by omega), Int.add_comm, Int.add_mul_ediv_right _ _ (by omega), Int.ediv_eq_zero_of_lt s2 s3, Int.zero_add]
  have g2 : m ≠ 0 → wrap64 (bits .or .u64 (l / 2 ^ m) (IntKind.u64.wrap (IntKind.u64.wrap h * 2 ^ (64 - m)))) = wrap64 (P / 2 ^ m) := by
    intro hm0
    have e : IntKind.u64.wrap (IntKind.u64.wrap h * 2 ^ (64 - m)) = h % 2 ^ m * 2 ^ (64 - m) := by
      rw [IntKind.wrap_u64, IntKind.wrap_u64, ← s4, Int.mul_emod, Int.emod_emod, ← Int.mul_emod]
    rw [e, or_low (i := 64 - m) s2 s3 (by omega) s5 (Int.mul_emod_left _ _) (by omega), ← wrap64_mod (P / 2 ^ m), s1]
    have e2 : (h * 2 ^ (64 - m) + l / 2 ^ m) % 18446744073709551616 = h % 2 ^ m * 2 ^ (64 - m) + l / 2 ^ m := by omega
    rw [e2, Int.add_comm]
  have fin : ∀ L, L = wrap64 (P / 2 ^ m) → (if h / 2 ^ m = L / 9223372036854775808 then (some (L, 0) : Option (Int × Int)) else some (0, 3)) = some (if i64B (P / 2 ^ m) = true then (P / 2 ^ m, 0) else (0, 3)) := by
    intro L hL
    subst hL
    rw [g1]
    by_cases c : i64B (P / 2 ^ m) = true
    · rw [if_pos ((range_halves _).mpr c), if_pos c, range_id c]
    · rw [if_neg (fun x => c ((range_halves _).mp x)), if_neg c]
  by_cases hm0 : m = 0
  · subst hm0
    rw [if_pos (by omega)]
    refine fin _ ?_
    rw [hP]
    simp only [Int.pow_zero, Int.ediv_one]
    unfold wrap64
    omega
  · rw [if_neg (by omega)]
    exact fin _ (g2 hm0)
theorem wide_MulShift.is {a b n : Int} (ha : -9223372036854775808 ≤ a ∧ a ≤ 9223372036854775807) (hb : -9223372036854775808 ≤ b ∧ b ≤ 9223372036854775807) (k : Nat) :
    wide_MulShift.f (k + 1) a b n = some (shiftS a b n) := by
  unfold wide_MulShift.f shiftS
  by_cases h0 : n < 0
  · rw [if_pos h0, if_neg (by omega)]
    simp [wide_MulShift.j0]
  · rw [if_neg h0]
    by_cases h1 : n ≥ 64
    · rw [decide_eq_true h1, if_neg (by omega)]
      simp [wide_MulShift.j0]
    · rw [decide_eq_false h1, if_pos (by omega)]
      obtain ⟨m, rfl⟩ : ∃ m : Nat, n = m := ⟨n.toNat, by omega⟩
      rw [wide_MulShift.at ha hb m (by omega) k, Int.toNat_natCast]
end Go.Proofs.Ytcbdcgghccjdpaa.Q
