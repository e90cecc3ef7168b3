/- Shifting is dividing by the power of two, and shifting by 0 is the product itself. No condition. -/
import Derived.Test.YtecnpbjcdkhnaaaQWideShifts
import Derived.Test.YtecnpbjcdkhnaaaMlaw01
namespace Go.Proofs.Ytecnpbjcdkhnaaa.Pure
open Go.RowKit Go.Proofs.Ytecnpbjcdkhnaaa.Q Go.Proofs.YtecnpbjcdkhnaaaW.PrintWords Go.Proofs.YtecnpbjcdkhnaaaW.PrintLast Go.Proofs.YtecnpbjcdkhnaaaW.PrintMore
set_option linter.unusedVariables false

theorem WideShifts : billiardlaw01_WideShifts.Pure := by
  intro a b n wa wb wn
  have ha := wf_i64 wa
  have hb := wf_i64 wb
  have hn := wf_u8 wn
  refine ⟨1, ?_⟩
  unfold billiardlaw01_WideShifts.f
  have e0 : Int.tmod (wrap64 n) 62 = n % 62 := by rw [w64_id (n := n) (by omega) (by omega), Int.tmod_eq_emod_of_nonneg hn.1]
  rw [e0]
  obtain ⟨m, hm⟩ : ∃ m : Nat, n % 62 = m := ⟨(n % 62).toNat, by omega⟩
  have hm2 : m ≤ 61 := by omega
  rw [hm, u64_id (n := (m : Int)) (by omega) (by omega)]
  have hp := pow_halves ⟨m, by omega⟩
  have hs : ∀ s : Fin 62, (2 : Int) ^ s.val ≤ 9223372036854775807 := by decide +kernel
  have hs1 := hs ⟨m, by omega⟩
  simp only at hp hs1
  have e1 : shl .i64 1 (m : Int) = 2 ^ m := by
    rw [shl_at _ m (by simp [IntKind.bits]; omega), Int.one_mul, i64_w]
    exact w64_id (by omega) hs1
  rw [e1, billiardlaw01_awake.yes, wide_MulShift.is ha hb, wide_MulShift.is ha hb, wide_MulDiv.is ha hb ⟨by omega, hs1⟩, wide_Mul.is ha hb]
  have e2 : mulDivS a b (2 ^ m) = shiftS a b m := by
    have e3 : shiftS a b m = if i64B (a * b / 2 ^ m) = true then (a * b / 2 ^ m, 0) else (0, 3) := by
      unfold shiftS
      rw [if_pos (by omega), Int.toNat_natCast]
    rw [e3]
    unfold mulDivS
    rw [if_neg (by omega), fl_pow]
  rw [e2]
  have e3 : shiftS a b 0 = if i64B (a * b) = true then (a * b, 0) else (0, 3) := by
    unfold shiftS
    rw [if_pos (by decide)]
    simp
  rw [e3]
  simp only [Option.bind_some, if_true]
  rw [if_pos (by omega)]
  generalize a * b = P at *
  by_cases c : i64B P = true
  · have h := i64B_iff.mp c
    have u : IntKind.u64.wrap P = lo64 P := by rw [IntKind.wrap_u64]; rfl
    rw [if_pos c]
    by_cases s : 0 ≤ P
    · have h1 : hi64 P = 0 := by unfold hi64; omega
      have h2 : lo64 P < 9223372036854775808 := by unfold lo64; omega
      simp [h1, h2, u]
    · have h1 : hi64 P = -1 := by unfold hi64; omega
      have h2 : 9223372036854775808 ≤ lo64 P := by unfold lo64; omega
      simp [h1, h2, u]
  · have h : ¬ (-9223372036854775808 ≤ P ∧ P ≤ 9223372036854775807) := fun x => c (i64B_iff.mpr x)
    rw [if_neg c]
    by_cases s : hi64 P = 0
    · have h2 : ¬ lo64 P < 9223372036854775808 := by unfold hi64 lo64 at *; omega
      simp [s, h2]
    · by_cases t : hi64 P = -1
      · have h2 : ¬ 9223372036854775808 ≤ lo64 P := by unfold hi64 lo64 at *; omega
        have h3 : decide (9223372036854775808 ≤ lo64 P) = false := decide_eq_false h2
        simp [t, h3]
      · simp [s, t]

end Go.Proofs.Ytecnpbjcdkhnaaa.Pure
