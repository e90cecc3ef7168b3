-- PRINTED by print.py (a twelfth state) out of the translation. Not trusted: Lean checks it.
import Derived.Test.YtabcnaceffpekaaQ0
namespace Go.Proofs.Ytabcnaceffpekaa.Q
open Go.RowKit Go.Proofs.YtabcnaceffpekaaW.PrintWords Go.Proofs.YtabcnaceffpekaaW.PrintLast Go.Proofs.YtabcnaceffpekaaW.PrintMore
attribute [local go_sem] max2_int min2_int max_two min_two max_three min_three max_four min_four   -- for this text's walks alone
set_option linter.unusedVariables false
set_option linter.unusedSimpArgs false

/-! ### root_Isqrt: function 46 -/
def root_Isqrt.l0 : Nat → Int → Int → Int → Option (Int)
  | 0, _, _, _ => none
  | k + 1, x3, x4, x8 => if x8 < 32 then (if 0 ≤ (wrap64 (2 * x8)) then (if x3 ≥ (IntKind.u64.wrap (x4 + (shr .u64 4611686018427387904 (wrap64 (2 * x8))))) then (root_Isqrt.l0 k (IntKind.u64.wrap (x3 - (IntKind.u64.wrap (x4 + (shr .u64 4611686018427387904 (wrap64 (2 * x8))))))) (IntKind.u64.wrap ((x4 / 2) + (shr .u64 4611686018427387904 (wrap64 (2 * x8))))) (wrap64 (x8 + 1))) else (root_Isqrt.l0 k x3 (x4 / 2) (wrap64 (x8 + 1)))) else (none)) else (some x4)
def root_Isqrt.f (k : Nat) (a0 : Int) : Option (Int) := root_Isqrt.l0 k a0 0 0
theorem root_Isqrt.mono_l : ∀ k, (∀ y0 y1 y2, LeO (root_Isqrt.l0 k y0 y1 y2) (root_Isqrt.l0 (k + 1) y0 y1 y2))
  | 0 => fun _ _ _ r h => by simp [root_Isqrt.l0] at h
  | k + 1 => by
    have ih0 := root_Isqrt.mono_l k
    · intro y0 y1 y2
      unfold root_Isqrt.l0
      repeat' first
      | (with_reducible exact ih0 _ _ _)
      | (with_reducible exact LeO.refl _)
      | (with_reducible exact LeO.none _)
      | (with_reducible refine LeO.ite ?_ ?_)
      | (with_reducible refine LeO.bind ?_ (fun _ => ?_))
      | exact ih0 _ _ _
      | exact LeO.none _
      | refine LeO.ite ?_ ?_
      | refine LeO.bind ?_ (fun _ => ?_)
theorem root_Isqrt.mono : ∀ a0 k, LeO (root_Isqrt.f k a0) (root_Isqrt.f (k + 1) a0) := by
  intro a0 k
  have ih0 := root_Isqrt.mono_l k
  unfold root_Isqrt.f
  repeat' first
      | (with_reducible exact ih0 _ _ _)
      | (with_reducible exact LeO.refl _)
      | (with_reducible exact LeO.none _)
      | (with_reducible refine LeO.ite ?_ ?_)
      | (with_reducible refine LeO.bind ?_ (fun _ => ?_))
      | exact ih0 _ _ _
      | exact LeO.none _
      | refine LeO.ite ?_ ?_
      | refine LeO.bind ?_ (fun _ => ?_)
set_option maxHeartbeats 8000000 in
set_option maxRecDepth 100000 in
theorem root_Isqrt.calls (k : Nat) (a0 : Int) (r : Int) (w : World) (h : root_Isqrt.f k a0 = some r) :
    Calls Try.prog 46 #[.int .u64 a0] w fun e w' => e = .returned (.int .u64 r) ∧ Drawn0 w w' := by
  have H : (root_Isqrt.l0 k a0 0 0) = some r := h
  clear h
  have H' := Aside0.mk H
  clear H
  go_enter Try.func46, Try.ntmps46
  go_wp2
  go_loopg [3, 4, 8] k (fun kq v3 v4 v8 w' => ∃ (x3_1 : Int) (x4_1 : Int) (x8_1 : Int), v3 = .int .u64 x3_1 ∧ v4 = .int .u64 x4_1 ∧ v8 = .int .i64 x8_1 ∧ Aside0 (root_Isqrt.l0 kq x3_1 x4_1 x8_1 = some r) ∧ Aside0 (kq ≤ k) ∧ Drawn0 w w')
  case atStart => exact ⟨(a0), (0), (0), (by first | rfl | (simp; done) | (simp [*]; done)), (by first | rfl | (simp; done) | (simp [*]; done)), (by first | rfl | (simp; done) | (simp [*]; done)), H', ⟨Nat.le_refl _⟩, by repeat (first | exact Drawn0.refl _ | apply Drawn0.step)⟩
  case round =>
    clear H'
    obtain ⟨x3_1, x4_1, x8_1, rfl, rfl, rfl, HA, HK1, ⟨m1, rfl⟩⟩ := hrel
    cases gk with
    | zero => exact absurd HA.out (by simp [root_Isqrt.l0])
    | succ k1 =>
      have H := HA.out
      clear HA
      simp only [root_Isqrt.l0] at H
      by_cases c2 : x8_1 < 32
      · rw [if_pos c2] at H
        have c2b0 : decide (x8_1 < 32) = true := decide_eq_true c2
        clear c2
        obtain ⟨ji3, hji3⟩ : ∃ j_ : Int, (wrap64 (2 * x8_1)) = j_ := ⟨_, rfl⟩
        replace H : (if 0 ≤ (ji3) then (if x3_1 ≥ (IntKind.u64.wrap (x4_1 + (shr .u64 4611686018427387904 (ji3)))) then (root_Isqrt.l0 k1 (IntKind.u64.wrap (x3_1 - (IntKind.u64.wrap (x4_1 + (shr .u64 4611686018427387904 (ji3)))))) (IntKind.u64.wrap ((x4_1 / 2) + (shr .u64 4611686018427387904 (ji3)))) (wrap64 (x8_1 + 1))) else (root_Isqrt.l0 k1 x3_1 (x4_1 / 2) (wrap64 (x8_1 + 1)))) else (none)) = some r := by first | (rw [hji3] at H; exact H) | (simp only [hji3] at H ⊢; exact H)
        have hji3w : (IntKind.i64.wrap (2 * x8_1)) = ji3 := (i64_w _).trans hji3
        by_cases c4 : 0 ≤ (ji3)
        · rw [if_pos c4] at H
          have c4b0 := eq_true c4
          have c4b1 : decide (0 ≤ (ji3)) = true := decide_eq_true c4
          clear c4
          obtain ⟨ji5, hji5⟩ : ∃ j_ : Int, (shr .u64 4611686018427387904 (ji3)) = j_ := ⟨_, rfl⟩
          replace H : (if x3_1 ≥ (IntKind.u64.wrap (x4_1 + (ji5))) then (root_Isqrt.l0 k1 (IntKind.u64.wrap (x3_1 - (IntKind.u64.wrap (x4_1 + (ji5))))) (IntKind.u64.wrap ((x4_1 / 2) + (ji5))) (wrap64 (x8_1 + 1))) else (root_Isqrt.l0 k1 x3_1 (x4_1 / 2) (wrap64 (x8_1 + 1)))) = some r := by first | (rw [hji5] at H; exact H) | (simp only [hji5] at H ⊢; exact H)
          have hji5_ : (4611686018427387904 / 2 ^ min (ji3).toNat 64) = ji5 := hji5
          have hji5z : (ji3) ≤ 64 → (4611686018427387904 / 2 ^ (ji3).toNat) = ji5 := shr_small hji5
          by_cases c6 : x3_1 ≥ (IntKind.u64.wrap (x4_1 + (ji5)))
          · rw [if_pos c6] at H
            have c6b0 : decide ((IntKind.u64.wrap (x4_1 + (ji5))) ≤ x3_1) = true := decide_eq_true c6
            clear c6
            have H' := Aside0.mk H
            clear H
            go_wp2
            go_roundg k1
            case measure => have := HK1.out; omega
            case rel => exact ⟨(IntKind.u64.wrap (x3_1 - (IntKind.u64.wrap (x4_1 + (ji5))))), (IntKind.u64.wrap ((x4_1 / 2) + (ji5))), (wrap64 (x8_1 + 1)), (by first | rfl | (simp; done) | (simp only [← hji5] <;> (first | rfl | simp)) | (simp [*]; done)), (by first | rfl | (simp; done) | (simp only [← hji5] <;> (first | rfl | simp)) | (simp [*]; done)), (by first | rfl | (simp; done) | (simp [*]; done)), H', ⟨by have := HK1.out; omega⟩, by repeat (first | exact Drawn0.refl _ | apply Drawn0.step)⟩
          · rw [if_neg c6] at H
            have c6b0 : decide ((IntKind.u64.wrap (x4_1 + (ji5))) ≤ x3_1) = false := decide_eq_false c6
            clear c6
            have H' := Aside0.mk H
            clear H
            go_wp2
            go_roundg k1
            case measure => have := HK1.out; omega
            case rel => exact ⟨(x3_1), (x4_1 / 2), (wrap64 (x8_1 + 1)), (by first | rfl | (simp; done) | (simp [*]; done)), (by first | rfl | (simp; done) | (simp [*]; done)), (by first | rfl | (simp; done) | (simp [*]; done)), H', ⟨by have := HK1.out; omega⟩, by repeat (first | exact Drawn0.refl _ | apply Drawn0.step)⟩
        · rw [if_neg c4] at H
          exact absurd H (by simp)
      · rw [if_neg c2] at H
        have c2b0 : decide (x8_1 < 32) = false := decide_eq_false c2
        clear c2
        obtain rfl := Option.some.inj H
        go_wp2
        go_ret
        exact ⟨by first | rfl | (simp; done) | (simp [*]; done), by repeat (first | exact Drawn0.refl _ | apply Drawn0.step)⟩

end Go.Proofs.Ytabcnaceffpekaa.Q
