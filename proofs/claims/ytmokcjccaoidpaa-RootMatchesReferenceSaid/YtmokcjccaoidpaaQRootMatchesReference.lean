-- PRINTED by print.py (a twelfth state) out of the translation. Not trusted: Lean checks it.
import Derived.Test.YtmokcjccaoidpaaQ0
import Derived.Test.YtmokcjccaoidpaaQbilliardlaw03
import Derived.Test.YtmokcjccaoidpaaQbilliardref03
import Derived.Test.YtmokcjccaoidpaaQroot
namespace Go.Proofs.Ytmokcjccaoidpaa.Q
open Go.RowKit Go.Proofs.YtmokcjccaoidpaaW.PrintWords Go.Proofs.YtmokcjccaoidpaaW.PrintLast Go.Proofs.YtmokcjccaoidpaaW.PrintMore
attribute [local go_sem] max2_int min2_int max_two min_two max_three min_three max_four min_four   -- for this text's walks alone
set_option linter.unusedVariables false
set_option linter.unusedSimpArgs false

/-! ### billiardlaw03_RootMatchesReference: function 3 -/
def billiardlaw03_RootMatchesReference.j0 : Nat → Int → Bool → Option (Bool)
  | 0, _, _ => none
  | k + 1, x0, x40 => if x40 = true then (some false) else ((root_Isqrt.f k x0).bind fun t117 => ((billiardref03_Isqrt.f k x0).bind fun t118 => (if t117 = t118 then ((root_Ceil.f k x0).bind fun t119 => ((billiardref03_Ceil.f k x0).bind fun t120 => (some (t119 == t120)))) else (some false))))
def billiardlaw03_RootMatchesReference.f (k : Nat) (a0 : Int) (a1 : Int) : Option (Bool) := (billiardlaw03_awake.f k).bind fun t112 => (if t112 = true then ((root_Sqrt.f k a1).bind fun bt113 => (if a1 < 0 then (if bt113.1 = 0 then (if bt113.2 = 1 then (if a1 ≥ 0 then (if bt113.2 = 0 then ((billiardref03_Isqrt.f k (IntKind.u64.wrap ((IntKind.u64.wrap (a1)) * 65536))).bind fun t115 => (billiardlaw03_RootMatchesReference.j0 k a0 ((IntKind.u64.wrap (bt113.1)) != t115))) else (billiardlaw03_RootMatchesReference.j0 k a0 true)) else (billiardlaw03_RootMatchesReference.j0 k a0 false)) else (billiardlaw03_RootMatchesReference.j0 k a0 true)) else (billiardlaw03_RootMatchesReference.j0 k a0 true)) else (if a1 ≥ 0 then (if bt113.2 = 0 then ((billiardref03_Isqrt.f k (IntKind.u64.wrap ((IntKind.u64.wrap (a1)) * 65536))).bind fun t116 => (billiardlaw03_RootMatchesReference.j0 k a0 ((IntKind.u64.wrap (bt113.1)) != t116))) else (billiardlaw03_RootMatchesReference.j0 k a0 true)) else (billiardlaw03_RootMatchesReference.j0 k a0 false)))) else (some false))
theorem billiardlaw03_RootMatchesReference.mono_l : ∀ k, (∀ y0 y1, LeO (billiardlaw03_RootMatchesReference.j0 k y0 y1) (billiardlaw03_RootMatchesReference.j0 (k + 1) y0 y1))
  | 0 => fun _ _ r h => by simp [billiardlaw03_RootMatchesReference.j0] at h
  | k + 1 => by
    have ih0 := billiardlaw03_RootMatchesReference.mono_l k
    · intro y0 y1
      unfold billiardlaw03_RootMatchesReference.j0
      repeat' first
      | (with_reducible exact ih0 _ _)
      | (with_reducible exact billiardlaw03_awake.mono _)
      | (with_reducible exact billiardref03_Ceil.mono _ _)
      | (with_reducible exact billiardref03_Isqrt.mono _ _)
      | (with_reducible exact root_Ceil.mono _ _)
      | (with_reducible exact root_Isqrt.mono _ _)
      | (with_reducible exact root_Sqrt.mono _ _)
      | (with_reducible exact LeO.refl _)
      | (with_reducible exact LeO.none _)
      | (with_reducible refine LeO.ite ?_ ?_)
      | (with_reducible refine LeO.bind ?_ (fun _ => ?_))
      | exact ih0 _ _
      | exact billiardlaw03_awake.mono _
      | exact billiardref03_Ceil.mono _ _
      | exact billiardref03_Isqrt.mono _ _
      | exact root_Ceil.mono _ _
      | exact root_Isqrt.mono _ _
      | exact root_Sqrt.mono _ _
      | exact LeO.none _
      | refine LeO.ite ?_ ?_
      | refine LeO.bind ?_ (fun _ => ?_)
theorem billiardlaw03_RootMatchesReference.mono : ∀ a0 a1 k, LeO (billiardlaw03_RootMatchesReference.f k a0 a1) (billiardlaw03_RootMatchesReference.f (k + 1) a0 a1) := by
  intro a0 a1 k
  have ih0 := billiardlaw03_RootMatchesReference.mono_l k
  unfold billiardlaw03_RootMatchesReference.f
  repeat' first
      | (with_reducible exact ih0 _ _)
      | (with_reducible exact billiardlaw03_awake.mono _)
      | (with_reducible exact billiardref03_Ceil.mono _ _)
      | (with_reducible exact billiardref03_Isqrt.mono _ _)
      | (with_reducible exact root_Ceil.mono _ _)
      | (with_reducible exact root_Isqrt.mono _ _)
      | (with_reducible exact root_Sqrt.mono _ _)
      | (with_reducible exact LeO.refl _)
      | (with_reducible exact LeO.none _)
      | (with_reducible refine LeO.ite ?_ ?_)
      | (with_reducible refine LeO.bind ?_ (fun _ => ?_))
      | exact ih0 _ _
      | exact billiardlaw03_awake.mono _
      | exact billiardref03_Ceil.mono _ _
      | exact billiardref03_Isqrt.mono _ _
      | exact root_Ceil.mono _ _
      | exact root_Isqrt.mono _ _
      | exact root_Sqrt.mono _ _
      | exact LeO.none _
      | refine LeO.ite ?_ ?_
      | refine LeO.bind ?_ (fun _ => ?_)
set_option maxHeartbeats 8000000 in
set_option maxRecDepth 100000 in
theorem billiardlaw03_RootMatchesReference.calls (k : Nat) (a0 : Int) (a1 : Int) (r : Bool) (w : World) (h : billiardlaw03_RootMatchesReference.f k a0 a1 = some r) :
    Calls Try.prog 3 #[.int .u64 a0, .int .i32 a1] w fun e w' => e = .returned (.bool r) ∧ Drawn0 w w' := by
  have H : ((billiardlaw03_awake.f k).bind fun t112 => (if t112 = true then ((root_Sqrt.f k a1).bind fun bt113 => (if a1 < 0 then (if bt113.1 = 0 then (if bt113.2 = 1 then (if a1 ≥ 0 then (if bt113.2 = 0 then ((billiardref03_Isqrt.f k (IntKind.u64.wrap ((IntKind.u64.wrap (a1)) * 65536))).bind fun t115 => (billiardlaw03_RootMatchesReference.j0 k a0 ((IntKind.u64.wrap (bt113.1)) != t115))) else (billiardlaw03_RootMatchesReference.j0 k a0 true)) else (billiardlaw03_RootMatchesReference.j0 k a0 false)) else (billiardlaw03_RootMatchesReference.j0 k a0 true)) else (billiardlaw03_RootMatchesReference.j0 k a0 true)) else (if a1 ≥ 0 then (if bt113.2 = 0 then ((billiardref03_Isqrt.f k (IntKind.u64.wrap ((IntKind.u64.wrap (a1)) * 65536))).bind fun t116 => (billiardlaw03_RootMatchesReference.j0 k a0 ((IntKind.u64.wrap (bt113.1)) != t116))) else (billiardlaw03_RootMatchesReference.j0 k a0 true)) else (billiardlaw03_RootMatchesReference.j0 k a0 false)))) else (some false))) = some r := h
  clear h
  replace H := Option.bind_eq_some_iff.mp H
  obtain ⟨t112, A30, H⟩ := H
  replace H : (if t112 = true then ((root_Sqrt.f k a1).bind fun bt113 => (if a1 < 0 then (if bt113.1 = 0 then (if bt113.2 = 1 then (if a1 ≥ 0 then (if bt113.2 = 0 then ((billiardref03_Isqrt.f k (IntKind.u64.wrap ((IntKind.u64.wrap (a1)) * 65536))).bind fun t115 => (billiardlaw03_RootMatchesReference.j0 k a0 ((IntKind.u64.wrap (bt113.1)) != t115))) else (billiardlaw03_RootMatchesReference.j0 k a0 true)) else (billiardlaw03_RootMatchesReference.j0 k a0 false)) else (billiardlaw03_RootMatchesReference.j0 k a0 true)) else (billiardlaw03_RootMatchesReference.j0 k a0 true)) else (if a1 ≥ 0 then (if bt113.2 = 0 then ((billiardref03_Isqrt.f k (IntKind.u64.wrap ((IntKind.u64.wrap (a1)) * 65536))).bind fun t116 => (billiardlaw03_RootMatchesReference.j0 k a0 ((IntKind.u64.wrap (bt113.1)) != t116))) else (billiardlaw03_RootMatchesReference.j0 k a0 true)) else (billiardlaw03_RootMatchesReference.j0 k a0 false)))) else (some false)) = some r := H
  have A3 := Aside0.mk A30
  clear A30
  by_cases c4 : t112 = true
  · subst c4
    have H1 : ((root_Sqrt.f k a1).bind fun bt113 => (if a1 < 0 then (if bt113.1 = 0 then (if bt113.2 = 1 then (if a1 ≥ 0 then (if bt113.2 = 0 then ((billiardref03_Isqrt.f k (IntKind.u64.wrap ((IntKind.u64.wrap (a1)) * 65536))).bind fun t115 => (billiardlaw03_RootMatchesReference.j0 k a0 ((IntKind.u64.wrap (bt113.1)) != t115))) else (billiardlaw03_RootMatchesReference.j0 k a0 true)) else (billiardlaw03_RootMatchesReference.j0 k a0 false)) else (billiardlaw03_RootMatchesReference.j0 k a0 true)) else (billiardlaw03_RootMatchesReference.j0 k a0 true)) else (if a1 ≥ 0 then (if bt113.2 = 0 then ((billiardref03_Isqrt.f k (IntKind.u64.wrap ((IntKind.u64.wrap (a1)) * 65536))).bind fun t116 => (billiardlaw03_RootMatchesReference.j0 k a0 ((IntKind.u64.wrap (bt113.1)) != t116))) else (billiardlaw03_RootMatchesReference.j0 k a0 true)) else (billiardlaw03_RootMatchesReference.j0 k a0 false)))) = some r := by rw [if_pos rfl] at H; exact H
    clear H
    have H := H1
    clear H1
    replace H := Option.bind_eq_some_iff.mp H
    obtain ⟨⟨t113, t114⟩, A50, H⟩ := H
    replace H : (if a1 < 0 then (if t113 = 0 then (if t114 = 1 then (if a1 ≥ 0 then (if t114 = 0 then ((billiardref03_Isqrt.f k (IntKind.u64.wrap ((IntKind.u64.wrap (a1)) * 65536))).bind fun t115 => (billiardlaw03_RootMatchesReference.j0 k a0 ((IntKind.u64.wrap (t113)) != t115))) else (billiardlaw03_RootMatchesReference.j0 k a0 true)) else (billiardlaw03_RootMatchesReference.j0 k a0 false)) else (billiardlaw03_RootMatchesReference.j0 k a0 true)) else (billiardlaw03_RootMatchesReference.j0 k a0 true)) else (if a1 ≥ 0 then (if t114 = 0 then ((billiardref03_Isqrt.f k (IntKind.u64.wrap ((IntKind.u64.wrap (a1)) * 65536))).bind fun t116 => (billiardlaw03_RootMatchesReference.j0 k a0 ((IntKind.u64.wrap (t113)) != t116))) else (billiardlaw03_RootMatchesReference.j0 k a0 true)) else (billiardlaw03_RootMatchesReference.j0 k a0 false))) = some r := H
    have A5 := Aside0.mk A50
    clear A50
    have HC6 := Aside0.mk H
    clear H
    go_enter Try.func3, Try.ntmps3
    go_upto_region 4 with (first | ((with_reducible refine gate_callee (f := 7) rfl ?_); refine goesL_ (some 7) rfl rfl Try.func7 (by kernel_rfl) rfl #[] rfl (by (try simp only [List.map_toArray, List.map_cons, List.map_nil]); first | done | rfl | (simp only [List.length_drop, List.length_take]; rfl)) ?_; (with_reducible refine (billiardlaw03_awake.calls k  true _ A3.out).mono ?_); rintro e w' ⟨rfl, ⟨nd, rfl⟩⟩; refine ⟨_, rfl, ?_⟩) | ((with_reducible refine gate_callee (f := 8) rfl ?_); refine goesL_ (some 11) rfl rfl Try.func8 (by kernel_rfl) rfl #[.int .i32 a1] rfl (by (try simp only [List.map_toArray, List.map_cons, List.map_nil]); first | done | rfl | (simp only [List.length_drop, List.length_take]; rfl)) ?_; (with_reducible refine (root_Sqrt.calls k a1 t113 t114 _ A5.out).mono ?_); rintro e w' ⟨rfl, ⟨nd, rfl⟩⟩; refine ⟨_, rfl, ?_⟩))
    (try simp only [Act.put, List.setIfInBounds_toArray, List.set_cons_zero, List.set_cons_succ])
    go_cut [40] (fun v40 wc => ∃ (kq : Nat) (x40_5 : Bool), v40 = .bool x40_5 ∧ Aside0 (billiardlaw03_RootMatchesReference.j0 kq a0 x40_5 = some r) ∧ Aside0 (kq ≤ k) ∧ Drawn0 w wc)
    case first =>
      have H := HC6.out
      clear HC6
      by_cases c7 : a1 < 0
      · rw [if_pos c7] at H
        have c7b0 : decide (a1 < 0) = true := decide_eq_true c7
        clear c7
        (first | rw [c7b0] | (simp only [i64_w, i32_w]; rw [c7b0]) | skip)
        by_cases c8 : t113 = 0
        · rw [if_pos c8] at H
          have c8b0 : (t113 == 0) = true := beq_iff_eq.mpr c8
          have c8b1 : (t113 != 0) = false := bne_eq_false_iff_eq.mpr c8
          clear c8
          by_cases c9 : t114 = 1
          · rw [if_pos c9] at H
            have c9b0 : (t114 == 1) = true := beq_iff_eq.mpr c9
            have c9b1 : (t114 != 1) = false := bne_eq_false_iff_eq.mpr c9
            clear c9
            by_cases c10 : a1 ≥ 0
            · rw [if_pos c10] at H
              have c10b0 : decide (0 ≤ a1) = true := decide_eq_true c10
              clear c10
              by_cases c11 : t114 = 0
              · rw [if_pos c11] at H
                have c11b0 : (t114 == 0) = true := beq_iff_eq.mpr c11
                have c11b1 : (t114 != 0) = false := bne_eq_false_iff_eq.mpr c11
                clear c11
                replace H := Option.bind_eq_some_iff.mp H
                obtain ⟨t115, A120, H⟩ := H
                replace H : (billiardlaw03_RootMatchesReference.j0 k a0 ((IntKind.u64.wrap (t113)) != t115)) = some r := H
                have A12 := Aside0.mk A120
                clear A120
                have H' := Aside0.mk H
                clear H
                go_wp2_with (first | (go_at_call 9; (with_reducible refine (billiardref03_Isqrt.calls k (IntKind.u64.wrap ((IntKind.u64.wrap (a1)) * 65536)) t115 _ A12.out).mono ?_); rintro e w' ⟨rfl, ⟨nd, rfl⟩⟩))
                go_meet
                case rel => exact ⟨_, (((IntKind.u64.wrap (t113)) != t115)), (by first | rfl | (simp; done) | (simp [*]; done)), H', ⟨by first | omega | exact Nat.le_refl _⟩, by repeat (first | exact Drawn0.refl _ | apply Drawn0.step)⟩
              · rw [if_neg c11] at H
                have c11b0 : (t114 == 0) = false := beq_eq_false_iff_ne.mpr c11
                have c11b1 : (t114 != 0) = true := bne_iff_ne.mpr c11
                have H' := Aside0.mk H
                clear H
                go_wp2
                go_meet
                case rel => exact ⟨_, (true), (by first | rfl | (simp; done) | (simp [*]; done)), H', ⟨by first | omega | exact Nat.le_refl _⟩, by repeat (first | exact Drawn0.refl _ | apply Drawn0.step)⟩
            · rw [if_neg c10] at H
              have c10b0 : decide (0 ≤ a1) = false := decide_eq_false c10
              clear c10
              have H' := Aside0.mk H
              clear H
              go_wp2
              go_meet
              case rel => exact ⟨_, (false), (by first | rfl | (simp; done) | (simp [*]; done)), H', ⟨by first | omega | exact Nat.le_refl _⟩, by repeat (first | exact Drawn0.refl _ | apply Drawn0.step)⟩
          · rw [if_neg c9] at H
            have c9b0 : (t114 == 1) = false := beq_eq_false_iff_ne.mpr c9
            have c9b1 : (t114 != 1) = true := bne_iff_ne.mpr c9
            have H' := Aside0.mk H
            clear H
            go_wp2
            go_meet
            case rel => exact ⟨_, (true), (by first | rfl | (simp; done) | (simp [*]; done)), H', ⟨by first | omega | exact Nat.le_refl _⟩, by repeat (first | exact Drawn0.refl _ | apply Drawn0.step)⟩
        · rw [if_neg c8] at H
          have c8b0 : (t113 == 0) = false := beq_eq_false_iff_ne.mpr c8
          have c8b1 : (t113 != 0) = true := bne_iff_ne.mpr c8
          have H' := Aside0.mk H
          clear H
          go_wp2
          go_meet
          case rel => exact ⟨_, (true), (by first | rfl | (simp; done) | (simp [*]; done)), H', ⟨by first | omega | exact Nat.le_refl _⟩, by repeat (first | exact Drawn0.refl _ | apply Drawn0.step)⟩
      · rw [if_neg c7] at H
        have c7b0 : decide (a1 < 0) = false := decide_eq_false c7
        clear c7
        (first | rw [c7b0] | (simp only [i64_w, i32_w]; rw [c7b0]) | skip)
        by_cases c13 : a1 ≥ 0
        · rw [if_pos c13] at H
          have c13b0 : decide (0 ≤ a1) = true := decide_eq_true c13
          clear c13
          by_cases c14 : t114 = 0
          · rw [if_pos c14] at H
            have c14b0 : (t114 == 0) = true := beq_iff_eq.mpr c14
            have c14b1 : (t114 != 0) = false := bne_eq_false_iff_eq.mpr c14
            clear c14
            replace H := Option.bind_eq_some_iff.mp H
            obtain ⟨t116, A150, H⟩ := H
            replace H : (billiardlaw03_RootMatchesReference.j0 k a0 ((IntKind.u64.wrap (t113)) != t116)) = some r := H
            have A15 := Aside0.mk A150
            clear A150
            have H' := Aside0.mk H
            clear H
            go_wp2_with (first | (go_at_call 9; (with_reducible refine (billiardref03_Isqrt.calls k (IntKind.u64.wrap ((IntKind.u64.wrap (a1)) * 65536)) t116 _ A15.out).mono ?_); rintro e w' ⟨rfl, ⟨nd, rfl⟩⟩))
            go_meet
            case rel => exact ⟨_, (((IntKind.u64.wrap (t113)) != t116)), (by first | rfl | (simp; done) | (simp [*]; done)), H', ⟨by first | omega | exact Nat.le_refl _⟩, by repeat (first | exact Drawn0.refl _ | apply Drawn0.step)⟩
          · rw [if_neg c14] at H
            have c14b0 : (t114 == 0) = false := beq_eq_false_iff_ne.mpr c14
            have c14b1 : (t114 != 0) = true := bne_iff_ne.mpr c14
            have H' := Aside0.mk H
            clear H
            go_wp2
            go_meet
            case rel => exact ⟨_, (true), (by first | rfl | (simp; done) | (simp [*]; done)), H', ⟨by first | omega | exact Nat.le_refl _⟩, by repeat (first | exact Drawn0.refl _ | apply Drawn0.step)⟩
        · rw [if_neg c13] at H
          have c13b0 : decide (0 ≤ a1) = false := decide_eq_false c13
          clear c13
          have H' := Aside0.mk H
          clear H
          go_wp2
          go_meet
          case rel => exact ⟨_, (false), (by first | rfl | (simp; done) | (simp [*]; done)), H', ⟨by first | omega | exact Nat.le_refl _⟩, by repeat (first | exact Drawn0.refl _ | apply Drawn0.step)⟩
    case rest =>
      clear HC6
      try clear c1
      try clear p2
      try clear c3
      try clear c4
      try clear c7
      try clear c7b0
      try clear c8
      try clear c8b0
      try clear c8b1
      try clear c9
      try clear c9b0
      try clear c9b1
      try clear c10
      try clear c10b0
      try clear c11
      try clear c11b0
      try clear c11b1
      try clear c13
      try clear c13b0
      try clear c14
      try clear c14b0
      try clear c14b1
      obtain ⟨kq, x40_5, rfl, HA, HJ5, ⟨mc5, rfl⟩⟩ := hcut
      cases kq with
      | zero => exact absurd HA.out (by simp [billiardlaw03_RootMatchesReference.j0])
      | succ kj5 =>
        have H := HA.out
        clear HA
        simp only [billiardlaw03_RootMatchesReference.j0] at H
        by_cases c16 : x40_5 = true
        · subst c16
          have H1 : (some false) = some r := by rw [if_pos rfl] at H; exact H
          clear H
          have H := H1
          clear H1
          obtain rfl := Option.some.inj H
          go_wp2
          go_ret
          exact ⟨by first | rfl | (simp; done) | (simp [*]; done), by repeat (first | exact Drawn0.refl _ | apply Drawn0.step)⟩
        · replace c16 := Bool.eq_false_iff.mpr c16
          subst c16
          have H1 : ((root_Isqrt.f kj5 a0).bind fun t117 => ((billiardref03_Isqrt.f kj5 a0).bind fun t118 => (if t117 = t118 then ((root_Ceil.f kj5 a0).bind fun t119 => ((billiardref03_Ceil.f kj5 a0).bind fun t120 => (some (t119 == t120)))) else (some false)))) = some r := by rw [if_neg (show ¬ (false = true) by decide)] at H; exact H
          clear H
          have H := H1
          clear H1
          replace H := Option.bind_eq_some_iff.mp H
          obtain ⟨t117, A170, H⟩ := H
          replace H : ((billiardref03_Isqrt.f kj5 a0).bind fun t118 => (if t117 = t118 then ((root_Ceil.f kj5 a0).bind fun t119 => ((billiardref03_Ceil.f kj5 a0).bind fun t120 => (some (t119 == t120)))) else (some false))) = some r := H
          have A17 := Aside0.mk A170
          clear A170
          replace H := Option.bind_eq_some_iff.mp H
          obtain ⟨t118, A180, H⟩ := H
          replace H : (if t117 = t118 then ((root_Ceil.f kj5 a0).bind fun t119 => ((billiardref03_Ceil.f kj5 a0).bind fun t120 => (some (t119 == t120)))) else (some false)) = some r := H
          have A18 := Aside0.mk A180
          clear A180
          by_cases c19 : t117 = t118
          · rw [if_pos c19] at H
            have c19b0 : (t117 == t118) = true := beq_iff_eq.mpr c19
            have c19b1 : (t117 != t118) = false := bne_eq_false_iff_eq.mpr c19
            clear c19
            replace H := Option.bind_eq_some_iff.mp H
            obtain ⟨t119, A200, H⟩ := H
            replace H : ((billiardref03_Ceil.f kj5 a0).bind fun t120 => (some (t119 == t120))) = some r := H
            have A20 := Aside0.mk A200
            clear A200
            replace H := Option.bind_eq_some_iff.mp H
            obtain ⟨t120, A210, H⟩ := H
            replace H : (some (t119 == t120)) = some r := H
            have A21 := Aside0.mk A210
            clear A210
            obtain rfl := Option.some.inj H
            go_wp2_with (first | ((with_reducible refine gate_callee (f := 10) rfl ?_); refine goesL_ (some 42) rfl rfl Try.func10 (by kernel_rfl) rfl #[.int .u64 a0] rfl (by (try simp only [List.map_toArray, List.map_cons, List.map_nil]); first | done | rfl | (simp only [List.length_drop, List.length_take]; rfl)) ?_; (with_reducible refine (root_Isqrt.calls kj5 a0 t117 _ A17.out).mono ?_); rintro e w' ⟨rfl, ⟨nd, rfl⟩⟩; refine ⟨_, rfl, ?_⟩) | ((with_reducible refine gate_callee (f := 9) rfl ?_); refine goesL_ (some 44) rfl rfl Try.func9 (by kernel_rfl) rfl #[.int .u64 a0] rfl (by (try simp only [List.map_toArray, List.map_cons, List.map_nil]); first | done | rfl | (simp only [List.length_drop, List.length_take]; rfl)) ?_; (with_reducible refine (billiardref03_Isqrt.calls kj5 a0 t118 _ A18.out).mono ?_); rintro e w' ⟨rfl, ⟨nd, rfl⟩⟩; refine ⟨_, rfl, ?_⟩) | (go_at_call 11; (with_reducible refine (root_Ceil.calls kj5 a0 t119 _ A20.out).mono ?_); rintro e w' ⟨rfl, ⟨nd, rfl⟩⟩) | (go_at_call 12; (with_reducible refine (billiardref03_Ceil.calls kj5 a0 t120 _ A21.out).mono ?_); rintro e w' ⟨rfl, ⟨nd, rfl⟩⟩))
            go_ret
            exact ⟨by first | rfl | (simp; done) | (simp [*]; done), by repeat (first | exact Drawn0.refl _ | apply Drawn0.step)⟩
          · rw [if_neg c19] at H
            have c19b0 : (t117 == t118) = false := beq_eq_false_iff_ne.mpr c19
            have c19b1 : (t117 != t118) = true := bne_iff_ne.mpr c19
            obtain rfl := Option.some.inj H
            go_wp2_with (first | ((with_reducible refine gate_callee (f := 10) rfl ?_); refine goesL_ (some 42) rfl rfl Try.func10 (by kernel_rfl) rfl #[.int .u64 a0] rfl (by (try simp only [List.map_toArray, List.map_cons, List.map_nil]); first | done | rfl | (simp only [List.length_drop, List.length_take]; rfl)) ?_; (with_reducible refine (root_Isqrt.calls kj5 a0 t117 _ A17.out).mono ?_); rintro e w' ⟨rfl, ⟨nd, rfl⟩⟩; refine ⟨_, rfl, ?_⟩) | ((with_reducible refine gate_callee (f := 9) rfl ?_); refine goesL_ (some 44) rfl rfl Try.func9 (by kernel_rfl) rfl #[.int .u64 a0] rfl (by (try simp only [List.map_toArray, List.map_cons, List.map_nil]); first | done | rfl | (simp only [List.length_drop, List.length_take]; rfl)) ?_; (with_reducible refine (billiardref03_Isqrt.calls kj5 a0 t118 _ A18.out).mono ?_); rintro e w' ⟨rfl, ⟨nd, rfl⟩⟩; refine ⟨_, rfl, ?_⟩))
            go_ret
            exact ⟨by first | rfl | (simp; done) | (simp [*]; done), by repeat (first | exact Drawn0.refl _ | apply Drawn0.step)⟩
  · replace c4 := Bool.eq_false_iff.mpr c4
    subst c4
    have H1 : (some false) = some r := by rw [if_neg (show ¬ (false = true) by decide)] at H; exact H
    clear H
    have H := H1
    clear H1
    obtain rfl := Option.some.inj H
    go_enter Try.func3, Try.ntmps3
    go_wp2_with (first | ((with_reducible refine gate_callee (f := 7) rfl ?_); refine goesL_ (some 7) rfl rfl Try.func7 (by kernel_rfl) rfl #[] rfl (by (try simp only [List.map_toArray, List.map_cons, List.map_nil]); first | done | rfl | (simp only [List.length_drop, List.length_take]; rfl)) ?_; (with_reducible refine (billiardlaw03_awake.calls k  false _ A3.out).mono ?_); rintro e w' ⟨rfl, ⟨nd, rfl⟩⟩; refine ⟨_, rfl, ?_⟩))
    go_ret
    exact ⟨by first | rfl | (simp; done) | (simp [*]; done), by repeat (first | exact Drawn0.refl _ | apply Drawn0.step)⟩

/-- THE ONE PURE STATEMENT of billiardlaw03_RootMatchesReference: yours. -/
def billiardlaw03_RootMatchesReference.Pure : Prop := ∀ (a0 : Int) (a1 : Int), (Lit.int .u64 a0).wf = true → (Lit.int .i32 a1).wf = true → ∃ k, billiardlaw03_RootMatchesReference.f k a0 a1 = some true
theorem billiardlaw03_RootMatchesReference.walk (P : billiardlaw03_RootMatchesReference.Pure) (a0 : Int) (a1 : Int) (w : World) (w0 : (Lit.int .u64 a0).wf = true) (w1 : (Lit.int .i32 a1).wf = true) :
    Calls Try.prog 3 #[.int .u64 a0, .int .i32 a1] w fun e w' => e = .returned (.bool true) ∧ Below w.heap.size w w' := by
  obtain ⟨k, h⟩ := P a0 a1 w0 w1
  refine (billiardlaw03_RootMatchesReference.calls k a0 a1 true w h).mono ?_
  rintro e w' ⟨rfl, hd⟩
  exact ⟨rfl, hd.below⟩

end Go.Proofs.Ytmokcjccaoidpaa.Q
