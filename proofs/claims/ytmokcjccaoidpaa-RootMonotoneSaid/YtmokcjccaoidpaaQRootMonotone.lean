-- PRINTED by print.py (a twelfth state) out of the translation. Not trusted: Lean checks it.
import Derived.Test.YtmokcjccaoidpaaQ0
import Derived.Test.YtmokcjccaoidpaaQbilliardlaw03
import Derived.Test.YtmokcjccaoidpaaQroot
namespace Go.Proofs.Ytmokcjccaoidpaa.Q
open Go.RowKit Go.Proofs.YtmokcjccaoidpaaW.PrintWords Go.Proofs.YtmokcjccaoidpaaW.PrintLast Go.Proofs.YtmokcjccaoidpaaW.PrintMore
attribute [local go_sem] max2_int min2_int max_two min_two max_three min_three max_four min_four   -- for this text's walks alone
set_option linter.unusedVariables false
set_option linter.unusedSimpArgs false

/-! ### billiardlaw03_RootMonotone: function 5 -/
def billiardlaw03_RootMonotone.j0 : Nat → Int → Int → Option (Bool)
  | 0, _, _ => none
  | k + 1, x0, x1 => (root_Isqrt.f k x0).bind fun t126 => ((root_Isqrt.f k x1).bind fun t127 => ((root_Ceil.f k x0).bind fun t128 => (if x0 = 18446744073709551615 then (some (decide (t126 ≤ t127))) else ((root_Isqrt.f k (IntKind.u64.wrap (x0 + 1))).bind fun t129 => (if t126 ≤ t127 then (if t128 ≥ t126 then (if t128 ≤ (IntKind.u64.wrap (t126 + 1)) then (if t129 = t126 then (some true) else (some (t129 == (IntKind.u64.wrap (t126 + 1))))) else (some false)) else (some false)) else (some false))))))
def billiardlaw03_RootMonotone.f (k : Nat) (a0 : Int) (a1 : Int) : Option (Bool) := (billiardlaw03_awake.f k).bind fun t125 => (if t125 = true then (if a0 > a1 then (billiardlaw03_RootMonotone.j0 k a1 a0) else (billiardlaw03_RootMonotone.j0 k a0 a1)) else (some false))
theorem billiardlaw03_RootMonotone.mono_l : ∀ k, (∀ y0 y1, LeO (billiardlaw03_RootMonotone.j0 k y0 y1) (billiardlaw03_RootMonotone.j0 (k + 1) y0 y1))
  | 0 => fun _ _ r h => by simp [billiardlaw03_RootMonotone.j0] at h
  | k + 1 => by
    have ih0 := billiardlaw03_RootMonotone.mono_l k
    · intro y0 y1
      unfold billiardlaw03_RootMonotone.j0
      repeat' first
      | (with_reducible exact ih0 _ _)
      | (with_reducible exact billiardlaw03_awake.mono _)
      | (with_reducible exact root_Ceil.mono _ _)
      | (with_reducible exact root_Isqrt.mono _ _)
      | (with_reducible exact LeO.refl _)
      | (with_reducible exact LeO.none _)
      | (with_reducible refine LeO.ite ?_ ?_)
      | (with_reducible refine LeO.bind ?_ (fun _ => ?_))
      | exact ih0 _ _
      | exact billiardlaw03_awake.mono _
      | exact root_Ceil.mono _ _
      | exact root_Isqrt.mono _ _
      | exact LeO.none _
      | refine LeO.ite ?_ ?_
      | refine LeO.bind ?_ (fun _ => ?_)
theorem billiardlaw03_RootMonotone.mono : ∀ a0 a1 k, LeO (billiardlaw03_RootMonotone.f k a0 a1) (billiardlaw03_RootMonotone.f (k + 1) a0 a1) := by
  intro a0 a1 k
  have ih0 := billiardlaw03_RootMonotone.mono_l k
  unfold billiardlaw03_RootMonotone.f
  repeat' first
      | (with_reducible exact ih0 _ _)
      | (with_reducible exact billiardlaw03_awake.mono _)
      | (with_reducible exact root_Ceil.mono _ _)
      | (with_reducible exact root_Isqrt.mono _ _)
      | (with_reducible exact LeO.refl _)
      | (with_reducible exact LeO.none _)
      | (with_reducible refine LeO.ite ?_ ?_)
      | (with_reducible refine LeO.bind ?_ (fun _ => ?_))
      | exact ih0 _ _
      | exact billiardlaw03_awake.mono _
      | exact root_Ceil.mono _ _
      | exact root_Isqrt.mono _ _
      | exact LeO.none _
      | refine LeO.ite ?_ ?_
      | refine LeO.bind ?_ (fun _ => ?_)
set_option maxHeartbeats 8000000 in
set_option maxRecDepth 100000 in
theorem billiardlaw03_RootMonotone.calls (k : Nat) (a0 : Int) (a1 : Int) (r : Bool) (w : World) (h : billiardlaw03_RootMonotone.f k a0 a1 = some r) :
    Calls Try.prog 5 #[.int .u64 a0, .int .u64 a1] w fun e w' => e = .returned (.bool r) ∧ Drawn0 w w' := by
  have H : ((billiardlaw03_awake.f k).bind fun t125 => (if t125 = true then (if a0 > a1 then (billiardlaw03_RootMonotone.j0 k a1 a0) else (billiardlaw03_RootMonotone.j0 k a0 a1)) else (some false))) = some r := h
  clear h
  replace H := Option.bind_eq_some_iff.mp H
  obtain ⟨t125, A30, H⟩ := H
  replace H : (if t125 = true then (if a0 > a1 then (billiardlaw03_RootMonotone.j0 k a1 a0) else (billiardlaw03_RootMonotone.j0 k a0 a1)) else (some false)) = some r := H
  have A3 := Aside0.mk A30
  clear A30
  by_cases c4 : t125 = true
  · subst c4
    have H1 : (if a0 > a1 then (billiardlaw03_RootMonotone.j0 k a1 a0) else (billiardlaw03_RootMonotone.j0 k a0 a1)) = some r := by rw [if_pos rfl] at H; exact H
    clear H
    have H := H1
    clear H1
    have HC5 := Aside0.mk H
    clear H
    go_enter Try.func5, Try.ntmps5
    go_upto_if 13 with (first | ((with_reducible refine gate_callee (f := 7) rfl ?_); refine goesL_ (some 9) rfl rfl Try.func7 (by kernel_rfl) rfl #[] rfl (by (try simp only [List.map_toArray, List.map_cons, List.map_nil]); first | done | rfl | (simp only [List.length_drop, List.length_take]; rfl)) ?_; (with_reducible refine (billiardlaw03_awake.calls k  true _ A3.out).mono ?_); rintro e w' ⟨rfl, ⟨nd, rfl⟩⟩; refine ⟨_, rfl, ?_⟩))
    (try simp only [Act.put, List.setIfInBounds_toArray, List.set_cons_zero, List.set_cons_succ])
    go_cut [0, 1] (fun v0 v1 wc => ∃ (kq : Nat) (x0_4 : Int) (x1_4 : Int), v0 = .int .u64 x0_4 ∧ v1 = .int .u64 x1_4 ∧ Aside0 (billiardlaw03_RootMonotone.j0 kq x0_4 x1_4 = some r) ∧ Aside0 (kq ≤ k) ∧ Drawn0 w wc)
    case first =>
      have H := HC5.out
      clear HC5
      by_cases c6 : a0 > a1
      · rw [if_pos c6] at H
        have c6b0 : decide (a1 < a0) = true := decide_eq_true c6
        clear c6
        (first | rw [c6b0] | (simp only [i64_w, i32_w]; rw [c6b0]) | skip)
        have H' := Aside0.mk H
        clear H
        go_wp2
        go_meet
        case rel => exact ⟨_, (a1), (a0), (by first | rfl | (simp; done) | (simp [*]; done)), (by first | rfl | (simp; done) | (simp [*]; done)), H', ⟨by first | omega | exact Nat.le_refl _⟩, by repeat (first | exact Drawn0.refl _ | apply Drawn0.step)⟩
      · rw [if_neg c6] at H
        have c6b0 : decide (a1 < a0) = false := decide_eq_false c6
        clear c6
        (first | rw [c6b0] | (simp only [i64_w, i32_w]; rw [c6b0]) | skip)
        have H' := Aside0.mk H
        clear H
        go_wp2
        go_meet
        case rel => exact ⟨_, (a0), (a1), (by first | rfl | (simp; done) | (simp [*]; done)), (by first | rfl | (simp; done) | (simp [*]; done)), H', ⟨by first | omega | exact Nat.le_refl _⟩, by repeat (first | exact Drawn0.refl _ | apply Drawn0.step)⟩
    case rest =>
      clear HC5
      try clear p2
      try clear c4
      try clear c5
      try clear c6
      try clear c6b0
      obtain ⟨kq, x0_4, x1_4, rfl, rfl, HA, HJ4, ⟨mc4, rfl⟩⟩ := hcut
      cases kq with
      | zero => exact absurd HA.out (by simp [billiardlaw03_RootMonotone.j0])
      | succ kj4 =>
        have H := HA.out
        clear HA
        simp only [billiardlaw03_RootMonotone.j0] at H
        replace H := Option.bind_eq_some_iff.mp H
        obtain ⟨t126, A70, H⟩ := H
        replace H : ((root_Isqrt.f kj4 x1_4).bind fun t127 => ((root_Ceil.f kj4 x0_4).bind fun t128 => (if x0_4 = 18446744073709551615 then (some (decide (t126 ≤ t127))) else ((root_Isqrt.f kj4 (IntKind.u64.wrap (x0_4 + 1))).bind fun t129 => (if t126 ≤ t127 then (if t128 ≥ t126 then (if t128 ≤ (IntKind.u64.wrap (t126 + 1)) then (if t129 = t126 then (some true) else (some (t129 == (IntKind.u64.wrap (t126 + 1))))) else (some false)) else (some false)) else (some false)))))) = some r := H
        have A7 := Aside0.mk A70
        clear A70
        replace H := Option.bind_eq_some_iff.mp H
        obtain ⟨t127, A80, H⟩ := H
        replace H : ((root_Ceil.f kj4 x0_4).bind fun t128 => (if x0_4 = 18446744073709551615 then (some (decide (t126 ≤ t127))) else ((root_Isqrt.f kj4 (IntKind.u64.wrap (x0_4 + 1))).bind fun t129 => (if t126 ≤ t127 then (if t128 ≥ t126 then (if t128 ≤ (IntKind.u64.wrap (t126 + 1)) then (if t129 = t126 then (some true) else (some (t129 == (IntKind.u64.wrap (t126 + 1))))) else (some false)) else (some false)) else (some false))))) = some r := H
        have A8 := Aside0.mk A80
        clear A80
        replace H := Option.bind_eq_some_iff.mp H
        obtain ⟨t128, A90, H⟩ := H
        replace H : (if x0_4 = 18446744073709551615 then (some (decide (t126 ≤ t127))) else ((root_Isqrt.f kj4 (IntKind.u64.wrap (x0_4 + 1))).bind fun t129 => (if t126 ≤ t127 then (if t128 ≥ t126 then (if t128 ≤ (IntKind.u64.wrap (t126 + 1)) then (if t129 = t126 then (some true) else (some (t129 == (IntKind.u64.wrap (t126 + 1))))) else (some false)) else (some false)) else (some false)))) = some r := H
        have A9 := Aside0.mk A90
        clear A90
        by_cases c10 : x0_4 = 18446744073709551615
        · rw [if_pos c10] at H
          have c10b0 : (x0_4 == 18446744073709551615) = true := beq_iff_eq.mpr c10
          have c10b1 : (x0_4 != 18446744073709551615) = false := bne_eq_false_iff_eq.mpr c10
          clear c10
          obtain rfl := Option.some.inj H
          go_wp2_with (first | ((with_reducible refine gate_callee (f := 10) rfl ?_); refine goesL_ (some 17) rfl rfl Try.func10 (by kernel_rfl) rfl #[.int .u64 x0_4] rfl (by (try simp only [List.map_toArray, List.map_cons, List.map_nil]); first | done | rfl | (simp only [List.length_drop, List.length_take]; rfl)) ?_; (with_reducible refine (root_Isqrt.calls kj4 x0_4 t126 _ A7.out).mono ?_); rintro e w' ⟨rfl, ⟨nd, rfl⟩⟩; refine ⟨_, rfl, ?_⟩) | ((with_reducible refine gate_callee (f := 10) rfl ?_); refine goesL_ (some 19) rfl rfl Try.func10 (by kernel_rfl) rfl #[.int .u64 x1_4] rfl (by (try simp only [List.map_toArray, List.map_cons, List.map_nil]); first | done | rfl | (simp only [List.length_drop, List.length_take]; rfl)) ?_; (with_reducible refine (root_Isqrt.calls kj4 x1_4 t127 _ A8.out).mono ?_); rintro e w' ⟨rfl, ⟨nd, rfl⟩⟩; refine ⟨_, rfl, ?_⟩) | ((with_reducible refine gate_callee (f := 11) rfl ?_); refine goesL_ (some 21) rfl rfl Try.func11 (by kernel_rfl) rfl #[.int .u64 x0_4] rfl (by (try simp only [List.map_toArray, List.map_cons, List.map_nil]); first | done | rfl | (simp only [List.length_drop, List.length_take]; rfl)) ?_; (with_reducible refine (root_Ceil.calls kj4 x0_4 t128 _ A9.out).mono ?_); rintro e w' ⟨rfl, ⟨nd, rfl⟩⟩; refine ⟨_, rfl, ?_⟩))
          go_ret
          exact ⟨by first | rfl | (simp; done) | (simp [*]; done), by repeat (first | exact Drawn0.refl _ | apply Drawn0.step)⟩
        · rw [if_neg c10] at H
          have c10b0 : (x0_4 == 18446744073709551615) = false := beq_eq_false_iff_ne.mpr c10
          have c10b1 : (x0_4 != 18446744073709551615) = true := bne_iff_ne.mpr c10
          replace H := Option.bind_eq_some_iff.mp H
          obtain ⟨t129, A110, H⟩ := H
          replace H : (if t126 ≤ t127 then (if t128 ≥ t126 then (if t128 ≤ (IntKind.u64.wrap (t126 + 1)) then (if t129 = t126 then (some true) else (some (t129 == (IntKind.u64.wrap (t126 + 1))))) else (some false)) else (some false)) else (some false)) = some r := H
          have A11 := Aside0.mk A110
          clear A110
          by_cases c12 : t126 ≤ t127
          · rw [if_pos c12] at H
            have c12b0 : decide (t126 ≤ t127) = true := decide_eq_true c12
            clear c12
            by_cases c13 : t128 ≥ t126
            · rw [if_pos c13] at H
              have c13b0 : decide (t126 ≤ t128) = true := decide_eq_true c13
              clear c13
              by_cases c14 : t128 ≤ (IntKind.u64.wrap (t126 + 1))
              · rw [if_pos c14] at H
                have c14b0 : decide (t128 ≤ (IntKind.u64.wrap (t126 + 1))) = true := decide_eq_true c14
                clear c14
                by_cases c15 : t129 = t126
                · rw [if_pos c15] at H
                  have c15b0 : (t129 == t126) = true := beq_iff_eq.mpr c15
                  have c15b1 : (t129 != t126) = false := bne_eq_false_iff_eq.mpr c15
                  clear c15
                  obtain rfl := Option.some.inj H
                  go_wp2_with (first | ((with_reducible refine gate_callee (f := 10) rfl ?_); refine goesL_ (some 17) rfl rfl Try.func10 (by kernel_rfl) rfl #[.int .u64 x0_4] rfl (by (try simp only [List.map_toArray, List.map_cons, List.map_nil]); first | done | rfl | (simp only [List.length_drop, List.length_take]; rfl)) ?_; (with_reducible refine (root_Isqrt.calls kj4 x0_4 t126 _ A7.out).mono ?_); rintro e w' ⟨rfl, ⟨nd, rfl⟩⟩; refine ⟨_, rfl, ?_⟩) | ((with_reducible refine gate_callee (f := 10) rfl ?_); refine goesL_ (some 19) rfl rfl Try.func10 (by kernel_rfl) rfl #[.int .u64 x1_4] rfl (by (try simp only [List.map_toArray, List.map_cons, List.map_nil]); first | done | rfl | (simp only [List.length_drop, List.length_take]; rfl)) ?_; (with_reducible refine (root_Isqrt.calls kj4 x1_4 t127 _ A8.out).mono ?_); rintro e w' ⟨rfl, ⟨nd, rfl⟩⟩; refine ⟨_, rfl, ?_⟩) | ((with_reducible refine gate_callee (f := 11) rfl ?_); refine goesL_ (some 21) rfl rfl Try.func11 (by kernel_rfl) rfl #[.int .u64 x0_4] rfl (by (try simp only [List.map_toArray, List.map_cons, List.map_nil]); first | done | rfl | (simp only [List.length_drop, List.length_take]; rfl)) ?_; (with_reducible refine (root_Ceil.calls kj4 x0_4 t128 _ A9.out).mono ?_); rintro e w' ⟨rfl, ⟨nd, rfl⟩⟩; refine ⟨_, rfl, ?_⟩) | ((with_reducible refine gate_callee (f := 10) rfl ?_); refine goesL_ (some 29) rfl rfl Try.func10 (by kernel_rfl) rfl #[.int .u64 (IntKind.u64.wrap (x0_4 + 1))] rfl (by (try simp only [List.map_toArray, List.map_cons, List.map_nil]); first | done | rfl | (simp only [List.length_drop, List.length_take]; rfl)) ?_; (with_reducible refine (root_Isqrt.calls kj4 (IntKind.u64.wrap (x0_4 + 1)) t129 _ A11.out).mono ?_); rintro e w' ⟨rfl, ⟨nd, rfl⟩⟩; refine ⟨_, rfl, ?_⟩))
                  go_ret
                  exact ⟨by first | rfl | (simp; done) | (simp [*]; done), by repeat (first | exact Drawn0.refl _ | apply Drawn0.step)⟩
                · rw [if_neg c15] at H
                  have c15b0 : (t129 == t126) = false := beq_eq_false_iff_ne.mpr c15
                  have c15b1 : (t129 != t126) = true := bne_iff_ne.mpr c15
                  obtain rfl := Option.some.inj H
                  go_wp2_with (first | ((with_reducible refine gate_callee (f := 10) rfl ?_); refine goesL_ (some 17) rfl rfl Try.func10 (by kernel_rfl) rfl #[.int .u64 x0_4] rfl (by (try simp only [List.map_toArray, List.map_cons, List.map_nil]); first | done | rfl | (simp only [List.length_drop, List.length_take]; rfl)) ?_; (with_reducible refine (root_Isqrt.calls kj4 x0_4 t126 _ A7.out).mono ?_); rintro e w' ⟨rfl, ⟨nd, rfl⟩⟩; refine ⟨_, rfl, ?_⟩) | ((with_reducible refine gate_callee (f := 10) rfl ?_); refine goesL_ (some 19) rfl rfl Try.func10 (by kernel_rfl) rfl #[.int .u64 x1_4] rfl (by (try simp only [List.map_toArray, List.map_cons, List.map_nil]); first | done | rfl | (simp only [List.length_drop, List.length_take]; rfl)) ?_; (with_reducible refine (root_Isqrt.calls kj4 x1_4 t127 _ A8.out).mono ?_); rintro e w' ⟨rfl, ⟨nd, rfl⟩⟩; refine ⟨_, rfl, ?_⟩) | ((with_reducible refine gate_callee (f := 11) rfl ?_); refine goesL_ (some 21) rfl rfl Try.func11 (by kernel_rfl) rfl #[.int .u64 x0_4] rfl (by (try simp only [List.map_toArray, List.map_cons, List.map_nil]); first | done | rfl | (simp only [List.length_drop, List.length_take]; rfl)) ?_; (with_reducible refine (root_Ceil.calls kj4 x0_4 t128 _ A9.out).mono ?_); rintro e w' ⟨rfl, ⟨nd, rfl⟩⟩; refine ⟨_, rfl, ?_⟩) | ((with_reducible refine gate_callee (f := 10) rfl ?_); refine goesL_ (some 29) rfl rfl Try.func10 (by kernel_rfl) rfl #[.int .u64 (IntKind.u64.wrap (x0_4 + 1))] rfl (by (try simp only [List.map_toArray, List.map_cons, List.map_nil]); first | done | rfl | (simp only [List.length_drop, List.length_take]; rfl)) ?_; (with_reducible refine (root_Isqrt.calls kj4 (IntKind.u64.wrap (x0_4 + 1)) t129 _ A11.out).mono ?_); rintro e w' ⟨rfl, ⟨nd, rfl⟩⟩; refine ⟨_, rfl, ?_⟩))
                  go_ret
                  exact ⟨by first | rfl | (simp; done) | (simp [*]; done), by repeat (first | exact Drawn0.refl _ | apply Drawn0.step)⟩
              · rw [if_neg c14] at H
                have c14b0 : decide (t128 ≤ (IntKind.u64.wrap (t126 + 1))) = false := decide_eq_false c14
                clear c14
                obtain rfl := Option.some.inj H
                go_wp2_with (first | ((with_reducible refine gate_callee (f := 10) rfl ?_); refine goesL_ (some 17) rfl rfl Try.func10 (by kernel_rfl) rfl #[.int .u64 x0_4] rfl (by (try simp only [List.map_toArray, List.map_cons, List.map_nil]); first | done | rfl | (simp only [List.length_drop, List.length_take]; rfl)) ?_; (with_reducible refine (root_Isqrt.calls kj4 x0_4 t126 _ A7.out).mono ?_); rintro e w' ⟨rfl, ⟨nd, rfl⟩⟩; refine ⟨_, rfl, ?_⟩) | ((with_reducible refine gate_callee (f := 10) rfl ?_); refine goesL_ (some 19) rfl rfl Try.func10 (by kernel_rfl) rfl #[.int .u64 x1_4] rfl (by (try simp only [List.map_toArray, List.map_cons, List.map_nil]); first | done | rfl | (simp only [List.length_drop, List.length_take]; rfl)) ?_; (with_reducible refine (root_Isqrt.calls kj4 x1_4 t127 _ A8.out).mono ?_); rintro e w' ⟨rfl, ⟨nd, rfl⟩⟩; refine ⟨_, rfl, ?_⟩) | ((with_reducible refine gate_callee (f := 11) rfl ?_); refine goesL_ (some 21) rfl rfl Try.func11 (by kernel_rfl) rfl #[.int .u64 x0_4] rfl (by (try simp only [List.map_toArray, List.map_cons, List.map_nil]); first | done | rfl | (simp only [List.length_drop, List.length_take]; rfl)) ?_; (with_reducible refine (root_Ceil.calls kj4 x0_4 t128 _ A9.out).mono ?_); rintro e w' ⟨rfl, ⟨nd, rfl⟩⟩; refine ⟨_, rfl, ?_⟩) | ((with_reducible refine gate_callee (f := 10) rfl ?_); refine goesL_ (some 29) rfl rfl Try.func10 (by kernel_rfl) rfl #[.int .u64 (IntKind.u64.wrap (x0_4 + 1))] rfl (by (try simp only [List.map_toArray, List.map_cons, List.map_nil]); first | done | rfl | (simp only [List.length_drop, List.length_take]; rfl)) ?_; (with_reducible refine (root_Isqrt.calls kj4 (IntKind.u64.wrap (x0_4 + 1)) t129 _ A11.out).mono ?_); rintro e w' ⟨rfl, ⟨nd, rfl⟩⟩; refine ⟨_, rfl, ?_⟩))
                go_ret
                exact ⟨by first | rfl | (simp; done) | (simp [*]; done), by repeat (first | exact Drawn0.refl _ | apply Drawn0.step)⟩
            · rw [if_neg c13] at H
              have c13b0 : decide (t126 ≤ t128) = false := decide_eq_false c13
              clear c13
              obtain rfl := Option.some.inj H
              go_wp2_with (first | ((with_reducible refine gate_callee (f := 10) rfl ?_); refine goesL_ (some 17) rfl rfl Try.func10 (by kernel_rfl) rfl #[.int .u64 x0_4] rfl (by (try simp only [List.map_toArray, List.map_cons, List.map_nil]); first | done | rfl | (simp only [List.length_drop, List.length_take]; rfl)) ?_; (with_reducible refine (root_Isqrt.calls kj4 x0_4 t126 _ A7.out).mono ?_); rintro e w' ⟨rfl, ⟨nd, rfl⟩⟩; refine ⟨_, rfl, ?_⟩) | ((with_reducible refine gate_callee (f := 10) rfl ?_); refine goesL_ (some 19) rfl rfl Try.func10 (by kernel_rfl) rfl #[.int .u64 x1_4] rfl (by (try simp only [List.map_toArray, List.map_cons, List.map_nil]); first | done | rfl | (simp only [List.length_drop, List.length_take]; rfl)) ?_; (with_reducible refine (root_Isqrt.calls kj4 x1_4 t127 _ A8.out).mono ?_); rintro e w' ⟨rfl, ⟨nd, rfl⟩⟩; refine ⟨_, rfl, ?_⟩) | ((with_reducible refine gate_callee (f := 11) rfl ?_); refine goesL_ (some 21) rfl rfl Try.func11 (by kernel_rfl) rfl #[.int .u64 x0_4] rfl (by (try simp only [List.map_toArray, List.map_cons, List.map_nil]); first | done | rfl | (simp only [List.length_drop, List.length_take]; rfl)) ?_; (with_reducible refine (root_Ceil.calls kj4 x0_4 t128 _ A9.out).mono ?_); rintro e w' ⟨rfl, ⟨nd, rfl⟩⟩; refine ⟨_, rfl, ?_⟩) | ((with_reducible refine gate_callee (f := 10) rfl ?_); refine goesL_ (some 29) rfl rfl Try.func10 (by kernel_rfl) rfl #[.int .u64 (IntKind.u64.wrap (x0_4 + 1))] rfl (by (try simp only [List.map_toArray, List.map_cons, List.map_nil]); first | done | rfl | (simp only [List.length_drop, List.length_take]; rfl)) ?_; (with_reducible refine (root_Isqrt.calls kj4 (IntKind.u64.wrap (x0_4 + 1)) t129 _ A11.out).mono ?_); rintro e w' ⟨rfl, ⟨nd, rfl⟩⟩; refine ⟨_, rfl, ?_⟩))
              go_ret
              exact ⟨by first | rfl | (simp; done) | (simp [*]; done), by repeat (first | exact Drawn0.refl _ | apply Drawn0.step)⟩
          · rw [if_neg c12] at H
            have c12b0 : decide (t126 ≤ t127) = false := decide_eq_false c12
            clear c12
            obtain rfl := Option.some.inj H
            go_wp2_with (first | ((with_reducible refine gate_callee (f := 10) rfl ?_); refine goesL_ (some 17) rfl rfl Try.func10 (by kernel_rfl) rfl #[.int .u64 x0_4] rfl (by (try simp only [List.map_toArray, List.map_cons, List.map_nil]); first | done | rfl | (simp only [List.length_drop, List.length_take]; rfl)) ?_; (with_reducible refine (root_Isqrt.calls kj4 x0_4 t126 _ A7.out).mono ?_); rintro e w' ⟨rfl, ⟨nd, rfl⟩⟩; refine ⟨_, rfl, ?_⟩) | ((with_reducible refine gate_callee (f := 10) rfl ?_); refine goesL_ (some 19) rfl rfl Try.func10 (by kernel_rfl) rfl #[.int .u64 x1_4] rfl (by (try simp only [List.map_toArray, List.map_cons, List.map_nil]); first | done | rfl | (simp only [List.length_drop, List.length_take]; rfl)) ?_; (with_reducible refine (root_Isqrt.calls kj4 x1_4 t127 _ A8.out).mono ?_); rintro e w' ⟨rfl, ⟨nd, rfl⟩⟩; refine ⟨_, rfl, ?_⟩) | ((with_reducible refine gate_callee (f := 11) rfl ?_); refine goesL_ (some 21) rfl rfl Try.func11 (by kernel_rfl) rfl #[.int .u64 x0_4] rfl (by (try simp only [List.map_toArray, List.map_cons, List.map_nil]); first | done | rfl | (simp only [List.length_drop, List.length_take]; rfl)) ?_; (with_reducible refine (root_Ceil.calls kj4 x0_4 t128 _ A9.out).mono ?_); rintro e w' ⟨rfl, ⟨nd, rfl⟩⟩; refine ⟨_, rfl, ?_⟩) | ((with_reducible refine gate_callee (f := 10) rfl ?_); refine goesL_ (some 29) rfl rfl Try.func10 (by kernel_rfl) rfl #[.int .u64 (IntKind.u64.wrap (x0_4 + 1))] rfl (by (try simp only [List.map_toArray, List.map_cons, List.map_nil]); first | done | rfl | (simp only [List.length_drop, List.length_take]; rfl)) ?_; (with_reducible refine (root_Isqrt.calls kj4 (IntKind.u64.wrap (x0_4 + 1)) t129 _ A11.out).mono ?_); rintro e w' ⟨rfl, ⟨nd, rfl⟩⟩; refine ⟨_, rfl, ?_⟩))
            go_ret
            exact ⟨by first | rfl | (simp; done) | (simp [*]; done), by repeat (first | exact Drawn0.refl _ | apply Drawn0.step)⟩
  · replace c4 := Bool.eq_false_iff.mpr c4
    subst c4
    have H1 : (some false) = some r := by rw [if_neg (show ¬ (false = true) by decide)] at H; exact H
    clear H
    have H := H1
    clear H1
    obtain rfl := Option.some.inj H
    go_enter Try.func5, Try.ntmps5
    go_wp2_with (first | ((with_reducible refine gate_callee (f := 7) rfl ?_); refine goesL_ (some 9) rfl rfl Try.func7 (by kernel_rfl) rfl #[] rfl (by (try simp only [List.map_toArray, List.map_cons, List.map_nil]); first | done | rfl | (simp only [List.length_drop, List.length_take]; rfl)) ?_; (with_reducible refine (billiardlaw03_awake.calls k  false _ A3.out).mono ?_); rintro e w' ⟨rfl, ⟨nd, rfl⟩⟩; refine ⟨_, rfl, ?_⟩))
    go_ret
    exact ⟨by first | rfl | (simp; done) | (simp [*]; done), by repeat (first | exact Drawn0.refl _ | apply Drawn0.step)⟩

/-- THE ONE PURE STATEMENT of billiardlaw03_RootMonotone: yours. -/
def billiardlaw03_RootMonotone.Pure : Prop := ∀ (a0 : Int) (a1 : Int), (Lit.int .u64 a0).wf = true → (Lit.int .u64 a1).wf = true → ∃ k, billiardlaw03_RootMonotone.f k a0 a1 = some true
theorem billiardlaw03_RootMonotone.walk (P : billiardlaw03_RootMonotone.Pure) (a0 : Int) (a1 : Int) (w : World) (w0 : (Lit.int .u64 a0).wf = true) (w1 : (Lit.int .u64 a1).wf = true) :
    Calls Try.prog 5 #[.int .u64 a0, .int .u64 a1] w fun e w' => e = .returned (.bool true) ∧ Below w.heap.size w w' := by
  obtain ⟨k, h⟩ := P a0 a1 w0 w1
  refine (billiardlaw03_RootMonotone.calls k a0 a1 true w h).mono ?_
  rintro e w' ⟨rfl, hd⟩
  exact ⟨rfl, hd.below⟩

end Go.Proofs.Ytmokcjccaoidpaa.Q
