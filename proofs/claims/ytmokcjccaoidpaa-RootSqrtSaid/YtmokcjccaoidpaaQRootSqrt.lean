-- PRINTED by print.py (a twelfth state) out of the translation. Not trusted: Lean checks it.
import Derived.Test.YtmokcjccaoidpaaQ0
import Derived.Test.YtmokcjccaoidpaaQbilliardlaw03
import Derived.Test.YtmokcjccaoidpaaQroot
namespace Go.Proofs.Ytmokcjccaoidpaa.Q
open Go.RowKit Go.Proofs.YtmokcjccaoidpaaW.PrintWords Go.Proofs.YtmokcjccaoidpaaW.PrintLast Go.Proofs.YtmokcjccaoidpaaW.PrintMore
attribute [local go_sem] max2_int min2_int max_two min_two max_three min_three max_four min_four   -- for this text's walks alone
set_option linter.unusedVariables false
set_option linter.unusedSimpArgs false

/-! ### billiardlaw03_RootSqrt: function 6 -/
def billiardlaw03_RootSqrt.j0 : Nat → Int → Bool → Option (Bool)
  | 0, _, _ => none
  | k + 1, x0, x11 => if x11 = true then ((billiardlaw03_awake.f k).bind fun t131 => (some t131)) else ((root_Sqrt.f k x0).bind fun bt132 => (if bt132.2 = 0 then (if (wrap64 (bt132.1)) ≥ 0 then (if (wrap64 ((wrap64 (bt132.1)) * (wrap64 (bt132.1)))) ≤ (wrap64 ((wrap64 (x0)) * 65536)) then (some (decide ((wrap64 ((wrap64 ((wrap64 (bt132.1)) + 1)) * (wrap64 ((wrap64 (bt132.1)) + 1)))) > (wrap64 ((wrap64 (x0)) * 65536))))) else (some false)) else (some false)) else (some false)))
def billiardlaw03_RootSqrt.f (k : Nat) (a0 : Int) : Option (Bool) := (billiardlaw03_awake.f k).bind fun t130 => (if t130 = true then (billiardlaw03_RootSqrt.j0 k a0 (decide (a0 < 0))) else (billiardlaw03_RootSqrt.j0 k a0 true))
theorem billiardlaw03_RootSqrt.mono_l : ∀ k, (∀ y0 y1, LeO (billiardlaw03_RootSqrt.j0 k y0 y1) (billiardlaw03_RootSqrt.j0 (k + 1) y0 y1))
  | 0 => fun _ _ r h => by simp [billiardlaw03_RootSqrt.j0] at h
  | k + 1 => by
    have ih0 := billiardlaw03_RootSqrt.mono_l k
    · intro y0 y1
      unfold billiardlaw03_RootSqrt.j0
      repeat' first
      | (with_reducible exact ih0 _ _)
      | (with_reducible exact billiardlaw03_awake.mono _)
      | (with_reducible exact root_Sqrt.mono _ _)
      | (with_reducible exact LeO.refl _)
      | (with_reducible exact LeO.none _)
      | (with_reducible refine LeO.ite ?_ ?_)
      | (with_reducible refine LeO.bind ?_ (fun _ => ?_))
      | exact ih0 _ _
      | exact billiardlaw03_awake.mono _
      | exact root_Sqrt.mono _ _
      | exact LeO.none _
      | refine LeO.ite ?_ ?_
      | refine LeO.bind ?_ (fun _ => ?_)
theorem billiardlaw03_RootSqrt.mono : ∀ a0 k, LeO (billiardlaw03_RootSqrt.f k a0) (billiardlaw03_RootSqrt.f (k + 1) a0) := by
  intro a0 k
  have ih0 := billiardlaw03_RootSqrt.mono_l k
  unfold billiardlaw03_RootSqrt.f
  repeat' first
      | (with_reducible exact ih0 _ _)
      | (with_reducible exact billiardlaw03_awake.mono _)
      | (with_reducible exact root_Sqrt.mono _ _)
      | (with_reducible exact LeO.refl _)
      | (with_reducible exact LeO.none _)
      | (with_reducible refine LeO.ite ?_ ?_)
      | (with_reducible refine LeO.bind ?_ (fun _ => ?_))
      | exact ih0 _ _
      | exact billiardlaw03_awake.mono _
      | exact root_Sqrt.mono _ _
      | exact LeO.none _
      | refine LeO.ite ?_ ?_
      | refine LeO.bind ?_ (fun _ => ?_)
set_option maxHeartbeats 8000000 in
set_option maxRecDepth 100000 in
theorem billiardlaw03_RootSqrt.calls (k : Nat) (a0 : Int) (r : Bool) (w : World) (h : billiardlaw03_RootSqrt.f k a0 = some r) :
    Calls Try.prog 6 #[.int .i32 a0] w fun e w' => e = .returned (.bool r) ∧ Drawn0 w w' := by
  have H : ((billiardlaw03_awake.f k).bind fun t130 => (if t130 = true then (billiardlaw03_RootSqrt.j0 k a0 (decide (a0 < 0))) else (billiardlaw03_RootSqrt.j0 k a0 true))) = some r := h
  clear h
  have HC2 := Aside0.mk H
  clear H
  go_enter Try.func6, Try.ntmps6
  go_upto_region 1 with (fail)
  go_cut [11] (fun v11 wc => ∃ (kq : Nat) (x11_1 : Bool), v11 = .bool x11_1 ∧ Aside0 (billiardlaw03_RootSqrt.j0 kq a0 x11_1 = some r) ∧ Aside0 (kq ≤ k) ∧ Drawn0 w wc)
  case first =>
    have H := HC2.out
    clear HC2
    replace H := Option.bind_eq_some_iff.mp H
    obtain ⟨t130, A30, H⟩ := H
    replace H : (if t130 = true then (billiardlaw03_RootSqrt.j0 k a0 (decide (a0 < 0))) else (billiardlaw03_RootSqrt.j0 k a0 true)) = some r := H
    have A3 := Aside0.mk A30
    clear A30
    by_cases c4 : t130 = true
    · subst c4
      have H1 : (billiardlaw03_RootSqrt.j0 k a0 (decide (a0 < 0))) = some r := by rw [if_pos rfl] at H; exact H
      clear H
      have H := H1
      clear H1
      have H' := Aside0.mk H
      clear H
      go_wp2_with (first | ((with_reducible refine gate_callee (f := 7) rfl ?_); refine goesL_ (some 6) rfl rfl Try.func7 (by kernel_rfl) rfl #[] rfl (by (try simp only [List.map_toArray, List.map_cons, List.map_nil]); first | done | rfl | (simp only [List.length_drop, List.length_take]; rfl)) ?_; (with_reducible refine (billiardlaw03_awake.calls k  true _ A3.out).mono ?_); rintro e w' ⟨rfl, ⟨nd, rfl⟩⟩; refine ⟨_, rfl, ?_⟩))
      go_meet
      case rel => exact ⟨_, (decide (a0 < 0)), (by first | rfl | (simp; done) | (simp [*]; done)), H', ⟨by first | omega | exact Nat.le_refl _⟩, by repeat (first | exact Drawn0.refl _ | apply Drawn0.step)⟩
    · replace c4 := Bool.eq_false_iff.mpr c4
      subst c4
      have H1 : (billiardlaw03_RootSqrt.j0 k a0 true) = some r := by rw [if_neg (show ¬ (false = true) by decide)] at H; exact H
      clear H
      have H := H1
      clear H1
      have H' := Aside0.mk H
      clear H
      go_wp2_with (first | ((with_reducible refine gate_callee (f := 7) rfl ?_); refine goesL_ (some 6) rfl rfl Try.func7 (by kernel_rfl) rfl #[] rfl (by (try simp only [List.map_toArray, List.map_cons, List.map_nil]); first | done | rfl | (simp only [List.length_drop, List.length_take]; rfl)) ?_; (with_reducible refine (billiardlaw03_awake.calls k  false _ A3.out).mono ?_); rintro e w' ⟨rfl, ⟨nd, rfl⟩⟩; refine ⟨_, rfl, ?_⟩))
      go_meet
      case rel => exact ⟨_, (true), (by first | rfl | (simp; done) | (simp [*]; done)), H', ⟨by first | omega | exact Nat.le_refl _⟩, by repeat (first | exact Drawn0.refl _ | apply Drawn0.step)⟩
  case rest =>
    clear HC2
    try clear p2
    try clear c4
    obtain ⟨kq, x11_1, rfl, HA, HJ1, ⟨mc1, rfl⟩⟩ := hcut
    cases kq with
    | zero => exact absurd HA.out (by simp [billiardlaw03_RootSqrt.j0])
    | succ kj1 =>
      have H := HA.out
      clear HA
      simp only [billiardlaw03_RootSqrt.j0] at H
      by_cases c5 : x11_1 = true
      · subst c5
        have H1 : ((billiardlaw03_awake.f kj1).bind fun t131 => (some t131)) = some r := by rw [if_pos rfl] at H; exact H
        clear H
        have H := H1
        clear H1
        replace H := Option.bind_eq_some_iff.mp H
        obtain ⟨t131, A60, H⟩ := H
        replace H : (some t131) = some r := H
        have A6 := Aside0.mk A60
        clear A60
        obtain rfl := Option.some.inj H
        go_wp2_with (first | ((with_reducible refine gate_callee (f := 7) rfl ?_); refine goesL_ (some 12) rfl rfl Try.func7 (by kernel_rfl) rfl #[] rfl (by (try simp only [List.map_toArray, List.map_cons, List.map_nil]); first | done | rfl | (simp only [List.length_drop, List.length_take]; rfl)) ?_; (with_reducible refine (billiardlaw03_awake.calls kj1  t131 _ A6.out).mono ?_); rintro e w' ⟨rfl, ⟨nd, rfl⟩⟩; refine ⟨_, rfl, ?_⟩))
        go_ret
        exact ⟨by first | rfl | (simp; done) | (simp [*]; done), by repeat (first | exact Drawn0.refl _ | apply Drawn0.step)⟩
      · replace c5 := Bool.eq_false_iff.mpr c5
        subst c5
        have H1 : ((root_Sqrt.f kj1 a0).bind fun bt132 => (if bt132.2 = 0 then (if (wrap64 (bt132.1)) ≥ 0 then (if (wrap64 ((wrap64 (bt132.1)) * (wrap64 (bt132.1)))) ≤ (wrap64 ((wrap64 (a0)) * 65536)) then (some (decide ((wrap64 ((wrap64 ((wrap64 (bt132.1)) + 1)) * (wrap64 ((wrap64 (bt132.1)) + 1)))) > (wrap64 ((wrap64 (a0)) * 65536))))) else (some false)) else (some false)) else (some false))) = some r := by rw [if_neg (show ¬ (false = true) by decide)] at H; exact H
        clear H
        have H := H1
        clear H1
        replace H := Option.bind_eq_some_iff.mp H
        obtain ⟨⟨t132, t133⟩, A70, H⟩ := H
        replace H : (if t133 = 0 then (if (wrap64 (t132)) ≥ 0 then (if (wrap64 ((wrap64 (t132)) * (wrap64 (t132)))) ≤ (wrap64 ((wrap64 (a0)) * 65536)) then (some (decide ((wrap64 ((wrap64 ((wrap64 (t132)) + 1)) * (wrap64 ((wrap64 (t132)) + 1)))) > (wrap64 ((wrap64 (a0)) * 65536))))) else (some false)) else (some false)) else (some false)) = some r := H
        have A7 := Aside0.mk A70
        clear A70
        by_cases c8 : t133 = 0
        · rw [if_pos c8] at H
          have c8b0 : (t133 == 0) = true := beq_iff_eq.mpr c8
          have c8b1 : (t133 != 0) = false := bne_eq_false_iff_eq.mpr c8
          clear c8
          by_cases c9 : (wrap64 (t132)) ≥ 0
          · rw [if_pos c9] at H
            have c9b0 : decide (0 ≤ (wrap64 (t132))) = true := decide_eq_true c9
            clear c9
            by_cases c10 : (wrap64 ((wrap64 (t132)) * (wrap64 (t132)))) ≤ (wrap64 ((wrap64 (a0)) * 65536))
            · rw [if_pos c10] at H
              have c10b0 : decide ((wrap64 ((wrap64 (t132)) * (wrap64 (t132)))) ≤ (wrap64 ((wrap64 (a0)) * 65536))) = true := decide_eq_true c10
              clear c10
              obtain rfl := Option.some.inj H
              go_wp2_with (first | ((with_reducible refine gate_callee (f := 8) rfl ?_); refine goesL_ (some 15) rfl rfl Try.func8 (by kernel_rfl) rfl #[.int .i32 a0] rfl (by (try simp only [List.map_toArray, List.map_cons, List.map_nil]); first | done | rfl | (simp only [List.length_drop, List.length_take]; rfl)) ?_; (with_reducible refine (root_Sqrt.calls kj1 a0 t132 t133 _ A7.out).mono ?_); rintro e w' ⟨rfl, ⟨nd, rfl⟩⟩; refine ⟨_, rfl, ?_⟩))
              go_ret
              exact ⟨by first | rfl | (simp; done) | (simp [*]; done), by repeat (first | exact Drawn0.refl _ | apply Drawn0.step)⟩
            · rw [if_neg c10] at H
              have c10b0 : decide ((wrap64 ((wrap64 (t132)) * (wrap64 (t132)))) ≤ (wrap64 ((wrap64 (a0)) * 65536))) = false := decide_eq_false c10
              clear c10
              obtain rfl := Option.some.inj H
              go_wp2_with (first | ((with_reducible refine gate_callee (f := 8) rfl ?_); refine goesL_ (some 15) rfl rfl Try.func8 (by kernel_rfl) rfl #[.int .i32 a0] rfl (by (try simp only [List.map_toArray, List.map_cons, List.map_nil]); first | done | rfl | (simp only [List.length_drop, List.length_take]; rfl)) ?_; (with_reducible refine (root_Sqrt.calls kj1 a0 t132 t133 _ A7.out).mono ?_); rintro e w' ⟨rfl, ⟨nd, rfl⟩⟩; refine ⟨_, rfl, ?_⟩))
              go_ret
              exact ⟨by first | rfl | (simp; done) | (simp [*]; done), by repeat (first | exact Drawn0.refl _ | apply Drawn0.step)⟩
          · rw [if_neg c9] at H
            have c9b0 : decide (0 ≤ (wrap64 (t132))) = false := decide_eq_false c9
            clear c9
            obtain rfl := Option.some.inj H
            go_wp2_with (first | ((with_reducible refine gate_callee (f := 8) rfl ?_); refine goesL_ (some 15) rfl rfl Try.func8 (by kernel_rfl) rfl #[.int .i32 a0] rfl (by (try simp only [List.map_toArray, List.map_cons, List.map_nil]); first | done | rfl | (simp only [List.length_drop, List.length_take]; rfl)) ?_; (with_reducible refine (root_Sqrt.calls kj1 a0 t132 t133 _ A7.out).mono ?_); rintro e w' ⟨rfl, ⟨nd, rfl⟩⟩; refine ⟨_, rfl, ?_⟩))
            go_ret
            exact ⟨by first | rfl | (simp; done) | (simp [*]; done), by repeat (first | exact Drawn0.refl _ | apply Drawn0.step)⟩
        · rw [if_neg c8] at H
          have c8b0 : (t133 == 0) = false := beq_eq_false_iff_ne.mpr c8
          have c8b1 : (t133 != 0) = true := bne_iff_ne.mpr c8
          obtain rfl := Option.some.inj H
          go_wp2_with (first | ((with_reducible refine gate_callee (f := 8) rfl ?_); refine goesL_ (some 15) rfl rfl Try.func8 (by kernel_rfl) rfl #[.int .i32 a0] rfl (by (try simp only [List.map_toArray, List.map_cons, List.map_nil]); first | done | rfl | (simp only [List.length_drop, List.length_take]; rfl)) ?_; (with_reducible refine (root_Sqrt.calls kj1 a0 t132 t133 _ A7.out).mono ?_); rintro e w' ⟨rfl, ⟨nd, rfl⟩⟩; refine ⟨_, rfl, ?_⟩))
          go_ret
          exact ⟨by first | rfl | (simp; done) | (simp [*]; done), by repeat (first | exact Drawn0.refl _ | apply Drawn0.step)⟩

/-- THE ONE PURE STATEMENT of billiardlaw03_RootSqrt: yours. -/
def billiardlaw03_RootSqrt.Pure : Prop := ∀ (a0 : Int), (Lit.int .i32 a0).wf = true → ∃ k, billiardlaw03_RootSqrt.f k a0 = some true
theorem billiardlaw03_RootSqrt.walk (P : billiardlaw03_RootSqrt.Pure) (a0 : Int) (w : World) (w0 : (Lit.int .i32 a0).wf = true) :
    Calls Try.prog 6 #[.int .i32 a0] w fun e w' => e = .returned (.bool true) ∧ Below w.heap.size w w' := by
  obtain ⟨k, h⟩ := P a0 w0
  refine (billiardlaw03_RootSqrt.calls k a0 true w h).mono ?_
  rintro e w' ⟨rfl, hd⟩
  exact ⟨rfl, hd.below⟩

end Go.Proofs.Ytmokcjccaoidpaa.Q
