-- PRINTED by print.py (a twelfth state) out of the translation. Not trusted: Lean checks it.
import Derived.Test.YtmokcjccaoidpaaQ0
import Derived.Test.YtmokcjccaoidpaaQbilliardlaw03
import Derived.Test.YtmokcjccaoidpaaQroot
namespace Go.Proofs.Ytmokcjccaoidpaa.Q
open Go.RowKit Go.Proofs.YtmokcjccaoidpaaW.PrintWords Go.Proofs.YtmokcjccaoidpaaW.PrintLast Go.Proofs.YtmokcjccaoidpaaW.PrintMore
attribute [local go_sem] max2_int min2_int max_two min_two max_three min_three max_four min_four   -- for this text's walks alone
set_option linter.unusedVariables false
set_option linter.unusedSimpArgs false

/-! ### billiardlaw03_RootFloor: function 4 -/
def billiardlaw03_RootFloor.j0 : Nat → Int → Bool → Option (Bool)
  | 0, _, _ => none
  | k + 1, x0, x30 => if x30 = true then (some false) else ((root_Isqrt.f k (IntKind.u64.wrap ((Int.tmod x0 4294967296) * (Int.tmod x0 4294967296)))).bind fun t123 => (if t123 = (Int.tmod x0 4294967296) then ((root_Ceil.f k (IntKind.u64.wrap ((Int.tmod x0 4294967296) * (Int.tmod x0 4294967296)))).bind fun t124 => (some (t124 == (Int.tmod x0 4294967296)))) else (some false)))
def billiardlaw03_RootFloor.f (k : Nat) (a0 : Int) : Option (Bool) := (billiardlaw03_awake.f k).bind fun t121 => (if t121 = true then ((root_Isqrt.f k a0).bind fun t122 => (if t122 > 4294967295 then (billiardlaw03_RootFloor.j0 k a0 true) else (if (IntKind.u64.wrap (t122 * t122)) > a0 then (billiardlaw03_RootFloor.j0 k a0 true) else (if t122 < 4294967295 then (billiardlaw03_RootFloor.j0 k a0 (decide ((IntKind.u64.wrap ((IntKind.u64.wrap (t122 + 1)) * (IntKind.u64.wrap (t122 + 1)))) ≤ a0))) else (billiardlaw03_RootFloor.j0 k a0 false))))) else (some false))
theorem billiardlaw03_RootFloor.mono_l : ∀ k, (∀ y0 y1, LeO (billiardlaw03_RootFloor.j0 k y0 y1) (billiardlaw03_RootFloor.j0 (k + 1) y0 y1))
  | 0 => fun _ _ r h => by simp [billiardlaw03_RootFloor.j0] at h
  | k + 1 => by
    have ih0 := billiardlaw03_RootFloor.mono_l k
    · intro y0 y1
      unfold billiardlaw03_RootFloor.j0
      repeat' first
      | (with_reducible exact ih0 _ _)
      | (with_reducible exact billiardlaw03_awake.mono _)
      | (with_reducible exact root_Ceil.mono _ _)
      | (with_reducible exact root_Isqrt.mono _ _)
      | (with_reducible exact LeO.refl _)
      | (with_reducible exact LeO.none _)
      | (with_reducible refine LeO.ite ?_ ?_)
      | (with_reducible refine LeO.bind ?_ (fun _ => ?_))
      | exact ih0 _ _
      | exact billiardlaw03_awake.mono _
      | exact root_Ceil.mono _ _
      | exact root_Isqrt.mono _ _
      | exact LeO.none _
      | refine LeO.ite ?_ ?_
      | refine LeO.bind ?_ (fun _ => ?_)
theorem billiardlaw03_RootFloor.mono : ∀ a0 k, LeO (billiardlaw03_RootFloor.f k a0) (billiardlaw03_RootFloor.f (k + 1) a0) := by
  intro a0 k
  have ih0 := billiardlaw03_RootFloor.mono_l k
  unfold billiardlaw03_RootFloor.f
  repeat' first
      | (with_reducible exact ih0 _ _)
      | (with_reducible exact billiardlaw03_awake.mono _)
      | (with_reducible exact root_Ceil.mono _ _)
      | (with_reducible exact root_Isqrt.mono _ _)
      | (with_reducible exact LeO.refl _)
      | (with_reducible exact LeO.none _)
      | (with_reducible refine LeO.ite ?_ ?_)
      | (with_reducible refine LeO.bind ?_ (fun _ => ?_))
      | exact ih0 _ _
      | exact billiardlaw03_awake.mono _
      | exact root_Ceil.mono _ _
      | exact root_Isqrt.mono _ _
      | exact LeO.none _
      | refine LeO.ite ?_ ?_
      | refine LeO.bind ?_ (fun _ => ?_)
set_option maxHeartbeats 8000000 in
set_option maxRecDepth 100000 in
theorem billiardlaw03_RootFloor.calls (k : Nat) (a0 : Int) (r : Bool) (w : World) (h : billiardlaw03_RootFloor.f k a0 = some r) :
    Calls Try.prog 4 #[.int .u64 a0] w fun e w' => e = .returned (.bool r) ∧ Drawn0 w w' := by
  have H : ((billiardlaw03_awake.f k).bind fun t121 => (if t121 = true then ((root_Isqrt.f k a0).bind fun t122 => (if t122 > 4294967295 then (billiardlaw03_RootFloor.j0 k a0 true) else (if (IntKind.u64.wrap (t122 * t122)) > a0 then (billiardlaw03_RootFloor.j0 k a0 true) else (if t122 < 4294967295 then (billiardlaw03_RootFloor.j0 k a0 (decide ((IntKind.u64.wrap ((IntKind.u64.wrap (t122 + 1)) * (IntKind.u64.wrap (t122 + 1)))) ≤ a0))) else (billiardlaw03_RootFloor.j0 k a0 false))))) else (some false))) = some r := h
  clear h
  replace H := Option.bind_eq_some_iff.mp H
  obtain ⟨t121, A20, H⟩ := H
  replace H : (if t121 = true then ((root_Isqrt.f k a0).bind fun t122 => (if t122 > 4294967295 then (billiardlaw03_RootFloor.j0 k a0 true) else (if (IntKind.u64.wrap (t122 * t122)) > a0 then (billiardlaw03_RootFloor.j0 k a0 true) else (if t122 < 4294967295 then (billiardlaw03_RootFloor.j0 k a0 (decide ((IntKind.u64.wrap ((IntKind.u64.wrap (t122 + 1)) * (IntKind.u64.wrap (t122 + 1)))) ≤ a0))) else (billiardlaw03_RootFloor.j0 k a0 false))))) else (some false)) = some r := H
  have A2 := Aside0.mk A20
  clear A20
  by_cases c3 : t121 = true
  · subst c3
    have H1 : ((root_Isqrt.f k a0).bind fun t122 => (if t122 > 4294967295 then (billiardlaw03_RootFloor.j0 k a0 true) else (if (IntKind.u64.wrap (t122 * t122)) > a0 then (billiardlaw03_RootFloor.j0 k a0 true) else (if t122 < 4294967295 then (billiardlaw03_RootFloor.j0 k a0 (decide ((IntKind.u64.wrap ((IntKind.u64.wrap (t122 + 1)) * (IntKind.u64.wrap (t122 + 1)))) ≤ a0))) else (billiardlaw03_RootFloor.j0 k a0 false))))) = some r := by rw [if_pos rfl] at H; exact H
    clear H
    have H := H1
    clear H1
    replace H := Option.bind_eq_some_iff.mp H
    obtain ⟨t122, A40, H⟩ := H
    replace H : (if t122 > 4294967295 then (billiardlaw03_RootFloor.j0 k a0 true) else (if (IntKind.u64.wrap (t122 * t122)) > a0 then (billiardlaw03_RootFloor.j0 k a0 true) else (if t122 < 4294967295 then (billiardlaw03_RootFloor.j0 k a0 (decide ((IntKind.u64.wrap ((IntKind.u64.wrap (t122 + 1)) * (IntKind.u64.wrap (t122 + 1)))) ≤ a0))) else (billiardlaw03_RootFloor.j0 k a0 false)))) = some r := H
    have A4 := Aside0.mk A40
    clear A40
    have HC5 := Aside0.mk H
    clear H
    go_enter Try.func4, Try.ntmps4
    go_upto_region 4 with (first | ((with_reducible refine gate_callee (f := 7) rfl ?_); refine goesL_ (some 5) rfl rfl Try.func7 (by kernel_rfl) rfl #[] rfl (by (try simp only [List.map_toArray, List.map_cons, List.map_nil]); first | done | rfl | (simp only [List.length_drop, List.length_take]; rfl)) ?_; (with_reducible refine (billiardlaw03_awake.calls k  true _ A2.out).mono ?_); rintro e w' ⟨rfl, ⟨nd, rfl⟩⟩; refine ⟨_, rfl, ?_⟩) | ((with_reducible refine gate_callee (f := 10) rfl ?_); refine goesL_ (some 8) rfl rfl Try.func10 (by kernel_rfl) rfl #[.int .u64 a0] rfl (by (try simp only [List.map_toArray, List.map_cons, List.map_nil]); first | done | rfl | (simp only [List.length_drop, List.length_take]; rfl)) ?_; (with_reducible refine (root_Isqrt.calls k a0 t122 _ A4.out).mono ?_); rintro e w' ⟨rfl, ⟨nd, rfl⟩⟩; refine ⟨_, rfl, ?_⟩))
    (try simp only [Act.put, List.setIfInBounds_toArray, List.set_cons_zero, List.set_cons_succ])
    go_cut [30] (fun v30 wc => ∃ (kq : Nat) (x30_4 : Bool), v30 = .bool x30_4 ∧ Aside0 (billiardlaw03_RootFloor.j0 kq a0 x30_4 = some r) ∧ Aside0 (kq ≤ k) ∧ Drawn0 w wc)
    case first =>
      have H := HC5.out
      clear HC5
      by_cases c6 : t122 > 4294967295
      · rw [if_pos c6] at H
        have c6b0 : decide (4294967295 < t122) = true := decide_eq_true c6
        clear c6
        (first | rw [c6b0] | (simp only [i64_w, i32_w]; rw [c6b0]) | skip)
        have H' := Aside0.mk H
        clear H
        go_wp2
        go_meet
        case rel => exact ⟨_, (true), (by first | rfl | (simp; done) | (simp [*]; done)), H', ⟨by first | omega | exact Nat.le_refl _⟩, by repeat (first | exact Drawn0.refl _ | apply Drawn0.step)⟩
      · rw [if_neg c6] at H
        have c6b0 : decide (4294967295 < t122) = false := decide_eq_false c6
        clear c6
        (first | rw [c6b0] | (simp only [i64_w, i32_w]; rw [c6b0]) | skip)
        by_cases c7 : (IntKind.u64.wrap (t122 * t122)) > a0
        · rw [if_pos c7] at H
          have c7b0 : decide (a0 < (IntKind.u64.wrap (t122 * t122))) = true := decide_eq_true c7
          clear c7
          have H' := Aside0.mk H
          clear H
          go_wp2
          go_meet
          case rel => exact ⟨_, (true), (by first | rfl | (simp; done) | (simp [*]; done)), H', ⟨by first | omega | exact Nat.le_refl _⟩, by repeat (first | exact Drawn0.refl _ | apply Drawn0.step)⟩
        · rw [if_neg c7] at H
          have c7b0 : decide (a0 < (IntKind.u64.wrap (t122 * t122))) = false := decide_eq_false c7
          clear c7
          by_cases c8 : t122 < 4294967295
          · rw [if_pos c8] at H
            have c8b0 : decide (t122 < 4294967295) = true := decide_eq_true c8
            clear c8
            have H' := Aside0.mk H
            clear H
            go_wp2
            go_meet
            case rel => exact ⟨_, (decide ((IntKind.u64.wrap ((IntKind.u64.wrap (t122 + 1)) * (IntKind.u64.wrap (t122 + 1)))) ≤ a0)), (by first | rfl | (simp; done) | (simp [*]; done)), H', ⟨by first | omega | exact Nat.le_refl _⟩, by repeat (first | exact Drawn0.refl _ | apply Drawn0.step)⟩
          · rw [if_neg c8] at H
            have c8b0 : decide (t122 < 4294967295) = false := decide_eq_false c8
            clear c8
            have H' := Aside0.mk H
            clear H
            go_wp2
            go_meet
            case rel => exact ⟨_, (false), (by first | rfl | (simp; done) | (simp [*]; done)), H', ⟨by first | omega | exact Nat.le_refl _⟩, by repeat (first | exact Drawn0.refl _ | apply Drawn0.step)⟩
    case rest =>
      clear HC5
      try clear c1
      try clear p2
      try clear c3
      try clear c4
      try clear c6
      try clear c6b0
      try clear c7
      try clear c7b0
      try clear c8
      try clear c8b0
      obtain ⟨kq, x30_4, rfl, HA, HJ4, ⟨mc4, rfl⟩⟩ := hcut
      cases kq with
      | zero => exact absurd HA.out (by simp [billiardlaw03_RootFloor.j0])
      | succ kj4 =>
        have H := HA.out
        clear HA
        simp only [billiardlaw03_RootFloor.j0] at H
        by_cases c9 : x30_4 = true
        · subst c9
          have H1 : (some false) = some r := by rw [if_pos rfl] at H; exact H
          clear H
          have H := H1
          clear H1
          obtain rfl := Option.some.inj H
          go_wp2
          go_ret
          exact ⟨by first | rfl | (simp; done) | (simp [*]; done), by repeat (first | exact Drawn0.refl _ | apply Drawn0.step)⟩
        · replace c9 := Bool.eq_false_iff.mpr c9
          subst c9
          have H1 : ((root_Isqrt.f kj4 (IntKind.u64.wrap ((Int.tmod a0 4294967296) * (Int.tmod a0 4294967296)))).bind fun t123 => (if t123 = (Int.tmod a0 4294967296) then ((root_Ceil.f kj4 (IntKind.u64.wrap ((Int.tmod a0 4294967296) * (Int.tmod a0 4294967296)))).bind fun t124 => (some (t124 == (Int.tmod a0 4294967296)))) else (some false))) = some r := by rw [if_neg (show ¬ (false = true) by decide)] at H; exact H
          clear H
          have H := H1
          clear H1
          replace H := Option.bind_eq_some_iff.mp H
          obtain ⟨t123, A100, H⟩ := H
          replace H : (if t123 = (Int.tmod a0 4294967296) then ((root_Ceil.f kj4 (IntKind.u64.wrap ((Int.tmod a0 4294967296) * (Int.tmod a0 4294967296)))).bind fun t124 => (some (t124 == (Int.tmod a0 4294967296)))) else (some false)) = some r := H
          have A10 := Aside0.mk A100
          clear A100
          by_cases c11 : t123 = (Int.tmod a0 4294967296)
          · rw [if_pos c11] at H
            have c11b0 : (t123 == (Int.tmod a0 4294967296)) = true := beq_iff_eq.mpr c11
            have c11b1 : (t123 != (Int.tmod a0 4294967296)) = false := bne_eq_false_iff_eq.mpr c11
            clear c11
            replace H := Option.bind_eq_some_iff.mp H
            obtain ⟨t124, A120, H⟩ := H
            replace H : (some (t124 == (Int.tmod a0 4294967296))) = some r := H
            have A12 := Aside0.mk A120
            clear A120
            obtain rfl := Option.some.inj H
            go_wp2_with (first | ((with_reducible refine gate_callee (f := 10) rfl ?_); refine goesL_ (some 36) rfl rfl Try.func10 (by kernel_rfl) rfl #[.int .u64 (IntKind.u64.wrap ((Int.tmod a0 4294967296) * (Int.tmod a0 4294967296)))] rfl (by (try simp only [List.map_toArray, List.map_cons, List.map_nil]); first | done | rfl | (simp only [List.length_drop, List.length_take]; rfl)) ?_; (with_reducible refine (root_Isqrt.calls kj4 (IntKind.u64.wrap ((Int.tmod a0 4294967296) * (Int.tmod a0 4294967296))) t123 _ A10.out).mono ?_); rintro e w' ⟨rfl, ⟨nd, rfl⟩⟩; refine ⟨_, rfl, ?_⟩) | (go_at_call 11; (with_reducible refine (root_Ceil.calls kj4 (IntKind.u64.wrap ((Int.tmod a0 4294967296) * (Int.tmod a0 4294967296))) t124 _ A12.out).mono ?_); rintro e w' ⟨rfl, ⟨nd, rfl⟩⟩))
            go_ret
            exact ⟨by first | rfl | (simp; done) | (simp [*]; done), by repeat (first | exact Drawn0.refl _ | apply Drawn0.step)⟩
          · rw [if_neg c11] at H
            have c11b0 : (t123 == (Int.tmod a0 4294967296)) = false := beq_eq_false_iff_ne.mpr c11
            have c11b1 : (t123 != (Int.tmod a0 4294967296)) = true := bne_iff_ne.mpr c11
            obtain rfl := Option.some.inj H
            go_wp2_with (first | ((with_reducible refine gate_callee (f := 10) rfl ?_); refine goesL_ (some 36) rfl rfl Try.func10 (by kernel_rfl) rfl #[.int .u64 (IntKind.u64.wrap ((Int.tmod a0 4294967296) * (Int.tmod a0 4294967296)))] rfl (by (try simp only [List.map_toArray, List.map_cons, List.map_nil]); first | done | rfl | (simp only [List.length_drop, List.length_take]; rfl)) ?_; (with_reducible refine (root_Isqrt.calls kj4 (IntKind.u64.wrap ((Int.tmod a0 4294967296) * (Int.tmod a0 4294967296))) t123 _ A10.out).mono ?_); rintro e w' ⟨rfl, ⟨nd, rfl⟩⟩; refine ⟨_, rfl, ?_⟩))
            go_ret
            exact ⟨by first | rfl | (simp; done) | (simp [*]; done), by repeat (first | exact Drawn0.refl _ | apply Drawn0.step)⟩
  · replace c3 := Bool.eq_false_iff.mpr c3
    subst c3
    have H1 : (some false) = some r := by rw [if_neg (show ¬ (false = true) by decide)] at H; exact H
    clear H
    have H := H1
    clear H1
    obtain rfl := Option.some.inj H
    go_enter Try.func4, Try.ntmps4
    go_wp2_with (first | ((with_reducible refine gate_callee (f := 7) rfl ?_); refine goesL_ (some 5) rfl rfl Try.func7 (by kernel_rfl) rfl #[] rfl (by (try simp only [List.map_toArray, List.map_cons, List.map_nil]); first | done | rfl | (simp only [List.length_drop, List.length_take]; rfl)) ?_; (with_reducible refine (billiardlaw03_awake.calls k  false _ A2.out).mono ?_); rintro e w' ⟨rfl, ⟨nd, rfl⟩⟩; refine ⟨_, rfl, ?_⟩))
    go_ret
    exact ⟨by first | rfl | (simp; done) | (simp [*]; done), by repeat (first | exact Drawn0.refl _ | apply Drawn0.step)⟩

/-- THE ONE PURE STATEMENT of billiardlaw03_RootFloor: yours. -/
def billiardlaw03_RootFloor.Pure : Prop := ∀ (a0 : Int), (Lit.int .u64 a0).wf = true → ∃ k, billiardlaw03_RootFloor.f k a0 = some true
theorem billiardlaw03_RootFloor.walk (P : billiardlaw03_RootFloor.Pure) (a0 : Int) (w : World) (w0 : (Lit.int .u64 a0).wf = true) :
    Calls Try.prog 4 #[.int .u64 a0] w fun e w' => e = .returned (.bool true) ∧ Below w.heap.size w w' := by
  obtain ⟨k, h⟩ := P a0 w0
  refine (billiardlaw03_RootFloor.calls k a0 true w h).mono ?_
  rintro e w' ⟨rfl, hd⟩
  exact ⟨rfl, hd.below⟩

end Go.Proofs.Ytmokcjccaoidpaa.Q
