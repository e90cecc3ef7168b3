-- PRINTED by print.py (a twelfth state) out of the translation. Not trusted: Lean checks it.
import Derived.Test.YtkkmknkpopgliaaQ0
import Derived.Test.YtkkmknkpopgliaaQbilliardlaw02
import Derived.Test.YtkkmknkpopgliaaQfx
namespace Go.Proofs.Ytkkmknkpopgliaa.Q
open Go.RowKit Go.Proofs.YtkkmknkpopgliaaW.PrintWords Go.Proofs.YtkkmknkpopgliaaW.PrintLast Go.Proofs.YtkkmknkpopgliaaW.PrintMore
attribute [local go_sem] max2_int min2_int max_two min_two max_three min_three max_four min_four   -- for this text's walks alone
set_option linter.unusedVariables false
set_option linter.unusedSimpArgs false

/-! ### billiardlaw02_FxBounds: function 3 -/
mutual
def billiardlaw02_FxBounds.j0 : Nat → Int → Int → Bool → Option (Bool)
  | 0, _, _, _ => none
  | k + 1, x0, x1, x41 => if x41 = true then (some false) else ((fx_Div.f x0 x1).bind fun bt123 => (if bt123.2 = 0 then (if (wrap64 (bt123.1)) = 2147483647 then (billiardlaw02_FxBounds.j1 k x0 x1 (wrap64 (bt123.1)) true) else (billiardlaw02_FxBounds.j1 k x0 x1 (wrap64 (bt123.1)) ((wrap64 (bt123.1)) == (-2147483648)))) else (if x1 = 0 then (some (bt123.1 == 0)) else (some false))))
def billiardlaw02_FxBounds.j1 : Nat → Int → Int → Int → Bool → Option (Bool)
  | 0, _, _, _, _ => none
  | k + 1, x0, x1, x9, x63 => if x63 = true then (some true) else (if (wrap64 (x1)) > 0 then (if (wrap64 (x9 * (wrap64 (x1)))) ≤ (wrap64 ((wrap64 (x0)) * 65536)) then (some (decide ((wrap64 ((wrap64 (x9 + 1)) * (wrap64 (x1)))) > (wrap64 ((wrap64 (x0)) * 65536))))) else (some false)) else (if (wrap64 (x9 * (wrap64 (x1)))) ≥ (wrap64 ((wrap64 (x0)) * 65536)) then (some (decide ((wrap64 ((wrap64 (x9 + 1)) * (wrap64 (x1)))) < (wrap64 ((wrap64 (x0)) * 65536))))) else (some false)))
end
def billiardlaw02_FxBounds.f (k : Nat) (a0 : Int) (a1 : Int) : Option (Bool) := (billiardlaw02_awake.f).bind fun t121 => (if t121 = true then ((fx_Mul.f a0 a1).bind fun t122 => (if (wrap64 (t122)) < 2147483647 then (if (wrap64 (t122)) > (-2147483648) then (if (wrap64 ((wrap64 (t122)) * 65536)) > (wrap64 ((wrap64 (a0)) * (wrap64 (a1)))) then (billiardlaw02_FxBounds.j0 k a0 a1 true) else (billiardlaw02_FxBounds.j0 k a0 a1 (decide ((wrap64 ((wrap64 ((wrap64 (t122)) + 1)) * 65536)) ≤ (wrap64 ((wrap64 (a0)) * (wrap64 (a1)))))))) else (billiardlaw02_FxBounds.j0 k a0 a1 false)) else (billiardlaw02_FxBounds.j0 k a0 a1 false))) else (some false))
theorem billiardlaw02_FxBounds.mono_l : ∀ k, (∀ y0 y1 y2, LeO (billiardlaw02_FxBounds.j0 k y0 y1 y2) (billiardlaw02_FxBounds.j0 (k + 1) y0 y1 y2)) ∧ (∀ y0 y1 y2 y3, LeO (billiardlaw02_FxBounds.j1 k y0 y1 y2 y3) (billiardlaw02_FxBounds.j1 (k + 1) y0 y1 y2 y3))
  | 0 => ⟨fun _ _ _ r h => by simp [billiardlaw02_FxBounds.j0] at h, fun _ _ _ _ r h => by simp [billiardlaw02_FxBounds.j1] at h⟩
  | k + 1 => by
    obtain ⟨ih0, ih1⟩ := billiardlaw02_FxBounds.mono_l k
    refine ⟨?_, ?_⟩
    · intro y0 y1 y2
      unfold billiardlaw02_FxBounds.j0
      repeat' first
      | (with_reducible exact ih0 _ _ _)
      | (with_reducible exact ih1 _ _ _ _)
      | (with_reducible exact LeO.refl _)
      | (with_reducible exact LeO.none _)
      | (with_reducible refine LeO.ite ?_ ?_)
      | (with_reducible refine LeO.bind ?_ (fun _ => ?_))
      | exact ih0 _ _ _
      | exact ih1 _ _ _ _
      | exact LeO.none _
      | refine LeO.ite ?_ ?_
      | refine LeO.bind ?_ (fun _ => ?_)
    · intro y0 y1 y2 y3
      unfold billiardlaw02_FxBounds.j1
      repeat' first
      | (with_reducible exact ih0 _ _ _)
      | (with_reducible exact ih1 _ _ _ _)
      | (with_reducible exact LeO.refl _)
      | (with_reducible exact LeO.none _)
      | (with_reducible refine LeO.ite ?_ ?_)
      | (with_reducible refine LeO.bind ?_ (fun _ => ?_))
      | exact ih0 _ _ _
      | exact ih1 _ _ _ _
      | exact LeO.none _
      | refine LeO.ite ?_ ?_
      | refine LeO.bind ?_ (fun _ => ?_)
theorem billiardlaw02_FxBounds.mono : ∀ a0 a1 k, LeO (billiardlaw02_FxBounds.f k a0 a1) (billiardlaw02_FxBounds.f (k + 1) a0 a1) := by
  intro a0 a1 k
  obtain ⟨ih0, ih1⟩ := billiardlaw02_FxBounds.mono_l k
  unfold billiardlaw02_FxBounds.f
  repeat' first
      | (with_reducible exact ih0 _ _ _)
      | (with_reducible exact ih1 _ _ _ _)
      | (with_reducible exact LeO.refl _)
      | (with_reducible exact LeO.none _)
      | (with_reducible refine LeO.ite ?_ ?_)
      | (with_reducible refine LeO.bind ?_ (fun _ => ?_))
      | exact ih0 _ _ _
      | exact ih1 _ _ _ _
      | exact LeO.none _
      | refine LeO.ite ?_ ?_
      | refine LeO.bind ?_ (fun _ => ?_)
set_option maxHeartbeats 8000000 in
set_option maxRecDepth 100000 in
theorem billiardlaw02_FxBounds.calls (k : Nat) (a0 : Int) (a1 : Int) (r : Bool) (w : World) (h : billiardlaw02_FxBounds.f k a0 a1 = some r) :
    Calls Try.prog 3 #[.int .i32 a0, .int .i32 a1] w fun e w' => e = .returned (.bool r) ∧ Below w.heap.size w w' := by
  have HB := Aside0.mk (Below.refl w.heap.size w)
  have H : ((billiardlaw02_awake.f).bind fun t121 => (if t121 = true then ((fx_Mul.f a0 a1).bind fun t122 => (if (wrap64 (t122)) < 2147483647 then (if (wrap64 (t122)) > (-2147483648) then (if (wrap64 ((wrap64 (t122)) * 65536)) > (wrap64 ((wrap64 (a0)) * (wrap64 (a1)))) then (billiardlaw02_FxBounds.j0 k a0 a1 true) else (billiardlaw02_FxBounds.j0 k a0 a1 (decide ((wrap64 ((wrap64 ((wrap64 (t122)) + 1)) * 65536)) ≤ (wrap64 ((wrap64 (a0)) * (wrap64 (a1)))))))) else (billiardlaw02_FxBounds.j0 k a0 a1 false)) else (billiardlaw02_FxBounds.j0 k a0 a1 false))) else (some false))) = some r := h
  clear h
  replace H := Option.bind_eq_some_iff.mp H
  obtain ⟨t121, A30, H⟩ := H
  replace H : (if t121 = true then ((fx_Mul.f a0 a1).bind fun t122 => (if (wrap64 (t122)) < 2147483647 then (if (wrap64 (t122)) > (-2147483648) then (if (wrap64 ((wrap64 (t122)) * 65536)) > (wrap64 ((wrap64 (a0)) * (wrap64 (a1)))) then (billiardlaw02_FxBounds.j0 k a0 a1 true) else (billiardlaw02_FxBounds.j0 k a0 a1 (decide ((wrap64 ((wrap64 ((wrap64 (t122)) + 1)) * 65536)) ≤ (wrap64 ((wrap64 (a0)) * (wrap64 (a1)))))))) else (billiardlaw02_FxBounds.j0 k a0 a1 false)) else (billiardlaw02_FxBounds.j0 k a0 a1 false))) else (some false)) = some r := H
  have A3 := Aside0.mk A30
  clear A30
  by_cases c4 : t121 = true
  · subst c4
    have H1 : ((fx_Mul.f a0 a1).bind fun t122 => (if (wrap64 (t122)) < 2147483647 then (if (wrap64 (t122)) > (-2147483648) then (if (wrap64 ((wrap64 (t122)) * 65536)) > (wrap64 ((wrap64 (a0)) * (wrap64 (a1)))) then (billiardlaw02_FxBounds.j0 k a0 a1 true) else (billiardlaw02_FxBounds.j0 k a0 a1 (decide ((wrap64 ((wrap64 ((wrap64 (t122)) + 1)) * 65536)) ≤ (wrap64 ((wrap64 (a0)) * (wrap64 (a1)))))))) else (billiardlaw02_FxBounds.j0 k a0 a1 false)) else (billiardlaw02_FxBounds.j0 k a0 a1 false))) = some r := by rw [if_pos rfl] at H; exact H
    clear H
    have H := H1
    clear H1
    replace H := Option.bind_eq_some_iff.mp H
    obtain ⟨t122, A50, H⟩ := H
    replace H : (if (wrap64 (t122)) < 2147483647 then (if (wrap64 (t122)) > (-2147483648) then (if (wrap64 ((wrap64 (t122)) * 65536)) > (wrap64 ((wrap64 (a0)) * (wrap64 (a1)))) then (billiardlaw02_FxBounds.j0 k a0 a1 true) else (billiardlaw02_FxBounds.j0 k a0 a1 (decide ((wrap64 ((wrap64 ((wrap64 (t122)) + 1)) * 65536)) ≤ (wrap64 ((wrap64 (a0)) * (wrap64 (a1)))))))) else (billiardlaw02_FxBounds.j0 k a0 a1 false)) else (billiardlaw02_FxBounds.j0 k a0 a1 false)) = some r := H
    have A5 := Aside0.mk A50
    clear A50
    have HC6 := Aside0.mk H
    clear H
    go_enter Try.func3, Try.ntmps3
    go_upto_region 5 with (first | ((with_reducible refine gate_callee (f := 8) rfl ?_); refine goesL_ (some 12) rfl rfl Try.func8 (by kernel_rfl) rfl #[] rfl (by (try simp only [List.map_toArray, List.map_cons, List.map_nil]); first | done | rfl | (simp only [List.length_drop, List.length_take]; rfl)) ?_; (with_reducible refine (billiardlaw02_awake.calls  true _ A3.out).mono ?_); rintro e w7 ⟨rfl, hb⟩; refine ⟨_, rfl, ?_⟩; have n0_ := Aside0.mk (below_step (by repeat (first | (with_reducible first | exact HB.out | apply below_alloc | apply pw_below_drewN | apply below_drew1) | exact HB.out)) hb); clear HB; have HB := n0_; clear n0_; (try clear hb); (try clear hb2); (try clear hk); (try clear hi)) | ((with_reducible refine gate_callee (f := 9) rfl ?_); refine goesL_ (some 16) rfl rfl Try.func9 (by kernel_rfl) rfl #[.int .i32 a0, .int .i32 a1] rfl (by (try simp only [List.map_toArray, List.map_cons, List.map_nil]); first | done | rfl | (simp only [List.length_drop, List.length_take]; rfl)) ?_; (with_reducible refine (fx_Mul.calls a0 a1 t122 _ A5.out).mono ?_); rintro e w' ⟨rfl, ⟨nd, rfl⟩⟩; refine ⟨_, rfl, ?_⟩))
    (try simp only [Act.put, List.setIfInBounds_toArray, List.set_cons_zero, List.set_cons_succ])
    go_cut [41] (fun v41 wc => ∃ (kq : Nat) (x41_5 : Bool), v41 = .bool x41_5 ∧ Aside0 (billiardlaw02_FxBounds.j0 kq a0 a1 x41_5 = some r) ∧ Aside0 (kq ≤ k) ∧ Aside0 (Below w.heap.size w wc))
    case first =>
      have H := HC6.out
      clear HC6
      by_cases c8 : (wrap64 (t122)) < 2147483647
      · rw [if_pos c8] at H
        have c8b0 : decide ((wrap64 (t122)) < 2147483647) = true := decide_eq_true c8
        clear c8
        (first | rw [c8b0] | (simp only [i64_w, i32_w]; rw [c8b0]) | skip)
        by_cases c9 : (wrap64 (t122)) > (-2147483648)
        · rw [if_pos c9] at H
          have c9b0 : decide ((-2147483648) < (wrap64 (t122))) = true := decide_eq_true c9
          clear c9
          by_cases c10 : (wrap64 ((wrap64 (t122)) * 65536)) > (wrap64 ((wrap64 (a0)) * (wrap64 (a1))))
          · rw [if_pos c10] at H
            have c10b0 : decide ((wrap64 ((wrap64 (a0)) * (wrap64 (a1)))) < (wrap64 ((wrap64 (t122)) * 65536))) = true := decide_eq_true c10
            clear c10
            have H' := Aside0.mk H
            clear H
            go_wp2
            go_meet
            case rel => exact ⟨_, (true), (by first | rfl | (simp; done) | (simp [*]; done)), H', ⟨by first | omega | exact Nat.le_refl _⟩, ⟨by repeat (first | (with_reducible first | exact HB.out | apply below_alloc | apply pw_below_drewN | apply below_drew1) | exact HB.out)⟩⟩
          · rw [if_neg c10] at H
            have c10b0 : decide ((wrap64 ((wrap64 (a0)) * (wrap64 (a1)))) < (wrap64 ((wrap64 (t122)) * 65536))) = false := decide_eq_false c10
            clear c10
            have H' := Aside0.mk H
            clear H
            go_wp2
            go_meet
            case rel => exact ⟨_, (decide ((wrap64 ((wrap64 ((wrap64 (t122)) + 1)) * 65536)) ≤ (wrap64 ((wrap64 (a0)) * (wrap64 (a1)))))), (by first | rfl | (simp; done) | (simp [*]; done)), H', ⟨by first | omega | exact Nat.le_refl _⟩, ⟨by repeat (first | (with_reducible first | exact HB.out | apply below_alloc | apply pw_below_drewN | apply below_drew1) | exact HB.out)⟩⟩
        · rw [if_neg c9] at H
          have c9b0 : decide ((-2147483648) < (wrap64 (t122))) = false := decide_eq_false c9
          clear c9
          have H' := Aside0.mk H
          clear H
          go_wp2
          go_meet
          case rel => exact ⟨_, (false), (by first | rfl | (simp; done) | (simp [*]; done)), H', ⟨by first | omega | exact Nat.le_refl _⟩, ⟨by repeat (first | (with_reducible first | exact HB.out | apply below_alloc | apply pw_below_drewN | apply below_drew1) | exact HB.out)⟩⟩
      · rw [if_neg c8] at H
        have c8b0 : decide ((wrap64 (t122)) < 2147483647) = false := decide_eq_false c8
        clear c8
        (first | rw [c8b0] | (simp only [i64_w, i32_w]; rw [c8b0]) | skip)
        have H' := Aside0.mk H
        clear H
        go_wp2
        go_meet
        case rel => exact ⟨_, (false), (by first | rfl | (simp; done) | (simp [*]; done)), H', ⟨by first | omega | exact Nat.le_refl _⟩, ⟨by repeat (first | (with_reducible first | exact HB.out | apply below_alloc | apply pw_below_drewN | apply below_drew1) | exact HB.out)⟩⟩
    case rest =>
      clear HC6
      try clear c1
      try clear p2
      try clear c3
      try clear c4
      try clear p6
      try clear c8
      try clear c8b0
      try clear c9
      try clear c9b0
      try clear c10
      try clear c10b0
      obtain ⟨kq, x41_5, rfl, HA, HJ5, HB⟩ := hcut
      cases kq with
      | zero => exact absurd HA.out (by simp [billiardlaw02_FxBounds.j0])
      | succ kj5 =>
        have H := HA.out
        clear HA
        simp only [billiardlaw02_FxBounds.j0] at H
        by_cases c11 : x41_5 = true
        · subst c11
          have H1 : (some false) = some r := by rw [if_pos rfl] at H; exact H
          clear H
          have H := H1
          clear H1
          obtain rfl := Option.some.inj H
          go_wp2
          go_ret
          exact ⟨by first | rfl | (simp [errW_none, errW_some] <;> rfl) | (simp [*, errW_none, errW_some] <;> rfl), by repeat (first | (with_reducible first | exact HB.out | apply below_alloc | apply pw_below_drewN | apply below_drew1) | exact HB.out)⟩
        · replace c11 := Bool.eq_false_iff.mpr c11
          subst c11
          have H1 : ((fx_Div.f a0 a1).bind fun bt123 => (if bt123.2 = 0 then (if (wrap64 (bt123.1)) = 2147483647 then (billiardlaw02_FxBounds.j1 kj5 a0 a1 (wrap64 (bt123.1)) true) else (billiardlaw02_FxBounds.j1 kj5 a0 a1 (wrap64 (bt123.1)) ((wrap64 (bt123.1)) == (-2147483648)))) else (if a1 = 0 then (some (bt123.1 == 0)) else (some false)))) = some r := by rw [if_neg (show ¬ (false = true) by decide)] at H; exact H
          clear H
          have H := H1
          clear H1
          replace H := Option.bind_eq_some_iff.mp H
          obtain ⟨⟨t123, t124⟩, A120, H⟩ := H
          replace H : (if t124 = 0 then (if (wrap64 (t123)) = 2147483647 then (billiardlaw02_FxBounds.j1 kj5 a0 a1 (wrap64 (t123)) true) else (billiardlaw02_FxBounds.j1 kj5 a0 a1 (wrap64 (t123)) ((wrap64 (t123)) == (-2147483648)))) else (if a1 = 0 then (some (t123 == 0)) else (some false))) = some r := H
          have A12 := Aside0.mk A120
          clear A120
          by_cases c13 : t124 = 0
          · rw [if_pos c13] at H
            have c13b0 : (t124 == 0) = true := beq_iff_eq.mpr c13
            have c13b1 : (t124 != 0) = false := bne_eq_false_iff_eq.mpr c13
            clear c13
            have HC14 := Aside0.mk H
            clear H
            go_upto_region 11 with (first | ((with_reducible refine gate_callee (f := 10) rfl ?_); refine goesL_ (some 45) rfl rfl Try.func10 (by kernel_rfl) rfl #[.int .i32 a0, .int .i32 a1] rfl (by (try simp only [List.map_toArray, List.map_cons, List.map_nil]); first | done | rfl | (simp only [List.length_drop, List.length_take]; rfl)) ?_; (with_reducible refine (fx_Div.calls a0 a1 t123 t124 _ A12.out).mono ?_); rintro e w15 ⟨rfl, hb⟩; refine ⟨_, rfl, ?_⟩; have n0_ := Aside0.mk (below_step (by repeat (first | (with_reducible first | exact HB.out | apply below_alloc | apply pw_below_drewN | apply below_drew1) | exact HB.out)) hb); clear HB; have HB := n0_; clear n0_; (try clear hb); (try clear hb2); (try clear hk); (try clear hi)))
            (try simp only [Act.put, List.setIfInBounds_toArray, List.set_cons_zero, List.set_cons_succ])
            go_cut [63] (fun v63 wc => ∃ (kq : Nat) (x63_13 : Bool), v63 = .bool x63_13 ∧ Aside0 (billiardlaw02_FxBounds.j1 kq a0 a1 (wrap64 (t123)) x63_13 = some r) ∧ Aside0 (kq ≤ kj5) ∧ Aside0 (Below w.heap.size w wc))
            case first =>
              have H := HC14.out
              clear HC14
              by_cases c16 : (wrap64 (t123)) = 2147483647
              · rw [if_pos c16] at H
                have c16b0 : ((wrap64 (t123)) == 2147483647) = true := beq_iff_eq.mpr c16
                have c16b1 : ((wrap64 (t123)) != 2147483647) = false := bne_eq_false_iff_eq.mpr c16
                clear c16
                (first | rw [c16b0] | (simp only [i64_w, i32_w]; rw [c16b0]) | skip)
                have H' := Aside0.mk H
                clear H
                go_wp2
                go_meet
                case rel => exact ⟨_, (true), (by first | rfl | (simp; done) | (simp [*]; done)), H', ⟨by have := HJ5.out; first | omega | exact Nat.le_refl _⟩, ⟨by repeat (first | (with_reducible first | exact HB.out | apply below_alloc | apply pw_below_drewN | apply below_drew1) | exact HB.out)⟩⟩
              · rw [if_neg c16] at H
                have c16b0 : ((wrap64 (t123)) == 2147483647) = false := beq_eq_false_iff_ne.mpr c16
                have c16b1 : ((wrap64 (t123)) != 2147483647) = true := bne_iff_ne.mpr c16
                (first | rw [c16b0] | (simp only [i64_w, i32_w]; rw [c16b0]) | skip)
                have H' := Aside0.mk H
                clear H
                go_wp2
                go_meet
                case rel => exact ⟨_, (((wrap64 (t123)) == (-2147483648))), (by first | rfl | (simp; done) | (simp [*]; done)), H', ⟨by have := HJ5.out; first | omega | exact Nat.le_refl _⟩, ⟨by repeat (first | (with_reducible first | exact HB.out | apply below_alloc | apply pw_below_drewN | apply below_drew1) | exact HB.out)⟩⟩
            case rest =>
              clear HC14
              try clear c1
              try clear p2
              try clear c3
              try clear c4
              try clear p6
              try clear c8
              try clear c8b0
              try clear c9
              try clear c9b0
              try clear c10
              try clear c10b0
              try clear c11
              try clear c13
              try clear c13b0
              try clear c13b1
              try clear c16
              try clear c16b0
              try clear c16b1
              try clear p2
              try clear p6
              obtain ⟨kq, x63_13, rfl, HA, HJ13, HB⟩ := hcut
              cases kq with
              | zero => exact absurd HA.out (by simp [billiardlaw02_FxBounds.j1])
              | succ kj13 =>
                have H := HA.out
                clear HA
                simp only [billiardlaw02_FxBounds.j1] at H
                by_cases c17 : x63_13 = true
                · subst c17
                  have H1 : (some true) = some r := by rw [if_pos rfl] at H; exact H
                  clear H
                  have H := H1
                  clear H1
                  obtain rfl := Option.some.inj H
                  go_wp2
                  go_ret
                  exact ⟨by first | rfl | (simp [errW_none, errW_some] <;> rfl) | (simp [*, errW_none, errW_some] <;> rfl), by repeat (first | (with_reducible first | exact HB.out | apply below_alloc | apply pw_below_drewN | apply below_drew1) | exact HB.out)⟩
                · replace c17 := Bool.eq_false_iff.mpr c17
                  subst c17
                  have H1 : (if (wrap64 (a1)) > 0 then (if (wrap64 ((wrap64 (t123)) * (wrap64 (a1)))) ≤ (wrap64 ((wrap64 (a0)) * 65536)) then (some (decide ((wrap64 ((wrap64 ((wrap64 (t123)) + 1)) * (wrap64 (a1)))) > (wrap64 ((wrap64 (a0)) * 65536))))) else (some false)) else (if (wrap64 ((wrap64 (t123)) * (wrap64 (a1)))) ≥ (wrap64 ((wrap64 (a0)) * 65536)) then (some (decide ((wrap64 ((wrap64 ((wrap64 (t123)) + 1)) * (wrap64 (a1)))) < (wrap64 ((wrap64 (a0)) * 65536))))) else (some false))) = some r := by rw [if_neg (show ¬ (false = true) by decide)] at H; exact H
                  clear H
                  have H := H1
                  clear H1
                  by_cases c18 : (wrap64 (a1)) > 0
                  · rw [if_pos c18] at H
                    have c18b0 : decide (0 < (wrap64 (a1))) = true := decide_eq_true c18
                    clear c18
                    by_cases c19 : (wrap64 ((wrap64 (t123)) * (wrap64 (a1)))) ≤ (wrap64 ((wrap64 (a0)) * 65536))
                    · rw [if_pos c19] at H
                      have c19b0 : decide ((wrap64 ((wrap64 (t123)) * (wrap64 (a1)))) ≤ (wrap64 ((wrap64 (a0)) * 65536))) = true := decide_eq_true c19
                      clear c19
                      obtain rfl := Option.some.inj H
                      go_wp2
                      go_ret
                      exact ⟨by first | rfl | (simp [errW_none, errW_some] <;> rfl) | (simp [*, errW_none, errW_some] <;> rfl), by repeat (first | (with_reducible first | exact HB.out | apply below_alloc | apply pw_below_drewN | apply below_drew1) | exact HB.out)⟩
                    · rw [if_neg c19] at H
                      have c19b0 : decide ((wrap64 ((wrap64 (t123)) * (wrap64 (a1)))) ≤ (wrap64 ((wrap64 (a0)) * 65536))) = false := decide_eq_false c19
                      clear c19
                      obtain rfl := Option.some.inj H
                      go_wp2
                      go_ret
                      exact ⟨by first | rfl | (simp [errW_none, errW_some] <;> rfl) | (simp [*, errW_none, errW_some] <;> rfl), by repeat (first | (with_reducible first | exact HB.out | apply below_alloc | apply pw_below_drewN | apply below_drew1) | exact HB.out)⟩
                  · rw [if_neg c18] at H
                    have c18b0 : decide (0 < (wrap64 (a1))) = false := decide_eq_false c18
                    clear c18
                    by_cases c20 : (wrap64 ((wrap64 (t123)) * (wrap64 (a1)))) ≥ (wrap64 ((wrap64 (a0)) * 65536))
                    · rw [if_pos c20] at H
                      have c20b0 : decide ((wrap64 ((wrap64 (a0)) * 65536)) ≤ (wrap64 ((wrap64 (t123)) * (wrap64 (a1))))) = true := decide_eq_true c20
                      clear c20
                      obtain rfl := Option.some.inj H
                      go_wp2
                      go_ret
                      exact ⟨by first | rfl | (simp [errW_none, errW_some] <;> rfl) | (simp [*, errW_none, errW_some] <;> rfl), by repeat (first | (with_reducible first | exact HB.out | apply below_alloc | apply pw_below_drewN | apply below_drew1) | exact HB.out)⟩
                    · rw [if_neg c20] at H
                      have c20b0 : decide ((wrap64 ((wrap64 (a0)) * 65536)) ≤ (wrap64 ((wrap64 (t123)) * (wrap64 (a1))))) = false := decide_eq_false c20
                      clear c20
                      obtain rfl := Option.some.inj H
                      go_wp2
                      go_ret
                      exact ⟨by first | rfl | (simp [errW_none, errW_some] <;> rfl) | (simp [*, errW_none, errW_some] <;> rfl), by repeat (first | (with_reducible first | exact HB.out | apply below_alloc | apply pw_below_drewN | apply below_drew1) | exact HB.out)⟩
          · rw [if_neg c13] at H
            have c13b0 : (t124 == 0) = false := beq_eq_false_iff_ne.mpr c13
            have c13b1 : (t124 != 0) = true := bne_iff_ne.mpr c13
            by_cases c21 : a1 = 0
            · rw [if_pos c21] at H
              have c21b0 : (a1 == 0) = true := beq_iff_eq.mpr c21
              have c21b1 : (a1 != 0) = false := bne_eq_false_iff_eq.mpr c21
              clear c21
              obtain rfl := Option.some.inj H
              go_wp2_with (first | ((with_reducible refine gate_callee (f := 10) rfl ?_); refine goesL_ (some 45) rfl rfl Try.func10 (by kernel_rfl) rfl #[.int .i32 a0, .int .i32 a1] rfl (by (try simp only [List.map_toArray, List.map_cons, List.map_nil]); first | done | rfl | (simp only [List.length_drop, List.length_take]; rfl)) ?_; (with_reducible refine (fx_Div.calls a0 a1 t123 t124 _ A12.out).mono ?_); rintro e w22 ⟨rfl, hb⟩; refine ⟨_, rfl, ?_⟩; have n0_ := Aside0.mk (below_step (by repeat (first | (with_reducible first | exact HB.out | apply below_alloc | apply pw_below_drewN | apply below_drew1) | exact HB.out)) hb); clear HB; have HB := n0_; clear n0_; (try clear hb); (try clear hb2); (try clear hk); (try clear hi)))
              go_ret
              exact ⟨by first | rfl | (simp [errW_none, errW_some] <;> rfl) | (simp [*, errW_none, errW_some] <;> rfl), by repeat (first | (with_reducible first | exact HB.out | apply below_alloc | apply pw_below_drewN | apply below_drew1) | exact HB.out)⟩
            · rw [if_neg c21] at H
              have c21b0 : (a1 == 0) = false := beq_eq_false_iff_ne.mpr c21
              have c21b1 : (a1 != 0) = true := bne_iff_ne.mpr c21
              obtain rfl := Option.some.inj H
              go_wp2_with (first | ((with_reducible refine gate_callee (f := 10) rfl ?_); refine goesL_ (some 45) rfl rfl Try.func10 (by kernel_rfl) rfl #[.int .i32 a0, .int .i32 a1] rfl (by (try simp only [List.map_toArray, List.map_cons, List.map_nil]); first | done | rfl | (simp only [List.length_drop, List.length_take]; rfl)) ?_; (with_reducible refine (fx_Div.calls a0 a1 t123 t124 _ A12.out).mono ?_); rintro e w23 ⟨rfl, hb⟩; refine ⟨_, rfl, ?_⟩; have n0_ := Aside0.mk (below_step (by repeat (first | (with_reducible first | exact HB.out | apply below_alloc | apply pw_below_drewN | apply below_drew1) | exact HB.out)) hb); clear HB; have HB := n0_; clear n0_; (try clear hb); (try clear hb2); (try clear hk); (try clear hi)))
              go_ret
              exact ⟨by first | rfl | (simp [errW_none, errW_some] <;> rfl) | (simp [*, errW_none, errW_some] <;> rfl), by repeat (first | (with_reducible first | exact HB.out | apply below_alloc | apply pw_below_drewN | apply below_drew1) | exact HB.out)⟩
  · replace c4 := Bool.eq_false_iff.mpr c4
    subst c4
    have H1 : (some false) = some r := by rw [if_neg (show ¬ (false = true) by decide)] at H; exact H
    clear H
    have H := H1
    clear H1
    obtain rfl := Option.some.inj H
    go_enter Try.func3, Try.ntmps3
    go_wp2_with (first | ((with_reducible refine gate_callee (f := 8) rfl ?_); refine goesL_ (some 12) rfl rfl Try.func8 (by kernel_rfl) rfl #[] rfl (by (try simp only [List.map_toArray, List.map_cons, List.map_nil]); first | done | rfl | (simp only [List.length_drop, List.length_take]; rfl)) ?_; (with_reducible refine (billiardlaw02_awake.calls  false _ A3.out).mono ?_); rintro e w24 ⟨rfl, hb⟩; refine ⟨_, rfl, ?_⟩; have n0_ := Aside0.mk (below_step (by repeat (first | (with_reducible first | exact HB.out | apply below_alloc | apply pw_below_drewN | apply below_drew1) | exact HB.out)) hb); clear HB; have HB := n0_; clear n0_; (try clear hb); (try clear hb2); (try clear hk); (try clear hi)))
    go_ret
    exact ⟨by first | rfl | (simp [errW_none, errW_some] <;> rfl) | (simp [*, errW_none, errW_some] <;> rfl), by repeat (first | (with_reducible first | exact HB.out | apply below_alloc | apply pw_below_drewN | apply below_drew1) | exact HB.out)⟩

/-- THE ONE PURE STATEMENT of billiardlaw02_FxBounds: yours. -/
def billiardlaw02_FxBounds.Pure : Prop := ∀ (a0 : Int) (a1 : Int), (Lit.int .i32 a0).wf = true → (Lit.int .i32 a1).wf = true → ∃ k, billiardlaw02_FxBounds.f k a0 a1 = some true
theorem billiardlaw02_FxBounds.walk (P : billiardlaw02_FxBounds.Pure) (a0 : Int) (a1 : Int) (w : World) (w0 : (Lit.int .i32 a0).wf = true) (w1 : (Lit.int .i32 a1).wf = true) :
    Calls Try.prog 3 #[.int .i32 a0, .int .i32 a1] w fun e w' => e = .returned (.bool true) ∧ Below w.heap.size w w' := by
  obtain ⟨k, h⟩ := P a0 a1 w0 w1
  refine (billiardlaw02_FxBounds.calls k a0 a1 true w h).mono ?_
  rintro e w' ⟨rfl, hd⟩
  exact ⟨rfl, hd⟩

end Go.Proofs.Ytkkmknkpopgliaa.Q
