-- PRINTED by print.py (a twelfth state) out of the translation. Not trusted: Lean checks it.
import Derived.Test.YtjgeakahbelgiaaQ0
import Derived.Test.YtjgeakahbelgiaaQbilliardlaw04
import Derived.Test.YtjgeakahbelgiaaQbilliardref04
import Derived.Test.YtjgeakahbelgiaaQvec
namespace Go.Proofs.Ytjgeakahbelgiaa.Q
open Go.RowKit Go.Proofs.YtjgeakahbelgiaaW.PrintWords Go.Proofs.YtjgeakahbelgiaaW.PrintLast Go.Proofs.YtjgeakahbelgiaaW.PrintMore
attribute [local go_sem] max2_int min2_int max_two min_two max_three min_three max_four min_four   -- for this text's walks alone
set_option linter.unusedVariables false
set_option linter.unusedSimpArgs false

/-! ### billiardlaw04_VecLength: function 5 -/
mutual
def billiardlaw04_VecLength.j0 : Nat → Int → Int → Bool → Option (Bool)
  | 0, _, _, _ => none
  | k + 1, x0, x1, x19 => if x19 = true then ((billiardlaw04_awake.f k).bind fun t160 => (some t160)) else ((vec_Length.f k x0 x1).bind fun t161 => (if x0 < 0 then (billiardlaw04_VecLength.j1 k x0 x1 t161 (wrap64 (-x0))) else (billiardlaw04_VecLength.j1 k x0 x1 t161 x0)))
def billiardlaw04_VecLength.j1 : Nat → Int → Int → Int → Int → Option (Bool)
  | 0, _, _, _, _ => none
  | k + 1, x0, x1, x5, x6 => if x1 < 0 then (if x5 ≥ x6 then (if x5 ≥ (wrap64 (-x1)) then (if x5 ≤ (wrap64 (x6 + (wrap64 (-x1)))) then ((vec_LengthSq.f x0 x1).bind fun t162 => (some (decide ((IntKind.u64.wrap ((IntKind.u64.wrap (x5)) * (IntKind.u64.wrap (x5)))) ≤ t162)))) else (some false)) else (some false)) else (some false)) else (if x5 ≥ x6 then (if x5 ≥ x1 then (if x5 ≤ (wrap64 (x6 + x1)) then ((vec_LengthSq.f x0 x1).bind fun t163 => (some (decide ((IntKind.u64.wrap ((IntKind.u64.wrap (x5)) * (IntKind.u64.wrap (x5)))) ≤ t163)))) else (some false)) else (some false)) else (some false))
end
def billiardlaw04_VecLength.f (k : Nat) (a0 : Int) (a1 : Int) : Option (Bool) := (billiardlaw04_awake.f k).bind fun t157 => (if t157 = true then ((billiardref04_In.f a0).bind fun t158 => (if t158 = true then ((billiardref04_In.f a1).bind fun t159 => (billiardlaw04_VecLength.j0 k a0 a1 (!t159))) else (billiardlaw04_VecLength.j0 k a0 a1 true))) else (billiardlaw04_VecLength.j0 k a0 a1 true))
theorem billiardlaw04_VecLength.mono_l : ∀ k, (∀ y0 y1 y2, LeO (billiardlaw04_VecLength.j0 k y0 y1 y2) (billiardlaw04_VecLength.j0 (k + 1) y0 y1 y2)) ∧ (∀ y0 y1 y2 y3, LeO (billiardlaw04_VecLength.j1 k y0 y1 y2 y3) (billiardlaw04_VecLength.j1 (k + 1) y0 y1 y2 y3))
  | 0 => ⟨fun _ _ _ r h => by simp [billiardlaw04_VecLength.j0] at h, fun _ _ _ _ r h => by simp [billiardlaw04_VecLength.j1] at h⟩
  | k + 1 => by
    obtain ⟨ih0, ih1⟩ := billiardlaw04_VecLength.mono_l k
    refine ⟨?_, ?_⟩
    · intro y0 y1 y2
      unfold billiardlaw04_VecLength.j0
      repeat' first
      | (with_reducible exact ih0 _ _ _)
      | (with_reducible exact ih1 _ _ _ _)
      | (with_reducible exact billiardlaw04_awake.mono _)
      | (with_reducible exact vec_Length.mono _ _ _)
      | (with_reducible exact LeO.refl _)
      | (with_reducible exact LeO.none _)
      | (with_reducible refine LeO.ite ?_ ?_)
      | (with_reducible refine LeO.bind ?_ (fun _ => ?_))
      | exact ih0 _ _ _
      | exact ih1 _ _ _ _
      | exact billiardlaw04_awake.mono _
      | exact vec_Length.mono _ _ _
      | exact LeO.none _
      | refine LeO.ite ?_ ?_
      | refine LeO.bind ?_ (fun _ => ?_)
    · intro y0 y1 y2 y3
      unfold billiardlaw04_VecLength.j1
      repeat' first
      | (with_reducible exact ih0 _ _ _)
      | (with_reducible exact ih1 _ _ _ _)
      | (with_reducible exact billiardlaw04_awake.mono _)
      | (with_reducible exact vec_Length.mono _ _ _)
      | (with_reducible exact LeO.refl _)
      | (with_reducible exact LeO.none _)
      | (with_reducible refine LeO.ite ?_ ?_)
      | (with_reducible refine LeO.bind ?_ (fun _ => ?_))
      | exact ih0 _ _ _
      | exact ih1 _ _ _ _
      | exact billiardlaw04_awake.mono _
      | exact vec_Length.mono _ _ _
      | exact LeO.none _
      | refine LeO.ite ?_ ?_
      | refine LeO.bind ?_ (fun _ => ?_)
theorem billiardlaw04_VecLength.mono : ∀ a0 a1 k, LeO (billiardlaw04_VecLength.f k a0 a1) (billiardlaw04_VecLength.f (k + 1) a0 a1) := by
  intro a0 a1 k
  obtain ⟨ih0, ih1⟩ := billiardlaw04_VecLength.mono_l k
  unfold billiardlaw04_VecLength.f
  repeat' first
      | (with_reducible exact ih0 _ _ _)
      | (with_reducible exact ih1 _ _ _ _)
      | (with_reducible exact billiardlaw04_awake.mono _)
      | (with_reducible exact vec_Length.mono _ _ _)
      | (with_reducible exact LeO.refl _)
      | (with_reducible exact LeO.none _)
      | (with_reducible refine LeO.ite ?_ ?_)
      | (with_reducible refine LeO.bind ?_ (fun _ => ?_))
      | exact ih0 _ _ _
      | exact ih1 _ _ _ _
      | exact billiardlaw04_awake.mono _
      | exact vec_Length.mono _ _ _
      | exact LeO.none _
      | refine LeO.ite ?_ ?_
      | refine LeO.bind ?_ (fun _ => ?_)
set_option maxHeartbeats 8000000 in
set_option maxRecDepth 100000 in
theorem billiardlaw04_VecLength.calls (k : Nat) (a0 : Int) (a1 : Int) (r : Bool) (w : World) (h : billiardlaw04_VecLength.f k a0 a1 = some r) :
    Calls Try.prog 5 #[.int .i64 a0, .int .i64 a1] w fun e w' => e = .returned (.bool r) ∧ Below w.heap.size w w' := by
  have HB := Aside0.mk (Below.refl w.heap.size w)
  have H : ((billiardlaw04_awake.f k).bind fun t157 => (if t157 = true then ((billiardref04_In.f a0).bind fun t158 => (if t158 = true then ((billiardref04_In.f a1).bind fun t159 => (billiardlaw04_VecLength.j0 k a0 a1 (!t159))) else (billiardlaw04_VecLength.j0 k a0 a1 true))) else (billiardlaw04_VecLength.j0 k a0 a1 true))) = some r := h
  clear h
  have HC3 := Aside0.mk H
  clear H
  go_enter Try.func5, Try.ntmps5
  go_upto_region 1 with (fail)
  go_cut [19] (fun v19 wc => ∃ (kq : Nat) (x19_2 : Bool), v19 = .bool x19_2 ∧ Aside0 (billiardlaw04_VecLength.j0 kq a0 a1 x19_2 = some r) ∧ Aside0 (kq ≤ k) ∧ Aside0 (Below w.heap.size w wc))
  case first =>
    have H := HC3.out
    clear HC3
    replace H := Option.bind_eq_some_iff.mp H
    obtain ⟨t157, A40, H⟩ := H
    replace H : (if t157 = true then ((billiardref04_In.f a0).bind fun t158 => (if t158 = true then ((billiardref04_In.f a1).bind fun t159 => (billiardlaw04_VecLength.j0 k a0 a1 (!t159))) else (billiardlaw04_VecLength.j0 k a0 a1 true))) else (billiardlaw04_VecLength.j0 k a0 a1 true)) = some r := H
    have A4 := Aside0.mk A40
    clear A40
    by_cases c5 : t157 = true
    · subst c5
      have H1 : ((billiardref04_In.f a0).bind fun t158 => (if t158 = true then ((billiardref04_In.f a1).bind fun t159 => (billiardlaw04_VecLength.j0 k a0 a1 (!t159))) else (billiardlaw04_VecLength.j0 k a0 a1 true))) = some r := by rw [if_pos rfl] at H; exact H
      clear H
      have H := H1
      clear H1
      replace H := Option.bind_eq_some_iff.mp H
      obtain ⟨t158, A60, H⟩ := H
      replace H : (if t158 = true then ((billiardref04_In.f a1).bind fun t159 => (billiardlaw04_VecLength.j0 k a0 a1 (!t159))) else (billiardlaw04_VecLength.j0 k a0 a1 true)) = some r := H
      have A6 := Aside0.mk A60
      clear A60
      by_cases c7 : t158 = true
      · subst c7
        have H1 : ((billiardref04_In.f a1).bind fun t159 => (billiardlaw04_VecLength.j0 k a0 a1 (!t159))) = some r := by rw [if_pos rfl] at H; exact H
        clear H
        have H := H1
        clear H1
        replace H := Option.bind_eq_some_iff.mp H
        obtain ⟨t159, A80, H⟩ := H
        replace H : (billiardlaw04_VecLength.j0 k a0 a1 (!t159)) = some r := H
        have A8 := Aside0.mk A80
        clear A80
        have H' := Aside0.mk H
        clear H
        go_wp2_with (first | ((with_reducible refine gate_callee (f := 8) rfl ?_); refine goesL_ (some 8) rfl rfl Try.func8 (by kernel_rfl) rfl #[] rfl (by (try simp only [List.map_toArray, List.map_cons, List.map_nil]); first | done | rfl | (simp only [List.length_drop, List.length_take]; rfl)) ?_; (with_reducible refine (billiardlaw04_awake.calls k  true _ A4.out).mono ?_); rintro e w9 ⟨rfl, hb⟩; refine ⟨_, rfl, ?_⟩; have n0_ := Aside0.mk (below_step (by repeat (first | (with_reducible first | exact HB.out | apply below_alloc | apply pw_below_drewN | apply below_drew1) | exact HB.out)) hb); clear HB; have HB := n0_; clear n0_; (try clear hb); (try clear hb2); (try clear hk); (try clear hi)) | (go_at_call 9; (with_reducible refine (billiardref04_In.calls a0 true _ A6.out).mono ?_); rintro e w' ⟨rfl, ⟨nd, rfl⟩⟩) | (go_at_call 9; (with_reducible refine (billiardref04_In.calls a1 t159 _ A8.out).mono ?_); rintro e w' ⟨rfl, ⟨nd, rfl⟩⟩))
        go_meet
        case rel => exact ⟨_, (!t159), (by first | rfl | (simp; done) | (simp [*]; done)), H', ⟨by first | omega | exact Nat.le_refl _⟩, ⟨by repeat (first | (with_reducible first | exact HB.out | apply below_alloc | apply pw_below_drewN | apply below_drew1) | exact HB.out)⟩⟩
      · replace c7 := Bool.eq_false_iff.mpr c7
        subst c7
        have H1 : (billiardlaw04_VecLength.j0 k a0 a1 true) = some r := by rw [if_neg (show ¬ (false = true) by decide)] at H; exact H
        clear H
        have H := H1
        clear H1
        have H' := Aside0.mk H
        clear H
        go_wp2_with (first | ((with_reducible refine gate_callee (f := 8) rfl ?_); refine goesL_ (some 8) rfl rfl Try.func8 (by kernel_rfl) rfl #[] rfl (by (try simp only [List.map_toArray, List.map_cons, List.map_nil]); first | done | rfl | (simp only [List.length_drop, List.length_take]; rfl)) ?_; (with_reducible refine (billiardlaw04_awake.calls k  true _ A4.out).mono ?_); rintro e w10 ⟨rfl, hb⟩; refine ⟨_, rfl, ?_⟩; have n0_ := Aside0.mk (below_step (by repeat (first | (with_reducible first | exact HB.out | apply below_alloc | apply pw_below_drewN | apply below_drew1) | exact HB.out)) hb); clear HB; have HB := n0_; clear n0_; (try clear hb); (try clear hb2); (try clear hk); (try clear hi)) | (go_at_call 9; (with_reducible refine (billiardref04_In.calls a0 false _ A6.out).mono ?_); rintro e w' ⟨rfl, ⟨nd, rfl⟩⟩))
        go_meet
        case rel => exact ⟨_, (true), (by first | rfl | (simp; done) | (simp [*]; done)), H', ⟨by first | omega | exact Nat.le_refl _⟩, ⟨by repeat (first | (with_reducible first | exact HB.out | apply below_alloc | apply pw_below_drewN | apply below_drew1) | exact HB.out)⟩⟩
    · replace c5 := Bool.eq_false_iff.mpr c5
      subst c5
      have H1 : (billiardlaw04_VecLength.j0 k a0 a1 true) = some r := by rw [if_neg (show ¬ (false = true) by decide)] at H; exact H
      clear H
      have H := H1
      clear H1
      have H' := Aside0.mk H
      clear H
      go_wp2_with (first | ((with_reducible refine gate_callee (f := 8) rfl ?_); refine goesL_ (some 8) rfl rfl Try.func8 (by kernel_rfl) rfl #[] rfl (by (try simp only [List.map_toArray, List.map_cons, List.map_nil]); first | done | rfl | (simp only [List.length_drop, List.length_take]; rfl)) ?_; (with_reducible refine (billiardlaw04_awake.calls k  false _ A4.out).mono ?_); rintro e w11 ⟨rfl, hb⟩; refine ⟨_, rfl, ?_⟩; have n0_ := Aside0.mk (below_step (by repeat (first | (with_reducible first | exact HB.out | apply below_alloc | apply pw_below_drewN | apply below_drew1) | exact HB.out)) hb); clear HB; have HB := n0_; clear n0_; (try clear hb); (try clear hb2); (try clear hk); (try clear hi)))
      go_meet
      case rel => exact ⟨_, (true), (by first | rfl | (simp; done) | (simp [*]; done)), H', ⟨by first | omega | exact Nat.le_refl _⟩, ⟨by repeat (first | (with_reducible first | exact HB.out | apply below_alloc | apply pw_below_drewN | apply below_drew1) | exact HB.out)⟩⟩
  case rest =>
    clear HC3
    try clear p2
    try clear c5
    try clear c7
    try clear c8
    obtain ⟨kq, x19_2, rfl, HA, HJ2, HB⟩ := hcut
    cases kq with
    | zero => exact absurd HA.out (by simp [billiardlaw04_VecLength.j0])
    | succ kj2 =>
      have H := HA.out
      clear HA
      simp only [billiardlaw04_VecLength.j0] at H
      by_cases c12 : x19_2 = true
      · subst c12
        have H1 : ((billiardlaw04_awake.f kj2).bind fun t160 => (some t160)) = some r := by rw [if_pos rfl] at H; exact H
        clear H
        have H := H1
        clear H1
        replace H := Option.bind_eq_some_iff.mp H
        obtain ⟨t160, A130, H⟩ := H
        replace H : (some t160) = some r := H
        have A13 := Aside0.mk A130
        clear A130
        obtain rfl := Option.some.inj H
        go_wp2_with (first | ((with_reducible refine gate_callee (f := 8) rfl ?_); refine goesL_ (some 20) rfl rfl Try.func8 (by kernel_rfl) rfl #[] rfl (by (try simp only [List.map_toArray, List.map_cons, List.map_nil]); first | done | rfl | (simp only [List.length_drop, List.length_take]; rfl)) ?_; (with_reducible refine (billiardlaw04_awake.calls kj2  t160 _ A13.out).mono ?_); rintro e w14 ⟨rfl, hb⟩; refine ⟨_, rfl, ?_⟩; have n0_ := Aside0.mk (below_step (by repeat (first | (with_reducible first | exact HB.out | apply below_alloc | apply pw_below_drewN | apply below_drew1) | exact HB.out)) hb); clear HB; have HB := n0_; clear n0_; (try clear hb); (try clear hb2); (try clear hk); (try clear hi)))
        go_ret
        exact ⟨by first | rfl | (simp [errW_none, errW_some] <;> rfl) | (simp [*, errW_none, errW_some] <;> rfl), by repeat (first | (with_reducible first | exact HB.out | apply below_alloc | apply pw_below_drewN | apply below_drew1) | exact HB.out)⟩
      · replace c12 := Bool.eq_false_iff.mpr c12
        subst c12
        have H1 : ((vec_Length.f kj2 a0 a1).bind fun t161 => (if a0 < 0 then (billiardlaw04_VecLength.j1 kj2 a0 a1 t161 (wrap64 (-a0))) else (billiardlaw04_VecLength.j1 kj2 a0 a1 t161 a0))) = some r := by rw [if_neg (show ¬ (false = true) by decide)] at H; exact H
        clear H
        have H := H1
        clear H1
        replace H := Option.bind_eq_some_iff.mp H
        obtain ⟨t161, A150, H⟩ := H
        replace H : (if a0 < 0 then (billiardlaw04_VecLength.j1 kj2 a0 a1 t161 (wrap64 (-a0))) else (billiardlaw04_VecLength.j1 kj2 a0 a1 t161 a0)) = some r := H
        have A15 := Aside0.mk A150
        clear A150
        have HC16 := Aside0.mk H
        clear H
        go_upto_if 26 with (first | ((with_reducible refine gate_callee (f := 11) rfl ?_); refine goesL_ (some 23) rfl rfl Try.func11 (by kernel_rfl) rfl #[.int .i64 a0, .int .i64 a1] rfl (by (try simp only [List.map_toArray, List.map_cons, List.map_nil]); first | done | rfl | (simp only [List.length_drop, List.length_take]; rfl)) ?_; (with_reducible refine (vec_Length.calls kj2 a0 a1 t161 _ A15.out).mono ?_); rintro e w' ⟨rfl, ⟨nd, rfl⟩⟩; refine ⟨_, rfl, ?_⟩))
        (try simp only [Act.put, List.setIfInBounds_toArray, List.set_cons_zero, List.set_cons_succ])
        go_cut [6] (fun v6 wc => ∃ (kq : Nat) (x6_15 : Int), v6 = .int .i64 x6_15 ∧ Aside0 (billiardlaw04_VecLength.j1 kq a0 a1 t161 x6_15 = some r) ∧ Aside0 (kq ≤ kj2) ∧ Aside0 (Below w.heap.size w wc))
        case first =>
          have H := HC16.out
          clear HC16
          by_cases c17 : a0 < 0
          · rw [if_pos c17] at H
            have c17b0 : decide (a0 < 0) = true := decide_eq_true c17
            clear c17
            (first | rw [c17b0] | (simp only [i64_w, i32_w]; rw [c17b0]) | skip)
            have H' := Aside0.mk H
            clear H
            go_wp2
            go_meet
            case rel => exact ⟨_, (wrap64 (-a0)), (by first | rfl | (simp; done) | (simp [*]; done)), H', ⟨by have := HJ2.out; first | omega | exact Nat.le_refl _⟩, ⟨by repeat (first | (with_reducible first | exact HB.out | apply below_alloc | apply pw_below_drewN | apply below_drew1) | exact HB.out)⟩⟩
          · rw [if_neg c17] at H
            have c17b0 : decide (a0 < 0) = false := decide_eq_false c17
            clear c17
            (first | rw [c17b0] | (simp only [i64_w, i32_w]; rw [c17b0]) | skip)
            have H' := Aside0.mk H
            clear H
            go_wp2
            go_meet
            case rel => exact ⟨_, (a0), (by first | rfl | (simp; done) | (simp [*]; done)), H', ⟨by have := HJ2.out; first | omega | exact Nat.le_refl _⟩, ⟨by repeat (first | (with_reducible first | exact HB.out | apply below_alloc | apply pw_below_drewN | apply below_drew1) | exact HB.out)⟩⟩
        case rest =>
          clear HC16
          try clear c1
          try clear p2
          try clear c5
          try clear p6
          try clear c7
          try clear c8
          try clear c11
          try clear c12
          try clear c17
          try clear c17b0
          try clear p2
          obtain ⟨kq, x6_15, rfl, HA, HJ15, HB⟩ := hcut
          cases kq with
          | zero => exact absurd HA.out (by simp [billiardlaw04_VecLength.j1])
          | succ kj15 =>
            have H := HA.out
            clear HA
            simp only [billiardlaw04_VecLength.j1] at H
            by_cases c18 : a1 < 0
            · rw [if_pos c18] at H
              have c18b0 : decide (a1 < 0) = true := decide_eq_true c18
              clear c18
              by_cases c19 : t161 ≥ x6_15
              · rw [if_pos c19] at H
                have c19b0 : decide (x6_15 ≤ t161) = true := decide_eq_true c19
                clear c19
                by_cases c20 : t161 ≥ (wrap64 (-a1))
                · rw [if_pos c20] at H
                  have c20b0 : decide ((wrap64 (-a1)) ≤ t161) = true := decide_eq_true c20
                  clear c20
                  by_cases c21 : t161 ≤ (wrap64 (x6_15 + (wrap64 (-a1))))
                  · rw [if_pos c21] at H
                    have c21b0 : decide (t161 ≤ (wrap64 (x6_15 + (wrap64 (-a1))))) = true := decide_eq_true c21
                    clear c21
                    replace H := Option.bind_eq_some_iff.mp H
                    obtain ⟨t162, A220, H⟩ := H
                    replace H : (some (decide ((IntKind.u64.wrap ((IntKind.u64.wrap (t161)) * (IntKind.u64.wrap (t161)))) ≤ t162))) = some r := H
                    have A22 := Aside0.mk A220
                    clear A220
                    obtain rfl := Option.some.inj H
                    go_wp2_with (first | (go_at_call 12; (with_reducible refine (vec_LengthSq.calls a0 a1 t162 _ A22.out).mono ?_); rintro e w' ⟨rfl, ⟨nd, rfl⟩⟩))
                    go_ret
                    exact ⟨by first | rfl | (simp [errW_none, errW_some] <;> rfl) | (simp [*, errW_none, errW_some] <;> rfl), by repeat (first | (with_reducible first | exact HB.out | apply below_alloc | apply pw_below_drewN | apply below_drew1) | exact HB.out)⟩
                  · rw [if_neg c21] at H
                    have c21b0 : decide (t161 ≤ (wrap64 (x6_15 + (wrap64 (-a1))))) = false := decide_eq_false c21
                    clear c21
                    obtain rfl := Option.some.inj H
                    go_wp2
                    go_ret
                    exact ⟨by first | rfl | (simp [errW_none, errW_some] <;> rfl) | (simp [*, errW_none, errW_some] <;> rfl), by repeat (first | (with_reducible first | exact HB.out | apply below_alloc | apply pw_below_drewN | apply below_drew1) | exact HB.out)⟩
                · rw [if_neg c20] at H
                  have c20b0 : decide ((wrap64 (-a1)) ≤ t161) = false := decide_eq_false c20
                  clear c20
                  obtain rfl := Option.some.inj H
                  go_wp2
                  go_ret
                  exact ⟨by first | rfl | (simp [errW_none, errW_some] <;> rfl) | (simp [*, errW_none, errW_some] <;> rfl), by repeat (first | (with_reducible first | exact HB.out | apply below_alloc | apply pw_below_drewN | apply below_drew1) | exact HB.out)⟩
              · rw [if_neg c19] at H
                have c19b0 : decide (x6_15 ≤ t161) = false := decide_eq_false c19
                clear c19
                obtain rfl := Option.some.inj H
                go_wp2
                go_ret
                exact ⟨by first | rfl | (simp [errW_none, errW_some] <;> rfl) | (simp [*, errW_none, errW_some] <;> rfl), by repeat (first | (with_reducible first | exact HB.out | apply below_alloc | apply pw_below_drewN | apply below_drew1) | exact HB.out)⟩
            · rw [if_neg c18] at H
              have c18b0 : decide (a1 < 0) = false := decide_eq_false c18
              clear c18
              by_cases c23 : t161 ≥ x6_15
              · rw [if_pos c23] at H
                have c23b0 : decide (x6_15 ≤ t161) = true := decide_eq_true c23
                clear c23
                by_cases c24 : t161 ≥ a1
                · rw [if_pos c24] at H
                  have c24b0 : decide (a1 ≤ t161) = true := decide_eq_true c24
                  clear c24
                  by_cases c25 : t161 ≤ (wrap64 (x6_15 + a1))
                  · rw [if_pos c25] at H
                    have c25b0 : decide (t161 ≤ (wrap64 (x6_15 + a1))) = true := decide_eq_true c25
                    clear c25
                    replace H := Option.bind_eq_some_iff.mp H
                    obtain ⟨t163, A260, H⟩ := H
                    replace H : (some (decide ((IntKind.u64.wrap ((IntKind.u64.wrap (t161)) * (IntKind.u64.wrap (t161)))) ≤ t163))) = some r := H
                    have A26 := Aside0.mk A260
                    clear A260
                    obtain rfl := Option.some.inj H
                    go_wp2_with (first | (go_at_call 12; (with_reducible refine (vec_LengthSq.calls a0 a1 t163 _ A26.out).mono ?_); rintro e w' ⟨rfl, ⟨nd, rfl⟩⟩))
                    go_ret
                    exact ⟨by first | rfl | (simp [errW_none, errW_some] <;> rfl) | (simp [*, errW_none, errW_some] <;> rfl), by repeat (first | (with_reducible first | exact HB.out | apply below_alloc | apply pw_below_drewN | apply below_drew1) | exact HB.out)⟩
                  · rw [if_neg c25] at H
                    have c25b0 : decide (t161 ≤ (wrap64 (x6_15 + a1))) = false := decide_eq_false c25
                    clear c25
                    obtain rfl := Option.some.inj H
                    go_wp2
                    go_ret
                    exact ⟨by first | rfl | (simp [errW_none, errW_some] <;> rfl) | (simp [*, errW_none, errW_some] <;> rfl), by repeat (first | (with_reducible first | exact HB.out | apply below_alloc | apply pw_below_drewN | apply below_drew1) | exact HB.out)⟩
                · rw [if_neg c24] at H
                  have c24b0 : decide (a1 ≤ t161) = false := decide_eq_false c24
                  clear c24
                  obtain rfl := Option.some.inj H
                  go_wp2
                  go_ret
                  exact ⟨by first | rfl | (simp [errW_none, errW_some] <;> rfl) | (simp [*, errW_none, errW_some] <;> rfl), by repeat (first | (with_reducible first | exact HB.out | apply below_alloc | apply pw_below_drewN | apply below_drew1) | exact HB.out)⟩
              · rw [if_neg c23] at H
                have c23b0 : decide (x6_15 ≤ t161) = false := decide_eq_false c23
                clear c23
                obtain rfl := Option.some.inj H
                go_wp2
                go_ret
                exact ⟨by first | rfl | (simp [errW_none, errW_some] <;> rfl) | (simp [*, errW_none, errW_some] <;> rfl), by repeat (first | (with_reducible first | exact HB.out | apply below_alloc | apply pw_below_drewN | apply below_drew1) | exact HB.out)⟩

/-- THE ONE PURE STATEMENT of billiardlaw04_VecLength: yours. -/
def billiardlaw04_VecLength.Pure : Prop := ∀ (a0 : Int) (a1 : Int), (Lit.int .i64 a0).wf = true → (Lit.int .i64 a1).wf = true → ∃ k, billiardlaw04_VecLength.f k a0 a1 = some true
theorem billiardlaw04_VecLength.walk (P : billiardlaw04_VecLength.Pure) (a0 : Int) (a1 : Int) (w : World) (w0 : (Lit.int .i64 a0).wf = true) (w1 : (Lit.int .i64 a1).wf = true) :
    Calls Try.prog 5 #[.int .i64 a0, .int .i64 a1] w fun e w' => e = .returned (.bool true) ∧ Below w.heap.size w w' := by
  obtain ⟨k, h⟩ := P a0 a1 w0 w1
  refine (billiardlaw04_VecLength.calls k a0 a1 true w h).mono ?_
  rintro e w' ⟨rfl, hd⟩
  exact ⟨rfl, hd⟩

end Go.Proofs.Ytjgeakahbelgiaa.Q
