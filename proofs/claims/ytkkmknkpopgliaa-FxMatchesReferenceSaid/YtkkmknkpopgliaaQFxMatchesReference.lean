-- PRINTED by print.py (a twelfth state) out of the translation. Not trusted: Lean checks it.
import Derived.Test.YtkkmknkpopgliaaQ0
import Derived.Test.YtkkmknkpopgliaaQbilliardlaw02
import Derived.Test.YtkkmknkpopgliaaQbilliardref01
import Derived.Test.YtkkmknkpopgliaaQbilliardref02
import Derived.Test.YtkkmknkpopgliaaQfx
namespace Go.Proofs.Ytkkmknkpopgliaa.Q
open Go.RowKit Go.Proofs.YtkkmknkpopgliaaW.PrintWords Go.Proofs.YtkkmknkpopgliaaW.PrintLast Go.Proofs.YtkkmknkpopgliaaW.PrintMore
attribute [local go_sem] max2_int min2_int max_two min_two max_three min_three max_four min_four   -- for this text's walks alone
set_option linter.unusedVariables false
set_option linter.unusedSimpArgs false

/-! ### billiardlaw02_FxMatchesReference: function 6 -/
mutual
def billiardlaw02_FxMatchesReference.j0 : Nat → Int → Int → Int → Int → Bool → Option (Bool)
  | 0, _, _, _, _, _ => none
  | k + 1, x0, x1, x2, x3, x63 => if x63 = true then (some false) else (if x3 ≥ 0 then ((fx_Limit.f x2 x3).bind fun bt159 => ((billiardref02_Limit.f x2 x3).bind fun t161 => (if bt159.1 = t161 then (if (bt159.2 != (bt159.1 != x2)) = true then (some false) else (billiardlaw02_FxMatchesReference.j1 k x0 x1)) else (some false)))) else (billiardlaw02_FxMatchesReference.j1 k x0 x1))
def billiardlaw02_FxMatchesReference.j1 : Nat → Int → Int → Option (Bool)
  | 0, _, _ => none
  | k + 1, x0, x1 => if (wrap64 (x0)) < 0 then (billiardlaw02_FxMatchesReference.j2 k x0 x1 (wrap64 (x0)) (wrap64 (x1)) (wrap64 (-(wrap64 (x0))))) else (billiardlaw02_FxMatchesReference.j2 k x0 x1 (wrap64 (x0)) (wrap64 (x1)) (wrap64 (x0)))
def billiardlaw02_FxMatchesReference.j2 : Nat → Int → Int → Int → Int → Int → Option (Bool)
  | 0, _, _, _, _, _ => none
  | k + 1, x0, x1, x15, x16, x17 => (billiardref01_Floor.f x15 65536).bind fun t162 => ((fx_Add.f x0 x1).bind fun t163 => ((billiardref02_Saturate.f (wrap64 (x15 + x16))).bind fun t164 => (if t163 = t164 then ((fx_Sub.f x0 x1).bind fun t165 => ((billiardref02_Saturate.f (wrap64 (x15 - x16))).bind fun t166 => (if t165 = t166 then ((fx_Neg.f x0).bind fun t167 => ((billiardref02_Saturate.f (wrap64 (-x15))).bind fun t168 => (if t167 = t168 then ((fx_Abs.f x0).bind fun t169 => ((billiardref02_Saturate.f x17).bind fun t170 => (if t169 = t170 then ((fx_Floor.f x0).bind fun t171 => (if (wrap64 (t171)) = t162 then ((fx_Frac.f x0).bind fun t172 => (some ((wrap64 (t172)) == (wrap64 (x15 - (wrap64 (t162 * 65536))))))) else (some false))) else (some false)))) else (some false)))) else (some false)))) else (some false))))
end
def billiardlaw02_FxMatchesReference.f (k : Nat) (a0 : Int) (a1 : Int) (a2 : Int) (a3 : Int) : Option (Bool) := (billiardlaw02_awake.f).bind fun t148 => (if t148 = true then ((fx_Div.f a0 a1).bind fun bt149 => ((billiardref02_Div.f a0 a1).bind fun bt151 => (if bt149.1 = bt151.1 then (if bt149.2 = bt151.2 then ((fx_Mul.f a0 a1).bind fun t153 => ((billiardref02_Mul.f a0 a1).bind fun t154 => (if t153 = t154 then ((fx_Saturate.f a2).bind fun t155 => ((billiardref02_Saturate.f a2).bind fun t156 => (if t155 = t156 then ((fx_FromInt.f a2).bind fun t157 => ((billiardref02_FromInt.f a2).bind fun t158 => (billiardlaw02_FxMatchesReference.j0 k a0 a1 a2 a3 (t157 != t158)))) else (billiardlaw02_FxMatchesReference.j0 k a0 a1 a2 a3 true)))) else (billiardlaw02_FxMatchesReference.j0 k a0 a1 a2 a3 true)))) else (billiardlaw02_FxMatchesReference.j0 k a0 a1 a2 a3 true)) else (billiardlaw02_FxMatchesReference.j0 k a0 a1 a2 a3 true)))) else (some false))
theorem billiardlaw02_FxMatchesReference.mono_l : ∀ k, (∀ y0 y1 y2 y3 y4, LeO (billiardlaw02_FxMatchesReference.j0 k y0 y1 y2 y3 y4) (billiardlaw02_FxMatchesReference.j0 (k + 1) y0 y1 y2 y3 y4)) ∧ (∀ y0 y1, LeO (billiardlaw02_FxMatchesReference.j1 k y0 y1) (billiardlaw02_FxMatchesReference.j1 (k + 1) y0 y1)) ∧ (∀ y0 y1 y2 y3 y4, LeO (billiardlaw02_FxMatchesReference.j2 k y0 y1 y2 y3 y4) (billiardlaw02_FxMatchesReference.j2 (k + 1) y0 y1 y2 y3 y4))
  | 0 => ⟨fun _ _ _ _ _ r h => by simp [billiardlaw02_FxMatchesReference.j0] at h, fun _ _ r h => by simp [billiardlaw02_FxMatchesReference.j1] at h, fun _ _ _ _ _ r h => by simp [billiardlaw02_FxMatchesReference.j2] at h⟩
  | k + 1 => by
    obtain ⟨ih0, ih1, ih2⟩ := billiardlaw02_FxMatchesReference.mono_l k
    refine ⟨?_, ?_, ?_⟩
    · intro y0 y1 y2 y3 y4
      unfold billiardlaw02_FxMatchesReference.j0
      repeat' first
      | (with_reducible exact ih0 _ _ _ _ _)
      | (with_reducible exact ih1 _ _)
      | (with_reducible exact ih2 _ _ _ _ _)
      | (with_reducible exact LeO.refl _)
      | (with_reducible exact LeO.none _)
      | (with_reducible refine LeO.ite ?_ ?_)
      | (with_reducible refine LeO.bind ?_ (fun _ => ?_))
      | exact ih0 _ _ _ _ _
      | exact ih1 _ _
      | exact ih2 _ _ _ _ _
      | exact LeO.none _
      | refine LeO.ite ?_ ?_
      | refine LeO.bind ?_ (fun _ => ?_)
    · intro y0 y1
      unfold billiardlaw02_FxMatchesReference.j1
      repeat' first
      | (with_reducible exact ih0 _ _ _ _ _)
      | (with_reducible exact ih1 _ _)
      | (with_reducible exact ih2 _ _ _ _ _)
      | (with_reducible exact LeO.refl _)
      | (with_reducible exact LeO.none _)
      | (with_reducible refine LeO.ite ?_ ?_)
      | (with_reducible refine LeO.bind ?_ (fun _ => ?_))
      | exact ih0 _ _ _ _ _
      | exact ih1 _ _
      | exact ih2 _ _ _ _ _
      | exact LeO.none _
      | refine LeO.ite ?_ ?_
      | refine LeO.bind ?_ (fun _ => ?_)
    · intro y0 y1 y2 y3 y4
      unfold billiardlaw02_FxMatchesReference.j2
      repeat' first
      | (with_reducible exact ih0 _ _ _ _ _)
      | (with_reducible exact ih1 _ _)
      | (with_reducible exact ih2 _ _ _ _ _)
      | (with_reducible exact LeO.refl _)
      | (with_reducible exact LeO.none _)
      | (with_reducible refine LeO.ite ?_ ?_)
      | (with_reducible refine LeO.bind ?_ (fun _ => ?_))
      | exact ih0 _ _ _ _ _
      | exact ih1 _ _
      | exact ih2 _ _ _ _ _
      | exact LeO.none _
      | refine LeO.ite ?_ ?_
      | refine LeO.bind ?_ (fun _ => ?_)
theorem billiardlaw02_FxMatchesReference.mono : ∀ a0 a1 a2 a3 k, LeO (billiardlaw02_FxMatchesReference.f k a0 a1 a2 a3) (billiardlaw02_FxMatchesReference.f (k + 1) a0 a1 a2 a3) := by
  intro a0 a1 a2 a3 k
  obtain ⟨ih0, ih1, ih2⟩ := billiardlaw02_FxMatchesReference.mono_l k
  unfold billiardlaw02_FxMatchesReference.f
  repeat' first
      | (with_reducible exact ih0 _ _ _ _ _)
      | (with_reducible exact ih1 _ _)
      | (with_reducible exact ih2 _ _ _ _ _)
      | (with_reducible exact LeO.refl _)
      | (with_reducible exact LeO.none _)
      | (with_reducible refine LeO.ite ?_ ?_)
      | (with_reducible refine LeO.bind ?_ (fun _ => ?_))
      | exact ih0 _ _ _ _ _
      | exact ih1 _ _
      | exact ih2 _ _ _ _ _
      | exact LeO.none _
      | refine LeO.ite ?_ ?_
      | refine LeO.bind ?_ (fun _ => ?_)
set_option maxHeartbeats 8000000 in
set_option maxRecDepth 100000 in
theorem billiardlaw02_FxMatchesReference.calls (k : Nat) (a0 : Int) (a1 : Int) (a2 : Int) (a3 : Int) (r : Bool) (w : World) (h : billiardlaw02_FxMatchesReference.f k a0 a1 a2 a3 = some r) :
    Calls Try.prog 6 #[.int .i32 a0, .int .i32 a1, .int .i64 a2, .int .i64 a3] w fun e w' => e = .returned (.bool r) ∧ Below w.heap.size w w' := by
  have HB := Aside0.mk (Below.refl w.heap.size w)
  have H : ((billiardlaw02_awake.f).bind fun t148 => (if t148 = true then ((fx_Div.f a0 a1).bind fun bt149 => ((billiardref02_Div.f a0 a1).bind fun bt151 => (if bt149.1 = bt151.1 then (if bt149.2 = bt151.2 then ((fx_Mul.f a0 a1).bind fun t153 => ((billiardref02_Mul.f a0 a1).bind fun t154 => (if t153 = t154 then ((fx_Saturate.f a2).bind fun t155 => ((billiardref02_Saturate.f a2).bind fun t156 => (if t155 = t156 then ((fx_FromInt.f a2).bind fun t157 => ((billiardref02_FromInt.f a2).bind fun t158 => (billiardlaw02_FxMatchesReference.j0 k a0 a1 a2 a3 (t157 != t158)))) else (billiardlaw02_FxMatchesReference.j0 k a0 a1 a2 a3 true)))) else (billiardlaw02_FxMatchesReference.j0 k a0 a1 a2 a3 true)))) else (billiardlaw02_FxMatchesReference.j0 k a0 a1 a2 a3 true)) else (billiardlaw02_FxMatchesReference.j0 k a0 a1 a2 a3 true)))) else (some false))) = some r := h
  clear h
  replace H := Option.bind_eq_some_iff.mp H
  obtain ⟨t148, A50, H⟩ := H
  replace H : (if t148 = true then ((fx_Div.f a0 a1).bind fun bt149 => ((billiardref02_Div.f a0 a1).bind fun bt151 => (if bt149.1 = bt151.1 then (if bt149.2 = bt151.2 then ((fx_Mul.f a0 a1).bind fun t153 => ((billiardref02_Mul.f a0 a1).bind fun t154 => (if t153 = t154 then ((fx_Saturate.f a2).bind fun t155 => ((billiardref02_Saturate.f a2).bind fun t156 => (if t155 = t156 then ((fx_FromInt.f a2).bind fun t157 => ((billiardref02_FromInt.f a2).bind fun t158 => (billiardlaw02_FxMatchesReference.j0 k a0 a1 a2 a3 (t157 != t158)))) else (billiardlaw02_FxMatchesReference.j0 k a0 a1 a2 a3 true)))) else (billiardlaw02_FxMatchesReference.j0 k a0 a1 a2 a3 true)))) else (billiardlaw02_FxMatchesReference.j0 k a0 a1 a2 a3 true)) else (billiardlaw02_FxMatchesReference.j0 k a0 a1 a2 a3 true)))) else (some false)) = some r := H
  have A5 := Aside0.mk A50
  clear A50
  by_cases c6 : t148 = true
  · subst c6
    have H1 : ((fx_Div.f a0 a1).bind fun bt149 => ((billiardref02_Div.f a0 a1).bind fun bt151 => (if bt149.1 = bt151.1 then (if bt149.2 = bt151.2 then ((fx_Mul.f a0 a1).bind fun t153 => ((billiardref02_Mul.f a0 a1).bind fun t154 => (if t153 = t154 then ((fx_Saturate.f a2).bind fun t155 => ((billiardref02_Saturate.f a2).bind fun t156 => (if t155 = t156 then ((fx_FromInt.f a2).bind fun t157 => ((billiardref02_FromInt.f a2).bind fun t158 => (billiardlaw02_FxMatchesReference.j0 k a0 a1 a2 a3 (t157 != t158)))) else (billiardlaw02_FxMatchesReference.j0 k a0 a1 a2 a3 true)))) else (billiardlaw02_FxMatchesReference.j0 k a0 a1 a2 a3 true)))) else (billiardlaw02_FxMatchesReference.j0 k a0 a1 a2 a3 true)) else (billiardlaw02_FxMatchesReference.j0 k a0 a1 a2 a3 true)))) = some r := by rw [if_pos rfl] at H; exact H
    clear H
    have H := H1
    clear H1
    replace H := Option.bind_eq_some_iff.mp H
    obtain ⟨⟨t149, t150⟩, A70, H⟩ := H
    replace H : ((billiardref02_Div.f a0 a1).bind fun bt151 => (if t149 = bt151.1 then (if t150 = bt151.2 then ((fx_Mul.f a0 a1).bind fun t153 => ((billiardref02_Mul.f a0 a1).bind fun t154 => (if t153 = t154 then ((fx_Saturate.f a2).bind fun t155 => ((billiardref02_Saturate.f a2).bind fun t156 => (if t155 = t156 then ((fx_FromInt.f a2).bind fun t157 => ((billiardref02_FromInt.f a2).bind fun t158 => (billiardlaw02_FxMatchesReference.j0 k a0 a1 a2 a3 (t157 != t158)))) else (billiardlaw02_FxMatchesReference.j0 k a0 a1 a2 a3 true)))) else (billiardlaw02_FxMatchesReference.j0 k a0 a1 a2 a3 true)))) else (billiardlaw02_FxMatchesReference.j0 k a0 a1 a2 a3 true)) else (billiardlaw02_FxMatchesReference.j0 k a0 a1 a2 a3 true))) = some r := H
    have A7 := Aside0.mk A70
    clear A70
    replace H := Option.bind_eq_some_iff.mp H
    obtain ⟨⟨t151, t152⟩, A80, H⟩ := H
    replace H : (if t149 = t151 then (if t150 = t152 then ((fx_Mul.f a0 a1).bind fun t153 => ((billiardref02_Mul.f a0 a1).bind fun t154 => (if t153 = t154 then ((fx_Saturate.f a2).bind fun t155 => ((billiardref02_Saturate.f a2).bind fun t156 => (if t155 = t156 then ((fx_FromInt.f a2).bind fun t157 => ((billiardref02_FromInt.f a2).bind fun t158 => (billiardlaw02_FxMatchesReference.j0 k a0 a1 a2 a3 (t157 != t158)))) else (billiardlaw02_FxMatchesReference.j0 k a0 a1 a2 a3 true)))) else (billiardlaw02_FxMatchesReference.j0 k a0 a1 a2 a3 true)))) else (billiardlaw02_FxMatchesReference.j0 k a0 a1 a2 a3 true)) else (billiardlaw02_FxMatchesReference.j0 k a0 a1 a2 a3 true)) = some r := H
    have A8 := Aside0.mk A80
    clear A80
    have HC9 := Aside0.mk H
    clear H
    go_enter Try.func6, Try.ntmps6
    go_upto_region 5 with (first | ((with_reducible refine gate_callee (f := 8) rfl ?_); refine goesL_ (some 19) rfl rfl Try.func8 (by kernel_rfl) rfl #[] rfl (by (try simp only [List.map_toArray, List.map_cons, List.map_nil]); first | done | rfl | (simp only [List.length_drop, List.length_take]; rfl)) ?_; (with_reducible refine (billiardlaw02_awake.calls  true _ A5.out).mono ?_); rintro e w10 ⟨rfl, hb⟩; refine ⟨_, rfl, ?_⟩; have n0_ := Aside0.mk (below_step (by repeat (first | (with_reducible first | exact HB.out | apply below_alloc | apply pw_below_drewN | apply below_drew1) | exact HB.out)) hb); clear HB; have HB := n0_; clear n0_; (try clear hb); (try clear hb2); (try clear hk); (try clear hi)) | ((with_reducible refine gate_callee (f := 10) rfl ?_); refine goesL_ (some 24) rfl rfl Try.func10 (by kernel_rfl) rfl #[.int .i32 a0, .int .i32 a1] rfl (by (try simp only [List.map_toArray, List.map_cons, List.map_nil]); first | done | rfl | (simp only [List.length_drop, List.length_take]; rfl)) ?_; (with_reducible refine (fx_Div.calls a0 a1 t149 t150 _ A7.out).mono ?_); rintro e w11 ⟨rfl, hb⟩; refine ⟨_, rfl, ?_⟩; have n0_ := Aside0.mk (below_step (by repeat (first | (with_reducible first | exact HB.out | apply below_alloc | apply pw_below_drewN | apply below_drew1) | exact HB.out)) hb); clear HB; have HB := n0_; clear n0_; (try clear hb); (try clear hb2); (try clear hk); (try clear hi)) | ((with_reducible refine gate_callee (f := 15) rfl ?_); refine goesL_ (some 30) rfl rfl Try.func15 (by kernel_rfl) rfl #[.int .i32 a0, .int .i32 a1] rfl (by (try simp only [List.map_toArray, List.map_cons, List.map_nil]); first | done | rfl | (simp only [List.length_drop, List.length_take]; rfl)) ?_; (with_reducible refine (billiardref02_Div.calls a0 a1 t151 t152 _ A8.out).mono ?_); rintro e w' ⟨rfl, ⟨nd, rfl⟩⟩; refine ⟨_, rfl, ?_⟩))
    (try simp only [Act.put, List.setIfInBounds_toArray, List.set_cons_zero, List.set_cons_succ])
    go_cut [63] (fun v63 wc => ∃ (kq : Nat) (x63_8 : Bool), v63 = .bool x63_8 ∧ Aside0 (billiardlaw02_FxMatchesReference.j0 kq a0 a1 a2 a3 x63_8 = some r) ∧ Aside0 (kq ≤ k) ∧ Aside0 (Below w.heap.size w wc))
    case first =>
      have H := HC9.out
      clear HC9
      by_cases c12 : t149 = t151
      · rw [if_pos c12] at H
        have c12b0 : (t149 == t151) = true := beq_iff_eq.mpr c12
        have c12b1 : (t149 != t151) = false := bne_eq_false_iff_eq.mpr c12
        clear c12
        (first | rw [c12b0] | (simp only [i64_w, i32_w]; rw [c12b0]) | skip)
        by_cases c13 : t150 = t152
        · rw [if_pos c13] at H
          have c13b0 : (t150 == t152) = true := beq_iff_eq.mpr c13
          have c13b1 : (t150 != t152) = false := bne_eq_false_iff_eq.mpr c13
          clear c13
          replace H := Option.bind_eq_some_iff.mp H
          obtain ⟨t153, A140, H⟩ := H
          replace H : ((billiardref02_Mul.f a0 a1).bind fun t154 => (if t153 = t154 then ((fx_Saturate.f a2).bind fun t155 => ((billiardref02_Saturate.f a2).bind fun t156 => (if t155 = t156 then ((fx_FromInt.f a2).bind fun t157 => ((billiardref02_FromInt.f a2).bind fun t158 => (billiardlaw02_FxMatchesReference.j0 k a0 a1 a2 a3 (t157 != t158)))) else (billiardlaw02_FxMatchesReference.j0 k a0 a1 a2 a3 true)))) else (billiardlaw02_FxMatchesReference.j0 k a0 a1 a2 a3 true))) = some r := H
          have A14 := Aside0.mk A140
          clear A140
          replace H := Option.bind_eq_some_iff.mp H
          obtain ⟨t154, A150, H⟩ := H
          replace H : (if t153 = t154 then ((fx_Saturate.f a2).bind fun t155 => ((billiardref02_Saturate.f a2).bind fun t156 => (if t155 = t156 then ((fx_FromInt.f a2).bind fun t157 => ((billiardref02_FromInt.f a2).bind fun t158 => (billiardlaw02_FxMatchesReference.j0 k a0 a1 a2 a3 (t157 != t158)))) else (billiardlaw02_FxMatchesReference.j0 k a0 a1 a2 a3 true)))) else (billiardlaw02_FxMatchesReference.j0 k a0 a1 a2 a3 true)) = some r := H
          have A15 := Aside0.mk A150
          clear A150
          by_cases c16 : t153 = t154
          · rw [if_pos c16] at H
            have c16b0 : (t153 == t154) = true := beq_iff_eq.mpr c16
            have c16b1 : (t153 != t154) = false := bne_eq_false_iff_eq.mpr c16
            clear c16
            replace H := Option.bind_eq_some_iff.mp H
            obtain ⟨t155, A170, H⟩ := H
            replace H : ((billiardref02_Saturate.f a2).bind fun t156 => (if t155 = t156 then ((fx_FromInt.f a2).bind fun t157 => ((billiardref02_FromInt.f a2).bind fun t158 => (billiardlaw02_FxMatchesReference.j0 k a0 a1 a2 a3 (t157 != t158)))) else (billiardlaw02_FxMatchesReference.j0 k a0 a1 a2 a3 true))) = some r := H
            have A17 := Aside0.mk A170
            clear A170
            replace H := Option.bind_eq_some_iff.mp H
            obtain ⟨t156, A180, H⟩ := H
            replace H : (if t155 = t156 then ((fx_FromInt.f a2).bind fun t157 => ((billiardref02_FromInt.f a2).bind fun t158 => (billiardlaw02_FxMatchesReference.j0 k a0 a1 a2 a3 (t157 != t158)))) else (billiardlaw02_FxMatchesReference.j0 k a0 a1 a2 a3 true)) = some r := H
            have A18 := Aside0.mk A180
            clear A180
            by_cases c19 : t155 = t156
            · rw [if_pos c19] at H
              have c19b0 : (t155 == t156) = true := beq_iff_eq.mpr c19
              have c19b1 : (t155 != t156) = false := bne_eq_false_iff_eq.mpr c19
              clear c19
              replace H := Option.bind_eq_some_iff.mp H
              obtain ⟨t157, A200, H⟩ := H
              replace H : ((billiardref02_FromInt.f a2).bind fun t158 => (billiardlaw02_FxMatchesReference.j0 k a0 a1 a2 a3 (t157 != t158))) = some r := H
              have A20 := Aside0.mk A200
              clear A200
              replace H := Option.bind_eq_some_iff.mp H
              obtain ⟨t158, A210, H⟩ := H
              replace H : (billiardlaw02_FxMatchesReference.j0 k a0 a1 a2 a3 (t157 != t158)) = some r := H
              have A21 := Aside0.mk A210
              clear A210
              have H' := Aside0.mk H
              clear H
              go_wp2_with (first | (go_at_call 9; (with_reducible refine (fx_Mul.calls a0 a1 t153 _ A14.out).mono ?_); rintro e w' ⟨rfl, ⟨nd, rfl⟩⟩) | (go_at_call 16; (with_reducible refine (billiardref02_Mul.calls a0 a1 t154 _ A15.out).mono ?_); rintro e w' ⟨rfl, ⟨nd, rfl⟩⟩) | (go_at_call 13; (with_reducible refine (fx_Saturate.calls a2 t155 _ A17.out).mono ?_); rintro e w22 ⟨rfl, hb⟩; have n0_ := Aside0.mk (below_step (by repeat (first | (with_reducible first | exact HB.out | apply below_alloc | apply pw_below_drewN | apply below_drew1) | exact HB.out)) hb); clear HB; have HB := n0_; clear n0_; (try clear hb); (try clear hb2); (try clear hk); (try clear hi)) | (go_at_call 17; (with_reducible refine (billiardref02_Saturate.calls a2 t156 _ A18.out).mono ?_); rintro e w' ⟨rfl, ⟨nd, rfl⟩⟩) | (go_at_call 14; (with_reducible refine (fx_FromInt.calls a2 t157 _ A20.out).mono ?_); rintro e w23 ⟨rfl, hb⟩; have n0_ := Aside0.mk (below_step (by repeat (first | (with_reducible first | exact HB.out | apply below_alloc | apply pw_below_drewN | apply below_drew1) | exact HB.out)) hb); clear HB; have HB := n0_; clear n0_; (try clear hb); (try clear hb2); (try clear hk); (try clear hi)) | (go_at_call 18; (with_reducible refine (billiardref02_FromInt.calls a2 t158 _ A21.out).mono ?_); rintro e w' ⟨rfl, ⟨nd, rfl⟩⟩))
              go_meet
              case rel => exact ⟨_, ((t157 != t158)), (by first | rfl | (simp; done) | (simp [*]; done)), H', ⟨by first | omega | exact Nat.le_refl _⟩, ⟨by repeat (first | (with_reducible first | exact HB.out | apply below_alloc | apply pw_below_drewN | apply below_drew1) | exact HB.out)⟩⟩
            · rw [if_neg c19] at H
              have c19b0 : (t155 == t156) = false := beq_eq_false_iff_ne.mpr c19
              have c19b1 : (t155 != t156) = true := bne_iff_ne.mpr c19
              have H' := Aside0.mk H
              clear H
              go_wp2_with (first | (go_at_call 9; (with_reducible refine (fx_Mul.calls a0 a1 t153 _ A14.out).mono ?_); rintro e w' ⟨rfl, ⟨nd, rfl⟩⟩) | (go_at_call 16; (with_reducible refine (billiardref02_Mul.calls a0 a1 t154 _ A15.out).mono ?_); rintro e w' ⟨rfl, ⟨nd, rfl⟩⟩) | (go_at_call 13; (with_reducible refine (fx_Saturate.calls a2 t155 _ A17.out).mono ?_); rintro e w24 ⟨rfl, hb⟩; have n0_ := Aside0.mk (below_step (by repeat (first | (with_reducible first | exact HB.out | apply below_alloc | apply pw_below_drewN | apply below_drew1) | exact HB.out)) hb); clear HB; have HB := n0_; clear n0_; (try clear hb); (try clear hb2); (try clear hk); (try clear hi)) | (go_at_call 17; (with_reducible refine (billiardref02_Saturate.calls a2 t156 _ A18.out).mono ?_); rintro e w' ⟨rfl, ⟨nd, rfl⟩⟩))
              go_meet
              case rel => exact ⟨_, (true), (by first | rfl | (simp; done) | (simp [*]; done)), H', ⟨by first | omega | exact Nat.le_refl _⟩, ⟨by repeat (first | (with_reducible first | exact HB.out | apply below_alloc | apply pw_below_drewN | apply below_drew1) | exact HB.out)⟩⟩
          · rw [if_neg c16] at H
            have c16b0 : (t153 == t154) = false := beq_eq_false_iff_ne.mpr c16
            have c16b1 : (t153 != t154) = true := bne_iff_ne.mpr c16
            have H' := Aside0.mk H
            clear H
            go_wp2_with (first | (go_at_call 9; (with_reducible refine (fx_Mul.calls a0 a1 t153 _ A14.out).mono ?_); rintro e w' ⟨rfl, ⟨nd, rfl⟩⟩) | (go_at_call 16; (with_reducible refine (billiardref02_Mul.calls a0 a1 t154 _ A15.out).mono ?_); rintro e w' ⟨rfl, ⟨nd, rfl⟩⟩))
            go_meet
            case rel => exact ⟨_, (true), (by first | rfl | (simp; done) | (simp [*]; done)), H', ⟨by first | omega | exact Nat.le_refl _⟩, ⟨by repeat (first | (with_reducible first | exact HB.out | apply below_alloc | apply pw_below_drewN | apply below_drew1) | exact HB.out)⟩⟩
        · rw [if_neg c13] at H
          have c13b0 : (t150 == t152) = false := beq_eq_false_iff_ne.mpr c13
          have c13b1 : (t150 != t152) = true := bne_iff_ne.mpr c13
          have H' := Aside0.mk H
          clear H
          go_wp2
          go_meet
          case rel => exact ⟨_, (true), (by first | rfl | (simp; done) | (simp [*]; done)), H', ⟨by first | omega | exact Nat.le_refl _⟩, ⟨by repeat (first | (with_reducible first | exact HB.out | apply below_alloc | apply pw_below_drewN | apply below_drew1) | exact HB.out)⟩⟩
      · rw [if_neg c12] at H
        have c12b0 : (t149 == t151) = false := beq_eq_false_iff_ne.mpr c12
        have c12b1 : (t149 != t151) = true := bne_iff_ne.mpr c12
        (first | rw [c12b0] | (simp only [i64_w, i32_w]; rw [c12b0]) | skip)
        have H' := Aside0.mk H
        clear H
        go_wp2
        go_meet
        case rel => exact ⟨_, (true), (by first | rfl | (simp; done) | (simp [*]; done)), H', ⟨by first | omega | exact Nat.le_refl _⟩, ⟨by repeat (first | (with_reducible first | exact HB.out | apply below_alloc | apply pw_below_drewN | apply below_drew1) | exact HB.out)⟩⟩
    case rest =>
      clear HC9
      try clear c1
      try clear p2
      try clear c6
      try clear c8
      try clear c10
      try clear c12
      try clear c12b0
      try clear c12b1
      try clear c13
      try clear c13b0
      try clear c13b1
      try clear c15
      try clear c16
      try clear c16b0
      try clear c16b1
      try clear c19
      try clear c19b0
      try clear c19b1
      obtain ⟨kq, x63_8, rfl, HA, HJ8, HB⟩ := hcut
      cases kq with
      | zero => exact absurd HA.out (by simp [billiardlaw02_FxMatchesReference.j0])
      | succ kj8 =>
        have H := HA.out
        clear HA
        simp only [billiardlaw02_FxMatchesReference.j0] at H
        by_cases c25 : x63_8 = true
        · subst c25
          have H1 : (some false) = some r := by rw [if_pos rfl] at H; exact H
          clear H
          have H := H1
          clear H1
          obtain rfl := Option.some.inj H
          go_wp2
          go_ret
          exact ⟨by first | rfl | (simp [errW_none, errW_some] <;> rfl) | (simp [*, errW_none, errW_some] <;> rfl), by repeat (first | (with_reducible first | exact HB.out | apply below_alloc | apply pw_below_drewN | apply below_drew1) | exact HB.out)⟩
        · replace c25 := Bool.eq_false_iff.mpr c25
          subst c25
          have H1 : (if a3 ≥ 0 then ((fx_Limit.f a2 a3).bind fun bt159 => ((billiardref02_Limit.f a2 a3).bind fun t161 => (if bt159.1 = t161 then (if (bt159.2 != (bt159.1 != a2)) = true then (some false) else (billiardlaw02_FxMatchesReference.j1 kj8 a0 a1)) else (some false)))) else (billiardlaw02_FxMatchesReference.j1 kj8 a0 a1)) = some r := by rw [if_neg (show ¬ (false = true) by decide)] at H; exact H
          clear H
          have H := H1
          clear H1
          have HC26 := Aside0.mk H
          clear H
          go_upto_if 65 with (fail)
          go_cut [] (fun wc => ∃ (kq : Nat), Aside0 (billiardlaw02_FxMatchesReference.j1 kq a0 a1 = some r) ∧ Aside0 (kq ≤ kj8) ∧ Aside0 (Below w.heap.size w wc))
          case first =>
            have H := HC26.out
            clear HC26
            by_cases c27 : a3 ≥ 0
            · rw [if_pos c27] at H
              have c27b0 : decide (0 ≤ a3) = true := decide_eq_true c27
              clear c27
              (first | rw [c27b0] | (simp only [i64_w, i32_w]; rw [c27b0]) | skip)
              replace H := Option.bind_eq_some_iff.mp H
              obtain ⟨⟨t159, t160⟩, A280, H⟩ := H
              replace H : ((billiardref02_Limit.f a2 a3).bind fun t161 => (if t159 = t161 then (if (t160 != (t159 != a2)) = true then (some false) else (billiardlaw02_FxMatchesReference.j1 kj8 a0 a1)) else (some false))) = some r := H
              have A28 := Aside0.mk A280
              clear A280
              replace H := Option.bind_eq_some_iff.mp H
              obtain ⟨t161, A290, H⟩ := H
              replace H : (if t159 = t161 then (if (t160 != (t159 != a2)) = true then (some false) else (billiardlaw02_FxMatchesReference.j1 kj8 a0 a1)) else (some false)) = some r := H
              have A29 := Aside0.mk A290
              clear A290
              by_cases c30 : t159 = t161
              · rw [if_pos c30] at H
                have c30b0 : (t159 == t161) = true := beq_iff_eq.mpr c30
                have c30b1 : (t159 != t161) = false := bne_eq_false_iff_eq.mpr c30
                clear c30
                by_cases c31 : (t160 != (t159 != a2)) = true
                · rw [if_pos c31] at H
                  have c31b0 : (t160 != (t159 != a2)) = true := c31
                  (try (have c31b1 : decide (t160 = (t159 != a2)) = false := by simpa using c31))
                  (try (have c31b2 : (t160 == (t159 != a2)) = false := by simpa using c31))
                  (try (have c31b3 : ¬ (t160 = (t159 != a2)) := by simpa using c31))
                  clear c31
                  obtain rfl := Option.some.inj H
                  go_wp2_with (first | ((with_reducible refine gate_callee (f := 19) rfl ?_); refine goesL_ (some 69) rfl rfl Try.func19 (by kernel_rfl) rfl #[.int .i64 a2, .int .i64 a3] rfl (by (try simp only [List.map_toArray, List.map_cons, List.map_nil]); first | done | rfl | (simp only [List.length_drop, List.length_take]; rfl)) ?_; (with_reducible refine (fx_Limit.calls a2 a3 t159 t160 _ A28.out).mono ?_); rintro e w32 ⟨rfl, hb⟩; refine ⟨_, rfl, ?_⟩; have n0_ := Aside0.mk (below_step (by repeat (first | (with_reducible first | exact HB.out | apply below_alloc | apply pw_below_drewN | apply below_drew1) | exact HB.out)) hb); clear HB; have HB := n0_; clear n0_; (try clear hb); (try clear hb2); (try clear hk); (try clear hi)) | ((with_reducible refine gate_callee (f := 20) rfl ?_); refine goesL_ (some 75) rfl rfl Try.func20 (by kernel_rfl) rfl #[.int .i64 a2, .int .i64 a3] rfl (by (try simp only [List.map_toArray, List.map_cons, List.map_nil]); first | done | rfl | (simp only [List.length_drop, List.length_take]; rfl)) ?_; (with_reducible refine (billiardref02_Limit.calls a2 a3 t161 _ A29.out).mono ?_); rintro e w' ⟨rfl, ⟨nd, rfl⟩⟩; refine ⟨_, rfl, ?_⟩))
                  go_ret
                  exact ⟨by first | rfl | (simp [errW_none, errW_some] <;> rfl) | (simp [*, errW_none, errW_some] <;> rfl), by repeat (first | (with_reducible first | exact HB.out | apply below_alloc | apply pw_below_drewN | apply below_drew1) | exact HB.out)⟩
                · rw [if_neg c31] at H
                  have c31b0 : (t160 != (t159 != a2)) = false := by simpa using c31
                  (try (have c31b1 : decide (t160 = (t159 != a2)) = true := by simpa using c31))
                  (try (have c31b2 : (t160 == (t159 != a2)) = true := by simpa using c31))
                  clear c31
                  have H' := Aside0.mk H
                  clear H
                  go_wp2_with (first | ((with_reducible refine gate_callee (f := 19) rfl ?_); refine goesL_ (some 69) rfl rfl Try.func19 (by kernel_rfl) rfl #[.int .i64 a2, .int .i64 a3] rfl (by (try simp only [List.map_toArray, List.map_cons, List.map_nil]); first | done | rfl | (simp only [List.length_drop, List.length_take]; rfl)) ?_; (with_reducible refine (fx_Limit.calls a2 a3 t159 t160 _ A28.out).mono ?_); rintro e w33 ⟨rfl, hb⟩; refine ⟨_, rfl, ?_⟩; have n0_ := Aside0.mk (below_step (by repeat (first | (with_reducible first | exact HB.out | apply below_alloc | apply pw_below_drewN | apply below_drew1) | exact HB.out)) hb); clear HB; have HB := n0_; clear n0_; (try clear hb); (try clear hb2); (try clear hk); (try clear hi)) | ((with_reducible refine gate_callee (f := 20) rfl ?_); refine goesL_ (some 75) rfl rfl Try.func20 (by kernel_rfl) rfl #[.int .i64 a2, .int .i64 a3] rfl (by (try simp only [List.map_toArray, List.map_cons, List.map_nil]); first | done | rfl | (simp only [List.length_drop, List.length_take]; rfl)) ?_; (with_reducible refine (billiardref02_Limit.calls a2 a3 t161 _ A29.out).mono ?_); rintro e w' ⟨rfl, ⟨nd, rfl⟩⟩; refine ⟨_, rfl, ?_⟩))
                  go_meet
                  case rel => exact ⟨_, H', ⟨by have := HJ8.out; first | omega | exact Nat.le_refl _⟩, ⟨by repeat (first | (with_reducible first | exact HB.out | apply below_alloc | apply pw_below_drewN | apply below_drew1) | exact HB.out)⟩⟩
              · rw [if_neg c30] at H
                have c30b0 : (t159 == t161) = false := beq_eq_false_iff_ne.mpr c30
                have c30b1 : (t159 != t161) = true := bne_iff_ne.mpr c30
                obtain rfl := Option.some.inj H
                go_wp2_with (first | ((with_reducible refine gate_callee (f := 19) rfl ?_); refine goesL_ (some 69) rfl rfl Try.func19 (by kernel_rfl) rfl #[.int .i64 a2, .int .i64 a3] rfl (by (try simp only [List.map_toArray, List.map_cons, List.map_nil]); first | done | rfl | (simp only [List.length_drop, List.length_take]; rfl)) ?_; (with_reducible refine (fx_Limit.calls a2 a3 t159 t160 _ A28.out).mono ?_); rintro e w34 ⟨rfl, hb⟩; refine ⟨_, rfl, ?_⟩; have n0_ := Aside0.mk (below_step (by repeat (first | (with_reducible first | exact HB.out | apply below_alloc | apply pw_below_drewN | apply below_drew1) | exact HB.out)) hb); clear HB; have HB := n0_; clear n0_; (try clear hb); (try clear hb2); (try clear hk); (try clear hi)) | ((with_reducible refine gate_callee (f := 20) rfl ?_); refine goesL_ (some 75) rfl rfl Try.func20 (by kernel_rfl) rfl #[.int .i64 a2, .int .i64 a3] rfl (by (try simp only [List.map_toArray, List.map_cons, List.map_nil]); first | done | rfl | (simp only [List.length_drop, List.length_take]; rfl)) ?_; (with_reducible refine (billiardref02_Limit.calls a2 a3 t161 _ A29.out).mono ?_); rintro e w' ⟨rfl, ⟨nd, rfl⟩⟩; refine ⟨_, rfl, ?_⟩))
                go_ret
                exact ⟨by first | rfl | (simp [errW_none, errW_some] <;> rfl) | (simp [*, errW_none, errW_some] <;> rfl), by repeat (first | (with_reducible first | exact HB.out | apply below_alloc | apply pw_below_drewN | apply below_drew1) | exact HB.out)⟩
            · rw [if_neg c27] at H
              have c27b0 : decide (0 ≤ a3) = false := decide_eq_false c27
              clear c27
              (first | rw [c27b0] | (simp only [i64_w, i32_w]; rw [c27b0]) | skip)
              have H' := Aside0.mk H
              clear H
              go_wp2
              go_meet
              case rel => exact ⟨_, H', ⟨by have := HJ8.out; first | omega | exact Nat.le_refl _⟩, ⟨by repeat (first | (with_reducible first | exact HB.out | apply below_alloc | apply pw_below_drewN | apply below_drew1) | exact HB.out)⟩⟩
          case rest =>
            clear HC26
            try clear c1
            try clear c2
            try clear p2
            try clear c3
            try clear c6
            try clear c8
            try clear c10
            try clear c12
            try clear c12b0
            try clear c12b1
            try clear c13
            try clear c13b0
            try clear c13b1
            try clear c15
            try clear c16
            try clear c16b0
            try clear c16b1
            try clear c19
            try clear c19b0
            try clear c19b1
            try clear c20
            try clear c25
            try clear c27
            try clear c27b0
            try clear c30
            try clear c30b0
            try clear c30b1
            try clear c31
            try clear c31b0
            try clear c31b1
            try clear c31b2
            try clear p2
            obtain ⟨kq, HA, HJ25, HB⟩ := hcut
            cases kq with
            | zero => exact absurd HA.out (by simp [billiardlaw02_FxMatchesReference.j1])
            | succ kj25 =>
              have H := HA.out
              clear HA
              simp only [billiardlaw02_FxMatchesReference.j1] at H
              have HC35 := Aside0.mk H
              clear H
              go_upto_if 90 with (fail)
              go_cut [17] (fun v17 wc => ∃ (kq : Nat) (x17_34 : Int), v17 = .int .i64 x17_34 ∧ Aside0 (billiardlaw02_FxMatchesReference.j2 kq a0 a1 (wrap64 (a0)) (wrap64 (a1)) x17_34 = some r) ∧ Aside0 (kq ≤ kj25) ∧ Aside0 (Below w.heap.size w wc))
              case first =>
                have H := HC35.out
                clear HC35
                by_cases c36 : (wrap64 (a0)) < 0
                · rw [if_pos c36] at H
                  have c36b0 : decide ((wrap64 (a0)) < 0) = true := decide_eq_true c36
                  clear c36
                  (first | rw [c36b0] | (simp only [i64_w, i32_w]; rw [c36b0]) | skip)
                  have H' := Aside0.mk H
                  clear H
                  go_wp2
                  go_meet
                  case rel => exact ⟨_, (wrap64 (-(wrap64 (a0)))), (by first | rfl | (simp; done) | (simp [*]; done)), H', ⟨by have := HJ8.out; have := HJ25.out; first | omega | exact Nat.le_refl _⟩, ⟨by repeat (first | (with_reducible first | exact HB.out | apply below_alloc | apply pw_below_drewN | apply below_drew1) | exact HB.out)⟩⟩
                · rw [if_neg c36] at H
                  have c36b0 : decide ((wrap64 (a0)) < 0) = false := decide_eq_false c36
                  clear c36
                  (first | rw [c36b0] | (simp only [i64_w, i32_w]; rw [c36b0]) | skip)
                  have H' := Aside0.mk H
                  clear H
                  go_wp2
                  go_meet
                  case rel => exact ⟨_, (wrap64 (a0)), (by first | rfl | (simp; done) | (simp [*]; done)), H', ⟨by have := HJ8.out; have := HJ25.out; first | omega | exact Nat.le_refl _⟩, ⟨by repeat (first | (with_reducible first | exact HB.out | apply below_alloc | apply pw_below_drewN | apply below_drew1) | exact HB.out)⟩⟩
              case rest =>
                clear HC35
                try clear c1
                try clear c2
                try clear p2
                try clear c3
                try clear c6
                try clear p6
                try clear c8
                try clear c10
                try clear c12
                try clear c12b0
                try clear c12b1
                try clear c13
                try clear c13b0
                try clear c13b1
                try clear c15
                try clear c16
                try clear c16b0
                try clear c16b1
                try clear c19
                try clear c19b0
                try clear c19b1
                try clear c20
                try clear c25
                try clear c27
                try clear c27b0
                try clear c30
                try clear c30b0
                try clear c30b1
                try clear c31
                try clear c31b0
                try clear c31b1
                try clear c31b2
                try clear c36
                try clear c36b0
                try clear p2
                obtain ⟨kq, x17_34, rfl, HA, HJ34, HB⟩ := hcut
                cases kq with
                | zero => exact absurd HA.out (by simp [billiardlaw02_FxMatchesReference.j2])
                | succ kj34 =>
                  have H := HA.out
                  clear HA
                  simp only [billiardlaw02_FxMatchesReference.j2] at H
                  replace H := Option.bind_eq_some_iff.mp H
                  obtain ⟨t162, A370, H⟩ := H
                  replace H : ((fx_Add.f a0 a1).bind fun t163 => ((billiardref02_Saturate.f (wrap64 ((wrap64 (a0)) + (wrap64 (a1))))).bind fun t164 => (if t163 = t164 then ((fx_Sub.f a0 a1).bind fun t165 => ((billiardref02_Saturate.f (wrap64 ((wrap64 (a0)) - (wrap64 (a1))))).bind fun t166 => (if t165 = t166 then ((fx_Neg.f a0).bind fun t167 => ((billiardref02_Saturate.f (wrap64 (-(wrap64 (a0))))).bind fun t168 => (if t167 = t168 then ((fx_Abs.f a0).bind fun t169 => ((billiardref02_Saturate.f x17_34).bind fun t170 => (if t169 = t170 then ((fx_Floor.f a0).bind fun t171 => (if (wrap64 (t171)) = t162 then ((fx_Frac.f a0).bind fun t172 => (some ((wrap64 (t172)) == (wrap64 ((wrap64 (a0)) - (wrap64 (t162 * 65536))))))) else (some false))) else (some false)))) else (some false)))) else (some false)))) else (some false)))) = some r := H
                  have A37 := Aside0.mk A370
                  clear A370
                  replace H := Option.bind_eq_some_iff.mp H
                  obtain ⟨t163, A380, H⟩ := H
                  replace H : ((billiardref02_Saturate.f (wrap64 ((wrap64 (a0)) + (wrap64 (a1))))).bind fun t164 => (if t163 = t164 then ((fx_Sub.f a0 a1).bind fun t165 => ((billiardref02_Saturate.f (wrap64 ((wrap64 (a0)) - (wrap64 (a1))))).bind fun t166 => (if t165 = t166 then ((fx_Neg.f a0).bind fun t167 => ((billiardref02_Saturate.f (wrap64 (-(wrap64 (a0))))).bind fun t168 => (if t167 = t168 then ((fx_Abs.f a0).bind fun t169 => ((billiardref02_Saturate.f x17_34).bind fun t170 => (if t169 = t170 then ((fx_Floor.f a0).bind fun t171 => (if (wrap64 (t171)) = t162 then ((fx_Frac.f a0).bind fun t172 => (some ((wrap64 (t172)) == (wrap64 ((wrap64 (a0)) - (wrap64 (t162 * 65536))))))) else (some false))) else (some false)))) else (some false)))) else (some false)))) else (some false))) = some r := H
                  have A38 := Aside0.mk A380
                  clear A380
                  replace H := Option.bind_eq_some_iff.mp H
                  obtain ⟨t164, A390, H⟩ := H
                  replace H : (if t163 = t164 then ((fx_Sub.f a0 a1).bind fun t165 => ((billiardref02_Saturate.f (wrap64 ((wrap64 (a0)) - (wrap64 (a1))))).bind fun t166 => (if t165 = t166 then ((fx_Neg.f a0).bind fun t167 => ((billiardref02_Saturate.f (wrap64 (-(wrap64 (a0))))).bind fun t168 => (if t167 = t168 then ((fx_Abs.f a0).bind fun t169 => ((billiardref02_Saturate.f x17_34).bind fun t170 => (if t169 = t170 then ((fx_Floor.f a0).bind fun t171 => (if (wrap64 (t171)) = t162 then ((fx_Frac.f a0).bind fun t172 => (some ((wrap64 (t172)) == (wrap64 ((wrap64 (a0)) - (wrap64 (t162 * 65536))))))) else (some false))) else (some false)))) else (some false)))) else (some false)))) else (some false)) = some r := H
                  have A39 := Aside0.mk A390
                  clear A390
                  by_cases c40 : t163 = t164
                  · rw [if_pos c40] at H
                    have c40b0 : (t163 == t164) = true := beq_iff_eq.mpr c40
                    have c40b1 : (t163 != t164) = false := bne_eq_false_iff_eq.mpr c40
                    clear c40
                    replace H := Option.bind_eq_some_iff.mp H
                    obtain ⟨t165, A410, H⟩ := H
                    replace H : ((billiardref02_Saturate.f (wrap64 ((wrap64 (a0)) - (wrap64 (a1))))).bind fun t166 => (if t165 = t166 then ((fx_Neg.f a0).bind fun t167 => ((billiardref02_Saturate.f (wrap64 (-(wrap64 (a0))))).bind fun t168 => (if t167 = t168 then ((fx_Abs.f a0).bind fun t169 => ((billiardref02_Saturate.f x17_34).bind fun t170 => (if t169 = t170 then ((fx_Floor.f a0).bind fun t171 => (if (wrap64 (t171)) = t162 then ((fx_Frac.f a0).bind fun t172 => (some ((wrap64 (t172)) == (wrap64 ((wrap64 (a0)) - (wrap64 (t162 * 65536))))))) else (some false))) else (some false)))) else (some false)))) else (some false))) = some r := H
                    have A41 := Aside0.mk A410
                    clear A410
                    replace H := Option.bind_eq_some_iff.mp H
                    obtain ⟨t166, A420, H⟩ := H
                    replace H : (if t165 = t166 then ((fx_Neg.f a0).bind fun t167 => ((billiardref02_Saturate.f (wrap64 (-(wrap64 (a0))))).bind fun t168 => (if t167 = t168 then ((fx_Abs.f a0).bind fun t169 => ((billiardref02_Saturate.f x17_34).bind fun t170 => (if t169 = t170 then ((fx_Floor.f a0).bind fun t171 => (if (wrap64 (t171)) = t162 then ((fx_Frac.f a0).bind fun t172 => (some ((wrap64 (t172)) == (wrap64 ((wrap64 (a0)) - (wrap64 (t162 * 65536))))))) else (some false))) else (some false)))) else (some false)))) else (some false)) = some r := H
                    have A42 := Aside0.mk A420
                    clear A420
                    by_cases c43 : t165 = t166
                    · rw [if_pos c43] at H
                      have c43b0 : (t165 == t166) = true := beq_iff_eq.mpr c43
                      have c43b1 : (t165 != t166) = false := bne_eq_false_iff_eq.mpr c43
                      clear c43
                      replace H := Option.bind_eq_some_iff.mp H
                      obtain ⟨t167, A440, H⟩ := H
                      replace H : ((billiardref02_Saturate.f (wrap64 (-(wrap64 (a0))))).bind fun t168 => (if t167 = t168 then ((fx_Abs.f a0).bind fun t169 => ((billiardref02_Saturate.f x17_34).bind fun t170 => (if t169 = t170 then ((fx_Floor.f a0).bind fun t171 => (if (wrap64 (t171)) = t162 then ((fx_Frac.f a0).bind fun t172 => (some ((wrap64 (t172)) == (wrap64 ((wrap64 (a0)) - (wrap64 (t162 * 65536))))))) else (some false))) else (some false)))) else (some false))) = some r := H
                      have A44 := Aside0.mk A440
                      clear A440
                      replace H := Option.bind_eq_some_iff.mp H
                      obtain ⟨t168, A450, H⟩ := H
                      replace H : (if t167 = t168 then ((fx_Abs.f a0).bind fun t169 => ((billiardref02_Saturate.f x17_34).bind fun t170 => (if t169 = t170 then ((fx_Floor.f a0).bind fun t171 => (if (wrap64 (t171)) = t162 then ((fx_Frac.f a0).bind fun t172 => (some ((wrap64 (t172)) == (wrap64 ((wrap64 (a0)) - (wrap64 (t162 * 65536))))))) else (some false))) else (some false)))) else (some false)) = some r := H
                      have A45 := Aside0.mk A450
                      clear A450
                      by_cases c46 : t167 = t168
                      · rw [if_pos c46] at H
                        have c46b0 : (t167 == t168) = true := beq_iff_eq.mpr c46
                        have c46b1 : (t167 != t168) = false := bne_eq_false_iff_eq.mpr c46
                        clear c46
                        replace H := Option.bind_eq_some_iff.mp H
                        obtain ⟨t169, A470, H⟩ := H
                        replace H : ((billiardref02_Saturate.f x17_34).bind fun t170 => (if t169 = t170 then ((fx_Floor.f a0).bind fun t171 => (if (wrap64 (t171)) = t162 then ((fx_Frac.f a0).bind fun t172 => (some ((wrap64 (t172)) == (wrap64 ((wrap64 (a0)) - (wrap64 (t162 * 65536))))))) else (some false))) else (some false))) = some r := H
                        have A47 := Aside0.mk A470
                        clear A470
                        replace H := Option.bind_eq_some_iff.mp H
                        obtain ⟨t170, A480, H⟩ := H
                        replace H : (if t169 = t170 then ((fx_Floor.f a0).bind fun t171 => (if (wrap64 (t171)) = t162 then ((fx_Frac.f a0).bind fun t172 => (some ((wrap64 (t172)) == (wrap64 ((wrap64 (a0)) - (wrap64 (t162 * 65536))))))) else (some false))) else (some false)) = some r := H
                        have A48 := Aside0.mk A480
                        clear A480
                        by_cases c49 : t169 = t170
                        · rw [if_pos c49] at H
                          have c49b0 : (t169 == t170) = true := beq_iff_eq.mpr c49
                          have c49b1 : (t169 != t170) = false := bne_eq_false_iff_eq.mpr c49
                          clear c49
                          replace H := Option.bind_eq_some_iff.mp H
                          obtain ⟨t171, A500, H⟩ := H
                          replace H : (if (wrap64 (t171)) = t162 then ((fx_Frac.f a0).bind fun t172 => (some ((wrap64 (t172)) == (wrap64 ((wrap64 (a0)) - (wrap64 (t162 * 65536))))))) else (some false)) = some r := H
                          have A50 := Aside0.mk A500
                          clear A500
                          by_cases c51 : (wrap64 (t171)) = t162
                          · rw [if_pos c51] at H
                            have c51b0 : ((wrap64 (t171)) == t162) = true := beq_iff_eq.mpr c51
                            have c51b1 : ((wrap64 (t171)) != t162) = false := bne_eq_false_iff_eq.mpr c51
                            clear c51
                            replace H := Option.bind_eq_some_iff.mp H
                            obtain ⟨t172, A520, H⟩ := H
                            replace H : (some ((wrap64 (t172)) == (wrap64 ((wrap64 (a0)) - (wrap64 (t162 * 65536)))))) = some r := H
                            have A52 := Aside0.mk A520
                            clear A520
                            obtain rfl := Option.some.inj H
                            go_wp2_with (first | ((with_reducible refine gate_callee (f := 21) rfl ?_); refine goesL_ (some 94) rfl rfl Try.func21 (by kernel_rfl) rfl #[.int .i64 (wrap64 (a0)), .int .i64 65536] rfl (by (try simp only [List.map_toArray, List.map_cons, List.map_nil]); first | done | rfl | (simp only [List.length_drop, List.length_take]; rfl)) ?_; (with_reducible refine (billiardref01_Floor.calls (wrap64 (a0)) 65536 t162 _ A37.out).mono ?_); rintro e w' ⟨rfl, ⟨nd, rfl⟩⟩; refine ⟨_, rfl, ?_⟩) | ((with_reducible refine gate_callee (f := 11) rfl ?_); refine goesL_ (some 97) rfl rfl Try.func11 (by kernel_rfl) rfl #[.int .i32 a0, .int .i32 a1] rfl (by (try simp only [List.map_toArray, List.map_cons, List.map_nil]); first | done | rfl | (simp only [List.length_drop, List.length_take]; rfl)) ?_; (with_reducible refine (fx_Add.calls a0 a1 t163 _ A38.out).mono ?_); rintro e w' ⟨rfl, ⟨nd, rfl⟩⟩; refine ⟨_, rfl, ?_⟩) | ((with_reducible refine gate_callee (f := 17) rfl ?_); refine goesL_ (some 101) rfl rfl Try.func17 (by kernel_rfl) rfl #[.int .i64 (wrap64 ((wrap64 (a0)) + (wrap64 (a1))))] rfl (by (try simp only [List.map_toArray, List.map_cons, List.map_nil]); first | done | rfl | (simp only [List.length_drop, List.length_take]; rfl)) ?_; (with_reducible refine (billiardref02_Saturate.calls (wrap64 ((wrap64 (a0)) + (wrap64 (a1)))) t164 _ A39.out).mono ?_); rintro e w' ⟨rfl, ⟨nd, rfl⟩⟩; refine ⟨_, rfl, ?_⟩) | (go_at_call 12; (with_reducible refine (fx_Sub.calls a0 a1 t165 _ A41.out).mono ?_); rintro e w' ⟨rfl, ⟨nd, rfl⟩⟩) | (go_at_call 17; (with_reducible refine (billiardref02_Saturate.calls (wrap64 ((wrap64 (a0)) - (wrap64 (a1)))) t166 _ A42.out).mono ?_); rintro e w' ⟨rfl, ⟨nd, rfl⟩⟩) | (go_at_call 22; (with_reducible refine (fx_Neg.calls a0 t167 _ A44.out).mono ?_); rintro e w' ⟨rfl, ⟨nd, rfl⟩⟩) | (go_at_call 17; (with_reducible refine (billiardref02_Saturate.calls (wrap64 (-(wrap64 (a0)))) t168 _ A45.out).mono ?_); rintro e w' ⟨rfl, ⟨nd, rfl⟩⟩) | (go_at_call 23; (with_reducible refine (fx_Abs.calls a0 t169 _ A47.out).mono ?_); rintro e w' ⟨rfl, ⟨nd, rfl⟩⟩) | (go_at_call 17; (with_reducible refine (billiardref02_Saturate.calls x17_34 t170 _ A48.out).mono ?_); rintro e w' ⟨rfl, ⟨nd, rfl⟩⟩) | (go_at_call 24; (with_reducible refine (fx_Floor.calls a0 t171 _ A50.out).mono ?_); rintro e w' ⟨rfl, ⟨nd, rfl⟩⟩) | (go_at_call 25; (with_reducible refine (fx_Frac.calls a0 t172 _ A52.out).mono ?_); rintro e w' ⟨rfl, ⟨nd, rfl⟩⟩))
                            go_ret
                            exact ⟨by first | rfl | (simp [errW_none, errW_some] <;> rfl) | (simp [*, errW_none, errW_some] <;> rfl), by repeat (first | (with_reducible first | exact HB.out | apply below_alloc | apply pw_below_drewN | apply below_drew1) | exact HB.out)⟩
                          · rw [if_neg c51] at H
                            have c51b0 : ((wrap64 (t171)) == t162) = false := beq_eq_false_iff_ne.mpr c51
                            have c51b1 : ((wrap64 (t171)) != t162) = true := bne_iff_ne.mpr c51
                            obtain rfl := Option.some.inj H
                            go_wp2_with (first | ((with_reducible refine gate_callee (f := 21) rfl ?_); refine goesL_ (some 94) rfl rfl Try.func21 (by kernel_rfl) rfl #[.int .i64 (wrap64 (a0)), .int .i64 65536] rfl (by (try simp only [List.map_toArray, List.map_cons, List.map_nil]); first | done | rfl | (simp only [List.length_drop, List.length_take]; rfl)) ?_; (with_reducible refine (billiardref01_Floor.calls (wrap64 (a0)) 65536 t162 _ A37.out).mono ?_); rintro e w' ⟨rfl, ⟨nd, rfl⟩⟩; refine ⟨_, rfl, ?_⟩) | ((with_reducible refine gate_callee (f := 11) rfl ?_); refine goesL_ (some 97) rfl rfl Try.func11 (by kernel_rfl) rfl #[.int .i32 a0, .int .i32 a1] rfl (by (try simp only [List.map_toArray, List.map_cons, List.map_nil]); first | done | rfl | (simp only [List.length_drop, List.length_take]; rfl)) ?_; (with_reducible refine (fx_Add.calls a0 a1 t163 _ A38.out).mono ?_); rintro e w' ⟨rfl, ⟨nd, rfl⟩⟩; refine ⟨_, rfl, ?_⟩) | ((with_reducible refine gate_callee (f := 17) rfl ?_); refine goesL_ (some 101) rfl rfl Try.func17 (by kernel_rfl) rfl #[.int .i64 (wrap64 ((wrap64 (a0)) + (wrap64 (a1))))] rfl (by (try simp only [List.map_toArray, List.map_cons, List.map_nil]); first | done | rfl | (simp only [List.length_drop, List.length_take]; rfl)) ?_; (with_reducible refine (billiardref02_Saturate.calls (wrap64 ((wrap64 (a0)) + (wrap64 (a1)))) t164 _ A39.out).mono ?_); rintro e w' ⟨rfl, ⟨nd, rfl⟩⟩; refine ⟨_, rfl, ?_⟩) | (go_at_call 12; (with_reducible refine (fx_Sub.calls a0 a1 t165 _ A41.out).mono ?_); rintro e w' ⟨rfl, ⟨nd, rfl⟩⟩) | (go_at_call 17; (with_reducible refine (billiardref02_Saturate.calls (wrap64 ((wrap64 (a0)) - (wrap64 (a1)))) t166 _ A42.out).mono ?_); rintro e w' ⟨rfl, ⟨nd, rfl⟩⟩) | (go_at_call 22; (with_reducible refine (fx_Neg.calls a0 t167 _ A44.out).mono ?_); rintro e w' ⟨rfl, ⟨nd, rfl⟩⟩) | (go_at_call 17; (with_reducible refine (billiardref02_Saturate.calls (wrap64 (-(wrap64 (a0)))) t168 _ A45.out).mono ?_); rintro e w' ⟨rfl, ⟨nd, rfl⟩⟩) | (go_at_call 23; (with_reducible refine (fx_Abs.calls a0 t169 _ A47.out).mono ?_); rintro e w' ⟨rfl, ⟨nd, rfl⟩⟩) | (go_at_call 17; (with_reducible refine (billiardref02_Saturate.calls x17_34 t170 _ A48.out).mono ?_); rintro e w' ⟨rfl, ⟨nd, rfl⟩⟩) | (go_at_call 24; (with_reducible refine (fx_Floor.calls a0 t171 _ A50.out).mono ?_); rintro e w' ⟨rfl, ⟨nd, rfl⟩⟩))
                            go_ret
                            exact ⟨by first | rfl | (simp [errW_none, errW_some] <;> rfl) | (simp [*, errW_none, errW_some] <;> rfl), by repeat (first | (with_reducible first | exact HB.out | apply below_alloc | apply pw_below_drewN | apply below_drew1) | exact HB.out)⟩
                        · rw [if_neg c49] at H
                          have c49b0 : (t169 == t170) = false := beq_eq_false_iff_ne.mpr c49
                          have c49b1 : (t169 != t170) = true := bne_iff_ne.mpr c49
                          obtain rfl := Option.some.inj H
                          go_wp2_with (first | ((with_reducible refine gate_callee (f := 21) rfl ?_); refine goesL_ (some 94) rfl rfl Try.func21 (by kernel_rfl) rfl #[.int .i64 (wrap64 (a0)), .int .i64 65536] rfl (by (try simp only [List.map_toArray, List.map_cons, List.map_nil]); first | done | rfl | (simp only [List.length_drop, List.length_take]; rfl)) ?_; (with_reducible refine (billiardref01_Floor.calls (wrap64 (a0)) 65536 t162 _ A37.out).mono ?_); rintro e w' ⟨rfl, ⟨nd, rfl⟩⟩; refine ⟨_, rfl, ?_⟩) | ((with_reducible refine gate_callee (f := 11) rfl ?_); refine goesL_ (some 97) rfl rfl Try.func11 (by kernel_rfl) rfl #[.int .i32 a0, .int .i32 a1] rfl (by (try simp only [List.map_toArray, List.map_cons, List.map_nil]); first | done | rfl | (simp only [List.length_drop, List.length_take]; rfl)) ?_; (with_reducible refine (fx_Add.calls a0 a1 t163 _ A38.out).mono ?_); rintro e w' ⟨rfl, ⟨nd, rfl⟩⟩; refine ⟨_, rfl, ?_⟩) | ((with_reducible refine gate_callee (f := 17) rfl ?_); refine goesL_ (some 101) rfl rfl Try.func17 (by kernel_rfl) rfl #[.int .i64 (wrap64 ((wrap64 (a0)) + (wrap64 (a1))))] rfl (by (try simp only [List.map_toArray, List.map_cons, List.map_nil]); first | done | rfl | (simp only [List.length_drop, List.length_take]; rfl)) ?_; (with_reducible refine (billiardref02_Saturate.calls (wrap64 ((wrap64 (a0)) + (wrap64 (a1)))) t164 _ A39.out).mono ?_); rintro e w' ⟨rfl, ⟨nd, rfl⟩⟩; refine ⟨_, rfl, ?_⟩) | (go_at_call 12; (with_reducible refine (fx_Sub.calls a0 a1 t165 _ A41.out).mono ?_); rintro e w' ⟨rfl, ⟨nd, rfl⟩⟩) | (go_at_call 17; (with_reducible refine (billiardref02_Saturate.calls (wrap64 ((wrap64 (a0)) - (wrap64 (a1)))) t166 _ A42.out).mono ?_); rintro e w' ⟨rfl, ⟨nd, rfl⟩⟩) | (go_at_call 22; (with_reducible refine (fx_Neg.calls a0 t167 _ A44.out).mono ?_); rintro e w' ⟨rfl, ⟨nd, rfl⟩⟩) | (go_at_call 17; (with_reducible refine (billiardref02_Saturate.calls (wrap64 (-(wrap64 (a0)))) t168 _ A45.out).mono ?_); rintro e w' ⟨rfl, ⟨nd, rfl⟩⟩) | (go_at_call 23; (with_reducible refine (fx_Abs.calls a0 t169 _ A47.out).mono ?_); rintro e w' ⟨rfl, ⟨nd, rfl⟩⟩) | (go_at_call 17; (with_reducible refine (billiardref02_Saturate.calls x17_34 t170 _ A48.out).mono ?_); rintro e w' ⟨rfl, ⟨nd, rfl⟩⟩))
                          go_ret
                          exact ⟨by first | rfl | (simp [errW_none, errW_some] <;> rfl) | (simp [*, errW_none, errW_some] <;> rfl), by repeat (first | (with_reducible first | exact HB.out | apply below_alloc | apply pw_below_drewN | apply below_drew1) | exact HB.out)⟩
                      · rw [if_neg c46] at H
                        have c46b0 : (t167 == t168) = false := beq_eq_false_iff_ne.mpr c46
                        have c46b1 : (t167 != t168) = true := bne_iff_ne.mpr c46
                        obtain rfl := Option.some.inj H
                        go_wp2_with (first | ((with_reducible refine gate_callee (f := 21) rfl ?_); refine goesL_ (some 94) rfl rfl Try.func21 (by kernel_rfl) rfl #[.int .i64 (wrap64 (a0)), .int .i64 65536] rfl (by (try simp only [List.map_toArray, List.map_cons, List.map_nil]); first | done | rfl | (simp only [List.length_drop, List.length_take]; rfl)) ?_; (with_reducible refine (billiardref01_Floor.calls (wrap64 (a0)) 65536 t162 _ A37.out).mono ?_); rintro e w' ⟨rfl, ⟨nd, rfl⟩⟩; refine ⟨_, rfl, ?_⟩) | ((with_reducible refine gate_callee (f := 11) rfl ?_); refine goesL_ (some 97) rfl rfl Try.func11 (by kernel_rfl) rfl #[.int .i32 a0, .int .i32 a1] rfl (by (try simp only [List.map_toArray, List.map_cons, List.map_nil]); first | done | rfl | (simp only [List.length_drop, List.length_take]; rfl)) ?_; (with_reducible refine (fx_Add.calls a0 a1 t163 _ A38.out).mono ?_); rintro e w' ⟨rfl, ⟨nd, rfl⟩⟩; refine ⟨_, rfl, ?_⟩) | ((with_reducible refine gate_callee (f := 17) rfl ?_); refine goesL_ (some 101) rfl rfl Try.func17 (by kernel_rfl) rfl #[.int .i64 (wrap64 ((wrap64 (a0)) + (wrap64 (a1))))] rfl (by (try simp only [List.map_toArray, List.map_cons, List.map_nil]); first | done | rfl | (simp only [List.length_drop, List.length_take]; rfl)) ?_; (with_reducible refine (billiardref02_Saturate.calls (wrap64 ((wrap64 (a0)) + (wrap64 (a1)))) t164 _ A39.out).mono ?_); rintro e w' ⟨rfl, ⟨nd, rfl⟩⟩; refine ⟨_, rfl, ?_⟩) | (go_at_call 12; (with_reducible refine (fx_Sub.calls a0 a1 t165 _ A41.out).mono ?_); rintro e w' ⟨rfl, ⟨nd, rfl⟩⟩) | (go_at_call 17; (with_reducible refine (billiardref02_Saturate.calls (wrap64 ((wrap64 (a0)) - (wrap64 (a1)))) t166 _ A42.out).mono ?_); rintro e w' ⟨rfl, ⟨nd, rfl⟩⟩) | (go_at_call 22; (with_reducible refine (fx_Neg.calls a0 t167 _ A44.out).mono ?_); rintro e w' ⟨rfl, ⟨nd, rfl⟩⟩) | (go_at_call 17; (with_reducible refine (billiardref02_Saturate.calls (wrap64 (-(wrap64 (a0)))) t168 _ A45.out).mono ?_); rintro e w' ⟨rfl, ⟨nd, rfl⟩⟩))
                        go_ret
                        exact ⟨by first | rfl | (simp [errW_none, errW_some] <;> rfl) | (simp [*, errW_none, errW_some] <;> rfl), by repeat (first | (with_reducible first | exact HB.out | apply below_alloc | apply pw_below_drewN | apply below_drew1) | exact HB.out)⟩
                    · rw [if_neg c43] at H
                      have c43b0 : (t165 == t166) = false := beq_eq_false_iff_ne.mpr c43
                      have c43b1 : (t165 != t166) = true := bne_iff_ne.mpr c43
                      obtain rfl := Option.some.inj H
                      go_wp2_with (first | ((with_reducible refine gate_callee (f := 21) rfl ?_); refine goesL_ (some 94) rfl rfl Try.func21 (by kernel_rfl) rfl #[.int .i64 (wrap64 (a0)), .int .i64 65536] rfl (by (try simp only [List.map_toArray, List.map_cons, List.map_nil]); first | done | rfl | (simp only [List.length_drop, List.length_take]; rfl)) ?_; (with_reducible refine (billiardref01_Floor.calls (wrap64 (a0)) 65536 t162 _ A37.out).mono ?_); rintro e w' ⟨rfl, ⟨nd, rfl⟩⟩; refine ⟨_, rfl, ?_⟩) | ((with_reducible refine gate_callee (f := 11) rfl ?_); refine goesL_ (some 97) rfl rfl Try.func11 (by kernel_rfl) rfl #[.int .i32 a0, .int .i32 a1] rfl (by (try simp only [List.map_toArray, List.map_cons, List.map_nil]); first | done | rfl | (simp only [List.length_drop, List.length_take]; rfl)) ?_; (with_reducible refine (fx_Add.calls a0 a1 t163 _ A38.out).mono ?_); rintro e w' ⟨rfl, ⟨nd, rfl⟩⟩; refine ⟨_, rfl, ?_⟩) | ((with_reducible refine gate_callee (f := 17) rfl ?_); refine goesL_ (some 101) rfl rfl Try.func17 (by kernel_rfl) rfl #[.int .i64 (wrap64 ((wrap64 (a0)) + (wrap64 (a1))))] rfl (by (try simp only [List.map_toArray, List.map_cons, List.map_nil]); first | done | rfl | (simp only [List.length_drop, List.length_take]; rfl)) ?_; (with_reducible refine (billiardref02_Saturate.calls (wrap64 ((wrap64 (a0)) + (wrap64 (a1)))) t164 _ A39.out).mono ?_); rintro e w' ⟨rfl, ⟨nd, rfl⟩⟩; refine ⟨_, rfl, ?_⟩) | (go_at_call 12; (with_reducible refine (fx_Sub.calls a0 a1 t165 _ A41.out).mono ?_); rintro e w' ⟨rfl, ⟨nd, rfl⟩⟩) | (go_at_call 17; (with_reducible refine (billiardref02_Saturate.calls (wrap64 ((wrap64 (a0)) - (wrap64 (a1)))) t166 _ A42.out).mono ?_); rintro e w' ⟨rfl, ⟨nd, rfl⟩⟩))
                      go_ret
                      exact ⟨by first | rfl | (simp [errW_none, errW_some] <;> rfl) | (simp [*, errW_none, errW_some] <;> rfl), by repeat (first | (with_reducible first | exact HB.out | apply below_alloc | apply pw_below_drewN | apply below_drew1) | exact HB.out)⟩
                  · rw [if_neg c40] at H
                    have c40b0 : (t163 == t164) = false := beq_eq_false_iff_ne.mpr c40
                    have c40b1 : (t163 != t164) = true := bne_iff_ne.mpr c40
                    obtain rfl := Option.some.inj H
                    go_wp2_with (first | ((with_reducible refine gate_callee (f := 21) rfl ?_); refine goesL_ (some 94) rfl rfl Try.func21 (by kernel_rfl) rfl #[.int .i64 (wrap64 (a0)), .int .i64 65536] rfl (by (try simp only [List.map_toArray, List.map_cons, List.map_nil]); first | done | rfl | (simp only [List.length_drop, List.length_take]; rfl)) ?_; (with_reducible refine (billiardref01_Floor.calls (wrap64 (a0)) 65536 t162 _ A37.out).mono ?_); rintro e w' ⟨rfl, ⟨nd, rfl⟩⟩; refine ⟨_, rfl, ?_⟩) | ((with_reducible refine gate_callee (f := 11) rfl ?_); refine goesL_ (some 97) rfl rfl Try.func11 (by kernel_rfl) rfl #[.int .i32 a0, .int .i32 a1] rfl (by (try simp only [List.map_toArray, List.map_cons, List.map_nil]); first | done | rfl | (simp only [List.length_drop, List.length_take]; rfl)) ?_; (with_reducible refine (fx_Add.calls a0 a1 t163 _ A38.out).mono ?_); rintro e w' ⟨rfl, ⟨nd, rfl⟩⟩; refine ⟨_, rfl, ?_⟩) | ((with_reducible refine gate_callee (f := 17) rfl ?_); refine goesL_ (some 101) rfl rfl Try.func17 (by kernel_rfl) rfl #[.int .i64 (wrap64 ((wrap64 (a0)) + (wrap64 (a1))))] rfl (by (try simp only [List.map_toArray, List.map_cons, List.map_nil]); first | done | rfl | (simp only [List.length_drop, List.length_take]; rfl)) ?_; (with_reducible refine (billiardref02_Saturate.calls (wrap64 ((wrap64 (a0)) + (wrap64 (a1)))) t164 _ A39.out).mono ?_); rintro e w' ⟨rfl, ⟨nd, rfl⟩⟩; refine ⟨_, rfl, ?_⟩))
                    go_ret
                    exact ⟨by first | rfl | (simp [errW_none, errW_some] <;> rfl) | (simp [*, errW_none, errW_some] <;> rfl), by repeat (first | (with_reducible first | exact HB.out | apply below_alloc | apply pw_below_drewN | apply below_drew1) | exact HB.out)⟩
  · replace c6 := Bool.eq_false_iff.mpr c6
    subst c6
    have H1 : (some false) = some r := by rw [if_neg (show ¬ (false = true) by decide)] at H; exact H
    clear H
    have H := H1
    clear H1
    obtain rfl := Option.some.inj H
    go_enter Try.func6, Try.ntmps6
    go_wp2_with (first | ((with_reducible refine gate_callee (f := 8) rfl ?_); refine goesL_ (some 19) rfl rfl Try.func8 (by kernel_rfl) rfl #[] rfl (by (try simp only [List.map_toArray, List.map_cons, List.map_nil]); first | done | rfl | (simp only [List.length_drop, List.length_take]; rfl)) ?_; (with_reducible refine (billiardlaw02_awake.calls  false _ A5.out).mono ?_); rintro e w53 ⟨rfl, hb⟩; refine ⟨_, rfl, ?_⟩; have n0_ := Aside0.mk (below_step (by repeat (first | (with_reducible first | exact HB.out | apply below_alloc | apply pw_below_drewN | apply below_drew1) | exact HB.out)) hb); clear HB; have HB := n0_; clear n0_; (try clear hb); (try clear hb2); (try clear hk); (try clear hi)))
    go_ret
    exact ⟨by first | rfl | (simp [errW_none, errW_some] <;> rfl) | (simp [*, errW_none, errW_some] <;> rfl), by repeat (first | (with_reducible first | exact HB.out | apply below_alloc | apply pw_below_drewN | apply below_drew1) | exact HB.out)⟩

/-- THE ONE PURE STATEMENT of billiardlaw02_FxMatchesReference: yours. -/
def billiardlaw02_FxMatchesReference.Pure : Prop := ∀ (a0 : Int) (a1 : Int) (a2 : Int) (a3 : Int), (Lit.int .i32 a0).wf = true → (Lit.int .i32 a1).wf = true → (Lit.int .i64 a2).wf = true → (Lit.int .i64 a3).wf = true → ∃ k, billiardlaw02_FxMatchesReference.f k a0 a1 a2 a3 = some true
theorem billiardlaw02_FxMatchesReference.walk (P : billiardlaw02_FxMatchesReference.Pure) (a0 : Int) (a1 : Int) (a2 : Int) (a3 : Int) (w : World) (w0 : (Lit.int .i32 a0).wf = true) (w1 : (Lit.int .i32 a1).wf = true) (w2 : (Lit.int .i64 a2).wf = true) (w3 : (Lit.int .i64 a3).wf = true) :
    Calls Try.prog 6 #[.int .i32 a0, .int .i32 a1, .int .i64 a2, .int .i64 a3] w fun e w' => e = .returned (.bool true) ∧ Below w.heap.size w w' := by
  obtain ⟨k, h⟩ := P a0 a1 a2 a3 w0 w1 w2 w3
  refine (billiardlaw02_FxMatchesReference.calls k a0 a1 a2 a3 true w h).mono ?_
  rintro e w' ⟨rfl, hd⟩
  exact ⟨rfl, hd⟩

end Go.Proofs.Ytkkmknkpopgliaa.Q
