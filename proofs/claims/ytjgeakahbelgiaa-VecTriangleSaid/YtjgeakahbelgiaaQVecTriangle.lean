-- PRINTED by print.py (a twelfth state) out of the translation. Not trusted: Lean checks it.
import Derived.Test.YtjgeakahbelgiaaQ0
import Derived.Test.YtjgeakahbelgiaaQbilliardlaw04
import Derived.Test.YtjgeakahbelgiaaQbilliardref04
import Derived.Test.YtjgeakahbelgiaaQvec
namespace Go.Proofs.Ytjgeakahbelgiaa.Q
open Go.RowKit Go.Proofs.YtjgeakahbelgiaaW.PrintWords Go.Proofs.YtjgeakahbelgiaaW.PrintLast Go.Proofs.YtjgeakahbelgiaaW.PrintMore
attribute [local go_sem] max2_int min2_int max_two min_two max_three min_three max_four min_four   -- for this text's walks alone
set_option linter.unusedVariables false
set_option linter.unusedSimpArgs false

/-! ### billiardlaw04_VecTriangle: function 6 -/
def billiardlaw04_VecTriangle.j0 : Nat → Int → Int → Int → Int → Bool → Option (Bool)
  | 0, _, _, _, _, _ => none
  | k + 1, x0, x1, x2, x3, x54 => if x54 = true then ((billiardlaw04_awake.f k).bind fun t173 => (some t173)) else ((vec_Length.f k (wrap64 (x0 + x2)) (wrap64 (x1 + x3))).bind fun t174 => ((vec_Length.f k x0 x1).bind fun t175 => ((vec_Length.f k x2 x3).bind fun t176 => (some (decide (t174 ≤ (wrap64 ((wrap64 (t175 + t176)) + 2))))))))
def billiardlaw04_VecTriangle.f (k : Nat) (a0 : Int) (a1 : Int) (a2 : Int) (a3 : Int) : Option (Bool) := (billiardlaw04_awake.f k).bind fun t164 => (if t164 = true then ((billiardref04_In.f (wrap64 (2 * a0))).bind fun t165 => (if t165 = true then ((billiardref04_In.f (wrap64 (2 * a1))).bind fun t166 => (if t166 = true then ((billiardref04_In.f (wrap64 (2 * a2))).bind fun t167 => (if t167 = true then ((billiardref04_In.f (wrap64 (2 * a3))).bind fun t168 => (if t168 = true then ((billiardref04_In.f a0).bind fun t169 => (if t169 = true then ((billiardref04_In.f a1).bind fun t170 => (if t170 = true then ((billiardref04_In.f a2).bind fun t171 => (if t171 = true then ((billiardref04_In.f a3).bind fun t172 => (billiardlaw04_VecTriangle.j0 k a0 a1 a2 a3 (!t172))) else (billiardlaw04_VecTriangle.j0 k a0 a1 a2 a3 true))) else (billiardlaw04_VecTriangle.j0 k a0 a1 a2 a3 true))) else (billiardlaw04_VecTriangle.j0 k a0 a1 a2 a3 true))) else (billiardlaw04_VecTriangle.j0 k a0 a1 a2 a3 true))) else (billiardlaw04_VecTriangle.j0 k a0 a1 a2 a3 true))) else (billiardlaw04_VecTriangle.j0 k a0 a1 a2 a3 true))) else (billiardlaw04_VecTriangle.j0 k a0 a1 a2 a3 true))) else (billiardlaw04_VecTriangle.j0 k a0 a1 a2 a3 true))
theorem billiardlaw04_VecTriangle.mono_l : ∀ k, (∀ y0 y1 y2 y3 y4, LeO (billiardlaw04_VecTriangle.j0 k y0 y1 y2 y3 y4) (billiardlaw04_VecTriangle.j0 (k + 1) y0 y1 y2 y3 y4))
  | 0 => fun _ _ _ _ _ r h => by simp [billiardlaw04_VecTriangle.j0] at h
  | k + 1 => by
    have ih0 := billiardlaw04_VecTriangle.mono_l k
    · intro y0 y1 y2 y3 y4
      unfold billiardlaw04_VecTriangle.j0
      repeat' first
      | (with_reducible exact ih0 _ _ _ _ _)
      | (with_reducible exact billiardlaw04_awake.mono _)
      | (with_reducible exact vec_Length.mono _ _ _)
      | (with_reducible exact LeO.refl _)
      | (with_reducible exact LeO.none _)
      | (with_reducible refine LeO.ite ?_ ?_)
      | (with_reducible refine LeO.bind ?_ (fun _ => ?_))
      | exact ih0 _ _ _ _ _
      | exact billiardlaw04_awake.mono _
      | exact vec_Length.mono _ _ _
      | exact LeO.none _
      | refine LeO.ite ?_ ?_
      | refine LeO.bind ?_ (fun _ => ?_)
theorem billiardlaw04_VecTriangle.mono : ∀ a0 a1 a2 a3 k, LeO (billiardlaw04_VecTriangle.f k a0 a1 a2 a3) (billiardlaw04_VecTriangle.f (k + 1) a0 a1 a2 a3) := by
  intro a0 a1 a2 a3 k
  have ih0 := billiardlaw04_VecTriangle.mono_l k
  unfold billiardlaw04_VecTriangle.f
  repeat' first
      | (with_reducible exact ih0 _ _ _ _ _)
      | (with_reducible exact billiardlaw04_awake.mono _)
      | (with_reducible exact vec_Length.mono _ _ _)
      | (with_reducible exact LeO.refl _)
      | (with_reducible exact LeO.none _)
      | (with_reducible refine LeO.ite ?_ ?_)
      | (with_reducible refine LeO.bind ?_ (fun _ => ?_))
      | exact ih0 _ _ _ _ _
      | exact billiardlaw04_awake.mono _
      | exact vec_Length.mono _ _ _
      | exact LeO.none _
      | refine LeO.ite ?_ ?_
      | refine LeO.bind ?_ (fun _ => ?_)
set_option maxHeartbeats 8000000 in
set_option maxRecDepth 100000 in
theorem billiardlaw04_VecTriangle.calls (k : Nat) (a0 : Int) (a1 : Int) (a2 : Int) (a3 : Int) (r : Bool) (w : World) (h : billiardlaw04_VecTriangle.f k a0 a1 a2 a3 = some r) :
    Calls Try.prog 6 #[.int .i64 a0, .int .i64 a1, .int .i64 a2, .int .i64 a3] w fun e w' => e = .returned (.bool r) ∧ Below w.heap.size w w' := by
  have HB := Aside0.mk (Below.refl w.heap.size w)
  have H : ((billiardlaw04_awake.f k).bind fun t164 => (if t164 = true then ((billiardref04_In.f (wrap64 (2 * a0))).bind fun t165 => (if t165 = true then ((billiardref04_In.f (wrap64 (2 * a1))).bind fun t166 => (if t166 = true then ((billiardref04_In.f (wrap64 (2 * a2))).bind fun t167 => (if t167 = true then ((billiardref04_In.f (wrap64 (2 * a3))).bind fun t168 => (if t168 = true then ((billiardref04_In.f a0).bind fun t169 => (if t169 = true then ((billiardref04_In.f a1).bind fun t170 => (if t170 = true then ((billiardref04_In.f a2).bind fun t171 => (if t171 = true then ((billiardref04_In.f a3).bind fun t172 => (billiardlaw04_VecTriangle.j0 k a0 a1 a2 a3 (!t172))) else (billiardlaw04_VecTriangle.j0 k a0 a1 a2 a3 true))) else (billiardlaw04_VecTriangle.j0 k a0 a1 a2 a3 true))) else (billiardlaw04_VecTriangle.j0 k a0 a1 a2 a3 true))) else (billiardlaw04_VecTriangle.j0 k a0 a1 a2 a3 true))) else (billiardlaw04_VecTriangle.j0 k a0 a1 a2 a3 true))) else (billiardlaw04_VecTriangle.j0 k a0 a1 a2 a3 true))) else (billiardlaw04_VecTriangle.j0 k a0 a1 a2 a3 true))) else (billiardlaw04_VecTriangle.j0 k a0 a1 a2 a3 true))) = some r := h
  clear h
  have HC5 := Aside0.mk H
  clear H
  go_enter Try.func6, Try.ntmps6
  go_upto_region 1 with (fail)
  go_cut [54] (fun v54 wc => ∃ (kq : Nat) (x54_4 : Bool), v54 = .bool x54_4 ∧ Aside0 (billiardlaw04_VecTriangle.j0 kq a0 a1 a2 a3 x54_4 = some r) ∧ Aside0 (kq ≤ k) ∧ Aside0 (Below w.heap.size w wc))
  case first =>
    have H := HC5.out
    clear HC5
    replace H := Option.bind_eq_some_iff.mp H
    obtain ⟨t164, A60, H⟩ := H
    replace H : (if t164 = true then ((billiardref04_In.f (wrap64 (2 * a0))).bind fun t165 => (if t165 = true then ((billiardref04_In.f (wrap64 (2 * a1))).bind fun t166 => (if t166 = true then ((billiardref04_In.f (wrap64 (2 * a2))).bind fun t167 => (if t167 = true then ((billiardref04_In.f (wrap64 (2 * a3))).bind fun t168 => (if t168 = true then ((billiardref04_In.f a0).bind fun t169 => (if t169 = true then ((billiardref04_In.f a1).bind fun t170 => (if t170 = true then ((billiardref04_In.f a2).bind fun t171 => (if t171 = true then ((billiardref04_In.f a3).bind fun t172 => (billiardlaw04_VecTriangle.j0 k a0 a1 a2 a3 (!t172))) else (billiardlaw04_VecTriangle.j0 k a0 a1 a2 a3 true))) else (billiardlaw04_VecTriangle.j0 k a0 a1 a2 a3 true))) else (billiardlaw04_VecTriangle.j0 k a0 a1 a2 a3 true))) else (billiardlaw04_VecTriangle.j0 k a0 a1 a2 a3 true))) else (billiardlaw04_VecTriangle.j0 k a0 a1 a2 a3 true))) else (billiardlaw04_VecTriangle.j0 k a0 a1 a2 a3 true))) else (billiardlaw04_VecTriangle.j0 k a0 a1 a2 a3 true))) else (billiardlaw04_VecTriangle.j0 k a0 a1 a2 a3 true)) = some r := H
    have A6 := Aside0.mk A60
    clear A60
    by_cases c7 : t164 = true
    · subst c7
      have H1 : ((billiardref04_In.f (wrap64 (2 * a0))).bind fun t165 => (if t165 = true then ((billiardref04_In.f (wrap64 (2 * a1))).bind fun t166 => (if t166 = true then ((billiardref04_In.f (wrap64 (2 * a2))).bind fun t167 => (if t167 = true then ((billiardref04_In.f (wrap64 (2 * a3))).bind fun t168 => (if t168 = true then ((billiardref04_In.f a0).bind fun t169 => (if t169 = true then ((billiardref04_In.f a1).bind fun t170 => (if t170 = true then ((billiardref04_In.f a2).bind fun t171 => (if t171 = true then ((billiardref04_In.f a3).bind fun t172 => (billiardlaw04_VecTriangle.j0 k a0 a1 a2 a3 (!t172))) else (billiardlaw04_VecTriangle.j0 k a0 a1 a2 a3 true))) else (billiardlaw04_VecTriangle.j0 k a0 a1 a2 a3 true))) else (billiardlaw04_VecTriangle.j0 k a0 a1 a2 a3 true))) else (billiardlaw04_VecTriangle.j0 k a0 a1 a2 a3 true))) else (billiardlaw04_VecTriangle.j0 k a0 a1 a2 a3 true))) else (billiardlaw04_VecTriangle.j0 k a0 a1 a2 a3 true))) else (billiardlaw04_VecTriangle.j0 k a0 a1 a2 a3 true))) = some r := by rw [if_pos rfl] at H; exact H
      clear H
      have H := H1
      clear H1
      replace H := Option.bind_eq_some_iff.mp H
      obtain ⟨t165, A80, H⟩ := H
      replace H : (if t165 = true then ((billiardref04_In.f (wrap64 (2 * a1))).bind fun t166 => (if t166 = true then ((billiardref04_In.f (wrap64 (2 * a2))).bind fun t167 => (if t167 = true then ((billiardref04_In.f (wrap64 (2 * a3))).bind fun t168 => (if t168 = true then ((billiardref04_In.f a0).bind fun t169 => (if t169 = true then ((billiardref04_In.f a1).bind fun t170 => (if t170 = true then ((billiardref04_In.f a2).bind fun t171 => (if t171 = true then ((billiardref04_In.f a3).bind fun t172 => (billiardlaw04_VecTriangle.j0 k a0 a1 a2 a3 (!t172))) else (billiardlaw04_VecTriangle.j0 k a0 a1 a2 a3 true))) else (billiardlaw04_VecTriangle.j0 k a0 a1 a2 a3 true))) else (billiardlaw04_VecTriangle.j0 k a0 a1 a2 a3 true))) else (billiardlaw04_VecTriangle.j0 k a0 a1 a2 a3 true))) else (billiardlaw04_VecTriangle.j0 k a0 a1 a2 a3 true))) else (billiardlaw04_VecTriangle.j0 k a0 a1 a2 a3 true))) else (billiardlaw04_VecTriangle.j0 k a0 a1 a2 a3 true)) = some r := H
      have A8 := Aside0.mk A80
      clear A80
      by_cases c9 : t165 = true
      · subst c9
        have H1 : ((billiardref04_In.f (wrap64 (2 * a1))).bind fun t166 => (if t166 = true then ((billiardref04_In.f (wrap64 (2 * a2))).bind fun t167 => (if t167 = true then ((billiardref04_In.f (wrap64 (2 * a3))).bind fun t168 => (if t168 = true then ((billiardref04_In.f a0).bind fun t169 => (if t169 = true then ((billiardref04_In.f a1).bind fun t170 => (if t170 = true then ((billiardref04_In.f a2).bind fun t171 => (if t171 = true then ((billiardref04_In.f a3).bind fun t172 => (billiardlaw04_VecTriangle.j0 k a0 a1 a2 a3 (!t172))) else (billiardlaw04_VecTriangle.j0 k a0 a1 a2 a3 true))) else (billiardlaw04_VecTriangle.j0 k a0 a1 a2 a3 true))) else (billiardlaw04_VecTriangle.j0 k a0 a1 a2 a3 true))) else (billiardlaw04_VecTriangle.j0 k a0 a1 a2 a3 true))) else (billiardlaw04_VecTriangle.j0 k a0 a1 a2 a3 true))) else (billiardlaw04_VecTriangle.j0 k a0 a1 a2 a3 true))) = some r := by rw [if_pos rfl] at H; exact H
        clear H
        have H := H1
        clear H1
        replace H := Option.bind_eq_some_iff.mp H
        obtain ⟨t166, A100, H⟩ := H
        replace H : (if t166 = true then ((billiardref04_In.f (wrap64 (2 * a2))).bind fun t167 => (if t167 = true then ((billiardref04_In.f (wrap64 (2 * a3))).bind fun t168 => (if t168 = true then ((billiardref04_In.f a0).bind fun t169 => (if t169 = true then ((billiardref04_In.f a1).bind fun t170 => (if t170 = true then ((billiardref04_In.f a2).bind fun t171 => (if t171 = true then ((billiardref04_In.f a3).bind fun t172 => (billiardlaw04_VecTriangle.j0 k a0 a1 a2 a3 (!t172))) else (billiardlaw04_VecTriangle.j0 k a0 a1 a2 a3 true))) else (billiardlaw04_VecTriangle.j0 k a0 a1 a2 a3 true))) else (billiardlaw04_VecTriangle.j0 k a0 a1 a2 a3 true))) else (billiardlaw04_VecTriangle.j0 k a0 a1 a2 a3 true))) else (billiardlaw04_VecTriangle.j0 k a0 a1 a2 a3 true))) else (billiardlaw04_VecTriangle.j0 k a0 a1 a2 a3 true)) = some r := H
        have A10 := Aside0.mk A100
        clear A100
        by_cases c11 : t166 = true
        · subst c11
          have H1 : ((billiardref04_In.f (wrap64 (2 * a2))).bind fun t167 => (if t167 = true then ((billiardref04_In.f (wrap64 (2 * a3))).bind fun t168 => (if t168 = true then ((billiardref04_In.f a0).bind fun t169 => (if t169 = true then ((billiardref04_In.f a1).bind fun t170 => (if t170 = true then ((billiardref04_In.f a2).bind fun t171 => (if t171 = true then ((billiardref04_In.f a3).bind fun t172 => (billiardlaw04_VecTriangle.j0 k a0 a1 a2 a3 (!t172))) else (billiardlaw04_VecTriangle.j0 k a0 a1 a2 a3 true))) else (billiardlaw04_VecTriangle.j0 k a0 a1 a2 a3 true))) else (billiardlaw04_VecTriangle.j0 k a0 a1 a2 a3 true))) else (billiardlaw04_VecTriangle.j0 k a0 a1 a2 a3 true))) else (billiardlaw04_VecTriangle.j0 k a0 a1 a2 a3 true))) = some r := by rw [if_pos rfl] at H; exact H
          clear H
          have H := H1
          clear H1
          replace H := Option.bind_eq_some_iff.mp H
          obtain ⟨t167, A120, H⟩ := H
          replace H : (if t167 = true then ((billiardref04_In.f (wrap64 (2 * a3))).bind fun t168 => (if t168 = true then ((billiardref04_In.f a0).bind fun t169 => (if t169 = true then ((billiardref04_In.f a1).bind fun t170 => (if t170 = true then ((billiardref04_In.f a2).bind fun t171 => (if t171 = true then ((billiardref04_In.f a3).bind fun t172 => (billiardlaw04_VecTriangle.j0 k a0 a1 a2 a3 (!t172))) else (billiardlaw04_VecTriangle.j0 k a0 a1 a2 a3 true))) else (billiardlaw04_VecTriangle.j0 k a0 a1 a2 a3 true))) else (billiardlaw04_VecTriangle.j0 k a0 a1 a2 a3 true))) else (billiardlaw04_VecTriangle.j0 k a0 a1 a2 a3 true))) else (billiardlaw04_VecTriangle.j0 k a0 a1 a2 a3 true)) = some r := H
          have A12 := Aside0.mk A120
          clear A120
          by_cases c13 : t167 = true
          · subst c13
            have H1 : ((billiardref04_In.f (wrap64 (2 * a3))).bind fun t168 => (if t168 = true then ((billiardref04_In.f a0).bind fun t169 => (if t169 = true then ((billiardref04_In.f a1).bind fun t170 => (if t170 = true then ((billiardref04_In.f a2).bind fun t171 => (if t171 = true then ((billiardref04_In.f a3).bind fun t172 => (billiardlaw04_VecTriangle.j0 k a0 a1 a2 a3 (!t172))) else (billiardlaw04_VecTriangle.j0 k a0 a1 a2 a3 true))) else (billiardlaw04_VecTriangle.j0 k a0 a1 a2 a3 true))) else (billiardlaw04_VecTriangle.j0 k a0 a1 a2 a3 true))) else (billiardlaw04_VecTriangle.j0 k a0 a1 a2 a3 true))) = some r := by rw [if_pos rfl] at H; exact H
            clear H
            have H := H1
            clear H1
            replace H := Option.bind_eq_some_iff.mp H
            obtain ⟨t168, A140, H⟩ := H
            replace H : (if t168 = true then ((billiardref04_In.f a0).bind fun t169 => (if t169 = true then ((billiardref04_In.f a1).bind fun t170 => (if t170 = true then ((billiardref04_In.f a2).bind fun t171 => (if t171 = true then ((billiardref04_In.f a3).bind fun t172 => (billiardlaw04_VecTriangle.j0 k a0 a1 a2 a3 (!t172))) else (billiardlaw04_VecTriangle.j0 k a0 a1 a2 a3 true))) else (billiardlaw04_VecTriangle.j0 k a0 a1 a2 a3 true))) else (billiardlaw04_VecTriangle.j0 k a0 a1 a2 a3 true))) else (billiardlaw04_VecTriangle.j0 k a0 a1 a2 a3 true)) = some r := H
            have A14 := Aside0.mk A140
            clear A140
            by_cases c15 : t168 = true
            · subst c15
              have H1 : ((billiardref04_In.f a0).bind fun t169 => (if t169 = true then ((billiardref04_In.f a1).bind fun t170 => (if t170 = true then ((billiardref04_In.f a2).bind fun t171 => (if t171 = true then ((billiardref04_In.f a3).bind fun t172 => (billiardlaw04_VecTriangle.j0 k a0 a1 a2 a3 (!t172))) else (billiardlaw04_VecTriangle.j0 k a0 a1 a2 a3 true))) else (billiardlaw04_VecTriangle.j0 k a0 a1 a2 a3 true))) else (billiardlaw04_VecTriangle.j0 k a0 a1 a2 a3 true))) = some r := by rw [if_pos rfl] at H; exact H
              clear H
              have H := H1
              clear H1
              replace H := Option.bind_eq_some_iff.mp H
              obtain ⟨t169, A160, H⟩ := H
              replace H : (if t169 = true then ((billiardref04_In.f a1).bind fun t170 => (if t170 = true then ((billiardref04_In.f a2).bind fun t171 => (if t171 = true then ((billiardref04_In.f a3).bind fun t172 => (billiardlaw04_VecTriangle.j0 k a0 a1 a2 a3 (!t172))) else (billiardlaw04_VecTriangle.j0 k a0 a1 a2 a3 true))) else (billiardlaw04_VecTriangle.j0 k a0 a1 a2 a3 true))) else (billiardlaw04_VecTriangle.j0 k a0 a1 a2 a3 true)) = some r := H
              have A16 := Aside0.mk A160
              clear A160
              by_cases c17 : t169 = true
              · subst c17
                have H1 : ((billiardref04_In.f a1).bind fun t170 => (if t170 = true then ((billiardref04_In.f a2).bind fun t171 => (if t171 = true then ((billiardref04_In.f a3).bind fun t172 => (billiardlaw04_VecTriangle.j0 k a0 a1 a2 a3 (!t172))) else (billiardlaw04_VecTriangle.j0 k a0 a1 a2 a3 true))) else (billiardlaw04_VecTriangle.j0 k a0 a1 a2 a3 true))) = some r := by rw [if_pos rfl] at H; exact H
                clear H
                have H := H1
                clear H1
                replace H := Option.bind_eq_some_iff.mp H
                obtain ⟨t170, A180, H⟩ := H
                replace H : (if t170 = true then ((billiardref04_In.f a2).bind fun t171 => (if t171 = true then ((billiardref04_In.f a3).bind fun t172 => (billiardlaw04_VecTriangle.j0 k a0 a1 a2 a3 (!t172))) else (billiardlaw04_VecTriangle.j0 k a0 a1 a2 a3 true))) else (billiardlaw04_VecTriangle.j0 k a0 a1 a2 a3 true)) = some r := H
                have A18 := Aside0.mk A180
                clear A180
                by_cases c19 : t170 = true
                · subst c19
                  have H1 : ((billiardref04_In.f a2).bind fun t171 => (if t171 = true then ((billiardref04_In.f a3).bind fun t172 => (billiardlaw04_VecTriangle.j0 k a0 a1 a2 a3 (!t172))) else (billiardlaw04_VecTriangle.j0 k a0 a1 a2 a3 true))) = some r := by rw [if_pos rfl] at H; exact H
                  clear H
                  have H := H1
                  clear H1
                  replace H := Option.bind_eq_some_iff.mp H
                  obtain ⟨t171, A200, H⟩ := H
                  replace H : (if t171 = true then ((billiardref04_In.f a3).bind fun t172 => (billiardlaw04_VecTriangle.j0 k a0 a1 a2 a3 (!t172))) else (billiardlaw04_VecTriangle.j0 k a0 a1 a2 a3 true)) = some r := H
                  have A20 := Aside0.mk A200
                  clear A200
                  by_cases c21 : t171 = true
                  · subst c21
                    have H1 : ((billiardref04_In.f a3).bind fun t172 => (billiardlaw04_VecTriangle.j0 k a0 a1 a2 a3 (!t172))) = some r := by rw [if_pos rfl] at H; exact H
                    clear H
                    have H := H1
                    clear H1
                    replace H := Option.bind_eq_some_iff.mp H
                    obtain ⟨t172, A220, H⟩ := H
                    replace H : (billiardlaw04_VecTriangle.j0 k a0 a1 a2 a3 (!t172)) = some r := H
                    have A22 := Aside0.mk A220
                    clear A220
                    have H' := Aside0.mk H
                    clear H
                    go_wp2_with (first | ((with_reducible refine gate_callee (f := 8) rfl ?_); refine goesL_ (some 9) rfl rfl Try.func8 (by kernel_rfl) rfl #[] rfl (by (try simp only [List.map_toArray, List.map_cons, List.map_nil]); first | done | rfl | (simp only [List.length_drop, List.length_take]; rfl)) ?_; (with_reducible refine (billiardlaw04_awake.calls k  true _ A6.out).mono ?_); rintro e w23 ⟨rfl, hb⟩; refine ⟨_, rfl, ?_⟩; have n0_ := Aside0.mk (below_step (by repeat (first | (with_reducible first | exact HB.out | apply below_alloc | apply pw_below_drewN | apply below_drew1) | exact HB.out)) hb); clear HB; have HB := n0_; clear n0_; (try clear hb); (try clear hb2); (try clear hk); (try clear hi)) | (go_at_call 9; (with_reducible refine (billiardref04_In.calls (wrap64 (2 * a0)) true _ A8.out).mono ?_); rintro e w' ⟨rfl, ⟨nd, rfl⟩⟩) | (go_at_call 9; (with_reducible refine (billiardref04_In.calls (wrap64 (2 * a1)) true _ A10.out).mono ?_); rintro e w' ⟨rfl, ⟨nd, rfl⟩⟩) | (go_at_call 9; (with_reducible refine (billiardref04_In.calls (wrap64 (2 * a2)) true _ A12.out).mono ?_); rintro e w' ⟨rfl, ⟨nd, rfl⟩⟩) | (go_at_call 9; (with_reducible refine (billiardref04_In.calls (wrap64 (2 * a3)) true _ A14.out).mono ?_); rintro e w' ⟨rfl, ⟨nd, rfl⟩⟩) | (go_at_call 9; (with_reducible refine (billiardref04_In.calls a0 true _ A16.out).mono ?_); rintro e w' ⟨rfl, ⟨nd, rfl⟩⟩) | (go_at_call 9; (with_reducible refine (billiardref04_In.calls a1 true _ A18.out).mono ?_); rintro e w' ⟨rfl, ⟨nd, rfl⟩⟩) | (go_at_call 9; (with_reducible refine (billiardref04_In.calls a2 true _ A20.out).mono ?_); rintro e w' ⟨rfl, ⟨nd, rfl⟩⟩) | (go_at_call 9; (with_reducible refine (billiardref04_In.calls a3 t172 _ A22.out).mono ?_); rintro e w' ⟨rfl, ⟨nd, rfl⟩⟩))
                    go_meet
                    case rel => exact ⟨_, (!t172), (by first | rfl | (simp; done) | (simp [*]; done)), H', ⟨by first | omega | exact Nat.le_refl _⟩, ⟨by repeat (first | (with_reducible first | exact HB.out | apply below_alloc | apply pw_below_drewN | apply below_drew1) | exact HB.out)⟩⟩
                  · replace c21 := Bool.eq_false_iff.mpr c21
                    subst c21
                    have H1 : (billiardlaw04_VecTriangle.j0 k a0 a1 a2 a3 true) = some r := by rw [if_neg (show ¬ (false = true) by decide)] at H; exact H
                    clear H
                    have H := H1
                    clear H1
                    have H' := Aside0.mk H
                    clear H
                    go_wp2_with (first | ((with_reducible refine gate_callee (f := 8) rfl ?_); refine goesL_ (some 9) rfl rfl Try.func8 (by kernel_rfl) rfl #[] rfl (by (try simp only [List.map_toArray, List.map_cons, List.map_nil]); first | done | rfl | (simp only [List.length_drop, List.length_take]; rfl)) ?_; (with_reducible refine (billiardlaw04_awake.calls k  true _ A6.out).mono ?_); rintro e w24 ⟨rfl, hb⟩; refine ⟨_, rfl, ?_⟩; have n0_ := Aside0.mk (below_step (by repeat (first | (with_reducible first | exact HB.out | apply below_alloc | apply pw_below_drewN | apply below_drew1) | exact HB.out)) hb); clear HB; have HB := n0_; clear n0_; (try clear hb); (try clear hb2); (try clear hk); (try clear hi)) | (go_at_call 9; (with_reducible refine (billiardref04_In.calls (wrap64 (2 * a0)) true _ A8.out).mono ?_); rintro e w' ⟨rfl, ⟨nd, rfl⟩⟩) | (go_at_call 9; (with_reducible refine (billiardref04_In.calls (wrap64 (2 * a1)) true _ A10.out).mono ?_); rintro e w' ⟨rfl, ⟨nd, rfl⟩⟩) | (go_at_call 9; (with_reducible refine (billiardref04_In.calls (wrap64 (2 * a2)) true _ A12.out).mono ?_); rintro e w' ⟨rfl, ⟨nd, rfl⟩⟩) | (go_at_call 9; (with_reducible refine (billiardref04_In.calls (wrap64 (2 * a3)) true _ A14.out).mono ?_); rintro e w' ⟨rfl, ⟨nd, rfl⟩⟩) | (go_at_call 9; (with_reducible refine (billiardref04_In.calls a0 true _ A16.out).mono ?_); rintro e w' ⟨rfl, ⟨nd, rfl⟩⟩) | (go_at_call 9; (with_reducible refine (billiardref04_In.calls a1 true _ A18.out).mono ?_); rintro e w' ⟨rfl, ⟨nd, rfl⟩⟩) | (go_at_call 9; (with_reducible refine (billiardref04_In.calls a2 false _ A20.out).mono ?_); rintro e w' ⟨rfl, ⟨nd, rfl⟩⟩))
                    go_meet
                    case rel => exact ⟨_, (true), (by first | rfl | (simp; done) | (simp [*]; done)), H', ⟨by first | omega | exact Nat.le_refl _⟩, ⟨by repeat (first | (with_reducible first | exact HB.out | apply below_alloc | apply pw_below_drewN | apply below_drew1) | exact HB.out)⟩⟩
                · replace c19 := Bool.eq_false_iff.mpr c19
                  subst c19
                  have H1 : (billiardlaw04_VecTriangle.j0 k a0 a1 a2 a3 true) = some r := by rw [if_neg (show ¬ (false = true) by decide)] at H; exact H
                  clear H
                  have H := H1
                  clear H1
                  have H' := Aside0.mk H
                  clear H
                  go_wp2_with (first | ((with_reducible refine gate_callee (f := 8) rfl ?_); refine goesL_ (some 9) rfl rfl Try.func8 (by kernel_rfl) rfl #[] rfl (by (try simp only [List.map_toArray, List.map_cons, List.map_nil]); first | done | rfl | (simp only [List.length_drop, List.length_take]; rfl)) ?_; (with_reducible refine (billiardlaw04_awake.calls k  true _ A6.out).mono ?_); rintro e w25 ⟨rfl, hb⟩; refine ⟨_, rfl, ?_⟩; have n0_ := Aside0.mk (below_step (by repeat (first | (with_reducible first | exact HB.out | apply below_alloc | apply pw_below_drewN | apply below_drew1) | exact HB.out)) hb); clear HB; have HB := n0_; clear n0_; (try clear hb); (try clear hb2); (try clear hk); (try clear hi)) | (go_at_call 9; (with_reducible refine (billiardref04_In.calls (wrap64 (2 * a0)) true _ A8.out).mono ?_); rintro e w' ⟨rfl, ⟨nd, rfl⟩⟩) | (go_at_call 9; (with_reducible refine (billiardref04_In.calls (wrap64 (2 * a1)) true _ A10.out).mono ?_); rintro e w' ⟨rfl, ⟨nd, rfl⟩⟩) | (go_at_call 9; (with_reducible refine (billiardref04_In.calls (wrap64 (2 * a2)) true _ A12.out).mono ?_); rintro e w' ⟨rfl, ⟨nd, rfl⟩⟩) | (go_at_call 9; (with_reducible refine (billiardref04_In.calls (wrap64 (2 * a3)) true _ A14.out).mono ?_); rintro e w' ⟨rfl, ⟨nd, rfl⟩⟩) | (go_at_call 9; (with_reducible refine (billiardref04_In.calls a0 true _ A16.out).mono ?_); rintro e w' ⟨rfl, ⟨nd, rfl⟩⟩) | (go_at_call 9; (with_reducible refine (billiardref04_In.calls a1 false _ A18.out).mono ?_); rintro e w' ⟨rfl, ⟨nd, rfl⟩⟩))
                  go_meet
                  case rel => exact ⟨_, (true), (by first | rfl | (simp; done) | (simp [*]; done)), H', ⟨by first | omega | exact Nat.le_refl _⟩, ⟨by repeat (first | (with_reducible first | exact HB.out | apply below_alloc | apply pw_below_drewN | apply below_drew1) | exact HB.out)⟩⟩
              · replace c17 := Bool.eq_false_iff.mpr c17
                subst c17
                have H1 : (billiardlaw04_VecTriangle.j0 k a0 a1 a2 a3 true) = some r := by rw [if_neg (show ¬ (false = true) by decide)] at H; exact H
                clear H
                have H := H1
                clear H1
                have H' := Aside0.mk H
                clear H
                go_wp2_with (first | ((with_reducible refine gate_callee (f := 8) rfl ?_); refine goesL_ (some 9) rfl rfl Try.func8 (by kernel_rfl) rfl #[] rfl (by (try simp only [List.map_toArray, List.map_cons, List.map_nil]); first | done | rfl | (simp only [List.length_drop, List.length_take]; rfl)) ?_; (with_reducible refine (billiardlaw04_awake.calls k  true _ A6.out).mono ?_); rintro e w26 ⟨rfl, hb⟩; refine ⟨_, rfl, ?_⟩; have n0_ := Aside0.mk (below_step (by repeat (first | (with_reducible first | exact HB.out | apply below_alloc | apply pw_below_drewN | apply below_drew1) | exact HB.out)) hb); clear HB; have HB := n0_; clear n0_; (try clear hb); (try clear hb2); (try clear hk); (try clear hi)) | (go_at_call 9; (with_reducible refine (billiardref04_In.calls (wrap64 (2 * a0)) true _ A8.out).mono ?_); rintro e w' ⟨rfl, ⟨nd, rfl⟩⟩) | (go_at_call 9; (with_reducible refine (billiardref04_In.calls (wrap64 (2 * a1)) true _ A10.out).mono ?_); rintro e w' ⟨rfl, ⟨nd, rfl⟩⟩) | (go_at_call 9; (with_reducible refine (billiardref04_In.calls (wrap64 (2 * a2)) true _ A12.out).mono ?_); rintro e w' ⟨rfl, ⟨nd, rfl⟩⟩) | (go_at_call 9; (with_reducible refine (billiardref04_In.calls (wrap64 (2 * a3)) true _ A14.out).mono ?_); rintro e w' ⟨rfl, ⟨nd, rfl⟩⟩) | (go_at_call 9; (with_reducible refine (billiardref04_In.calls a0 false _ A16.out).mono ?_); rintro e w' ⟨rfl, ⟨nd, rfl⟩⟩))
                go_meet
                case rel => exact ⟨_, (true), (by first | rfl | (simp; done) | (simp [*]; done)), H', ⟨by first | omega | exact Nat.le_refl _⟩, ⟨by repeat (first | (with_reducible first | exact HB.out | apply below_alloc | apply pw_below_drewN | apply below_drew1) | exact HB.out)⟩⟩
            · replace c15 := Bool.eq_false_iff.mpr c15
              subst c15
              have H1 : (billiardlaw04_VecTriangle.j0 k a0 a1 a2 a3 true) = some r := by rw [if_neg (show ¬ (false = true) by decide)] at H; exact H
              clear H
              have H := H1
              clear H1
              have H' := Aside0.mk H
              clear H
              go_wp2_with (first | ((with_reducible refine gate_callee (f := 8) rfl ?_); refine goesL_ (some 9) rfl rfl Try.func8 (by kernel_rfl) rfl #[] rfl (by (try simp only [List.map_toArray, List.map_cons, List.map_nil]); first | done | rfl | (simp only [List.length_drop, List.length_take]; rfl)) ?_; (with_reducible refine (billiardlaw04_awake.calls k  true _ A6.out).mono ?_); rintro e w27 ⟨rfl, hb⟩; refine ⟨_, rfl, ?_⟩; have n0_ := Aside0.mk (below_step (by repeat (first | (with_reducible first | exact HB.out | apply below_alloc | apply pw_below_drewN | apply below_drew1) | exact HB.out)) hb); clear HB; have HB := n0_; clear n0_; (try clear hb); (try clear hb2); (try clear hk); (try clear hi)) | (go_at_call 9; (with_reducible refine (billiardref04_In.calls (wrap64 (2 * a0)) true _ A8.out).mono ?_); rintro e w' ⟨rfl, ⟨nd, rfl⟩⟩) | (go_at_call 9; (with_reducible refine (billiardref04_In.calls (wrap64 (2 * a1)) true _ A10.out).mono ?_); rintro e w' ⟨rfl, ⟨nd, rfl⟩⟩) | (go_at_call 9; (with_reducible refine (billiardref04_In.calls (wrap64 (2 * a2)) true _ A12.out).mono ?_); rintro e w' ⟨rfl, ⟨nd, rfl⟩⟩) | (go_at_call 9; (with_reducible refine (billiardref04_In.calls (wrap64 (2 * a3)) false _ A14.out).mono ?_); rintro e w' ⟨rfl, ⟨nd, rfl⟩⟩))
              go_meet
              case rel => exact ⟨_, (true), (by first | rfl | (simp; done) | (simp [*]; done)), H', ⟨by first | omega | exact Nat.le_refl _⟩, ⟨by repeat (first | (with_reducible first | exact HB.out | apply below_alloc | apply pw_below_drewN | apply below_drew1) | exact HB.out)⟩⟩
          · replace c13 := Bool.eq_false_iff.mpr c13
            subst c13
            have H1 : (billiardlaw04_VecTriangle.j0 k a0 a1 a2 a3 true) = some r := by rw [if_neg (show ¬ (false = true) by decide)] at H; exact H
            clear H
            have H := H1
            clear H1
            have H' := Aside0.mk H
            clear H
            go_wp2_with (first | ((with_reducible refine gate_callee (f := 8) rfl ?_); refine goesL_ (some 9) rfl rfl Try.func8 (by kernel_rfl) rfl #[] rfl (by (try simp only [List.map_toArray, List.map_cons, List.map_nil]); first | done | rfl | (simp only [List.length_drop, List.length_take]; rfl)) ?_; (with_reducible refine (billiardlaw04_awake.calls k  true _ A6.out).mono ?_); rintro e w28 ⟨rfl, hb⟩; refine ⟨_, rfl, ?_⟩; have n0_ := Aside0.mk (below_step (by repeat (first | (with_reducible first | exact HB.out | apply below_alloc | apply pw_below_drewN | apply below_drew1) | exact HB.out)) hb); clear HB; have HB := n0_; clear n0_; (try clear hb); (try clear hb2); (try clear hk); (try clear hi)) | (go_at_call 9; (with_reducible refine (billiardref04_In.calls (wrap64 (2 * a0)) true _ A8.out).mono ?_); rintro e w' ⟨rfl, ⟨nd, rfl⟩⟩) | (go_at_call 9; (with_reducible refine (billiardref04_In.calls (wrap64 (2 * a1)) true _ A10.out).mono ?_); rintro e w' ⟨rfl, ⟨nd, rfl⟩⟩) | (go_at_call 9; (with_reducible refine (billiardref04_In.calls (wrap64 (2 * a2)) false _ A12.out).mono ?_); rintro e w' ⟨rfl, ⟨nd, rfl⟩⟩))
            go_meet
            case rel => exact ⟨_, (true), (by first | rfl | (simp; done) | (simp [*]; done)), H', ⟨by first | omega | exact Nat.le_refl _⟩, ⟨by repeat (first | (with_reducible first | exact HB.out | apply below_alloc | apply pw_below_drewN | apply below_drew1) | exact HB.out)⟩⟩
        · replace c11 := Bool.eq_false_iff.mpr c11
          subst c11
          have H1 : (billiardlaw04_VecTriangle.j0 k a0 a1 a2 a3 true) = some r := by rw [if_neg (show ¬ (false = true) by decide)] at H; exact H
          clear H
          have H := H1
          clear H1
          have H' := Aside0.mk H
          clear H
          go_wp2_with (first | ((with_reducible refine gate_callee (f := 8) rfl ?_); refine goesL_ (some 9) rfl rfl Try.func8 (by kernel_rfl) rfl #[] rfl (by (try simp only [List.map_toArray, List.map_cons, List.map_nil]); first | done | rfl | (simp only [List.length_drop, List.length_take]; rfl)) ?_; (with_reducible refine (billiardlaw04_awake.calls k  true _ A6.out).mono ?_); rintro e w29 ⟨rfl, hb⟩; refine ⟨_, rfl, ?_⟩; have n0_ := Aside0.mk (below_step (by repeat (first | (with_reducible first | exact HB.out | apply below_alloc | apply pw_below_drewN | apply below_drew1) | exact HB.out)) hb); clear HB; have HB := n0_; clear n0_; (try clear hb); (try clear hb2); (try clear hk); (try clear hi)) | (go_at_call 9; (with_reducible refine (billiardref04_In.calls (wrap64 (2 * a0)) true _ A8.out).mono ?_); rintro e w' ⟨rfl, ⟨nd, rfl⟩⟩) | (go_at_call 9; (with_reducible refine (billiardref04_In.calls (wrap64 (2 * a1)) false _ A10.out).mono ?_); rintro e w' ⟨rfl, ⟨nd, rfl⟩⟩))
          go_meet
          case rel => exact ⟨_, (true), (by first | rfl | (simp; done) | (simp [*]; done)), H', ⟨by first | omega | exact Nat.le_refl _⟩, ⟨by repeat (first | (with_reducible first | exact HB.out | apply below_alloc | apply pw_below_drewN | apply below_drew1) | exact HB.out)⟩⟩
      · replace c9 := Bool.eq_false_iff.mpr c9
        subst c9
        have H1 : (billiardlaw04_VecTriangle.j0 k a0 a1 a2 a3 true) = some r := by rw [if_neg (show ¬ (false = true) by decide)] at H; exact H
        clear H
        have H := H1
        clear H1
        have H' := Aside0.mk H
        clear H
        go_wp2_with (first | ((with_reducible refine gate_callee (f := 8) rfl ?_); refine goesL_ (some 9) rfl rfl Try.func8 (by kernel_rfl) rfl #[] rfl (by (try simp only [List.map_toArray, List.map_cons, List.map_nil]); first | done | rfl | (simp only [List.length_drop, List.length_take]; rfl)) ?_; (with_reducible refine (billiardlaw04_awake.calls k  true _ A6.out).mono ?_); rintro e w30 ⟨rfl, hb⟩; refine ⟨_, rfl, ?_⟩; have n0_ := Aside0.mk (below_step (by repeat (first | (with_reducible first | exact HB.out | apply below_alloc | apply pw_below_drewN | apply below_drew1) | exact HB.out)) hb); clear HB; have HB := n0_; clear n0_; (try clear hb); (try clear hb2); (try clear hk); (try clear hi)) | (go_at_call 9; (with_reducible refine (billiardref04_In.calls (wrap64 (2 * a0)) false _ A8.out).mono ?_); rintro e w' ⟨rfl, ⟨nd, rfl⟩⟩))
        go_meet
        case rel => exact ⟨_, (true), (by first | rfl | (simp; done) | (simp [*]; done)), H', ⟨by first | omega | exact Nat.le_refl _⟩, ⟨by repeat (first | (with_reducible first | exact HB.out | apply below_alloc | apply pw_below_drewN | apply below_drew1) | exact HB.out)⟩⟩
    · replace c7 := Bool.eq_false_iff.mpr c7
      subst c7
      have H1 : (billiardlaw04_VecTriangle.j0 k a0 a1 a2 a3 true) = some r := by rw [if_neg (show ¬ (false = true) by decide)] at H; exact H
      clear H
      have H := H1
      clear H1
      have H' := Aside0.mk H
      clear H
      go_wp2_with (first | ((with_reducible refine gate_callee (f := 8) rfl ?_); refine goesL_ (some 9) rfl rfl Try.func8 (by kernel_rfl) rfl #[] rfl (by (try simp only [List.map_toArray, List.map_cons, List.map_nil]); first | done | rfl | (simp only [List.length_drop, List.length_take]; rfl)) ?_; (with_reducible refine (billiardlaw04_awake.calls k  false _ A6.out).mono ?_); rintro e w31 ⟨rfl, hb⟩; refine ⟨_, rfl, ?_⟩; have n0_ := Aside0.mk (below_step (by repeat (first | (with_reducible first | exact HB.out | apply below_alloc | apply pw_below_drewN | apply below_drew1) | exact HB.out)) hb); clear HB; have HB := n0_; clear n0_; (try clear hb); (try clear hb2); (try clear hk); (try clear hi)))
      go_meet
      case rel => exact ⟨_, (true), (by first | rfl | (simp; done) | (simp [*]; done)), H', ⟨by first | omega | exact Nat.le_refl _⟩, ⟨by repeat (first | (with_reducible first | exact HB.out | apply below_alloc | apply pw_below_drewN | apply below_drew1) | exact HB.out)⟩⟩
  case rest =>
    clear HC5
    try clear c1
    try clear c2
    try clear p2
    try clear c6
    try clear p6
    try clear c7
    try clear c8
    try clear c9
    try clear c11
    try clear c13
    try clear c15
    try clear c17
    try clear c19
    try clear c21
    obtain ⟨kq, x54_4, rfl, HA, HJ4, HB⟩ := hcut
    cases kq with
    | zero => exact absurd HA.out (by simp [billiardlaw04_VecTriangle.j0])
    | succ kj4 =>
      have H := HA.out
      clear HA
      simp only [billiardlaw04_VecTriangle.j0] at H
      by_cases c32 : x54_4 = true
      · subst c32
        have H1 : ((billiardlaw04_awake.f kj4).bind fun t173 => (some t173)) = some r := by rw [if_pos rfl] at H; exact H
        clear H
        have H := H1
        clear H1
        replace H := Option.bind_eq_some_iff.mp H
        obtain ⟨t173, A330, H⟩ := H
        replace H : (some t173) = some r := H
        have A33 := Aside0.mk A330
        clear A330
        obtain rfl := Option.some.inj H
        go_wp2_with (first | ((with_reducible refine gate_callee (f := 8) rfl ?_); refine goesL_ (some 55) rfl rfl Try.func8 (by kernel_rfl) rfl #[] rfl (by (try simp only [List.map_toArray, List.map_cons, List.map_nil]); first | done | rfl | (simp only [List.length_drop, List.length_take]; rfl)) ?_; (with_reducible refine (billiardlaw04_awake.calls kj4  t173 _ A33.out).mono ?_); rintro e w34 ⟨rfl, hb⟩; refine ⟨_, rfl, ?_⟩; have n0_ := Aside0.mk (below_step (by repeat (first | (with_reducible first | exact HB.out | apply below_alloc | apply pw_below_drewN | apply below_drew1) | exact HB.out)) hb); clear HB; have HB := n0_; clear n0_; (try clear hb); (try clear hb2); (try clear hk); (try clear hi)))
        go_ret
        exact ⟨by first | rfl | (simp [errW_none, errW_some] <;> rfl) | (simp [*, errW_none, errW_some] <;> rfl), by repeat (first | (with_reducible first | exact HB.out | apply below_alloc | apply pw_below_drewN | apply below_drew1) | exact HB.out)⟩
      · replace c32 := Bool.eq_false_iff.mpr c32
        subst c32
        have H1 : ((vec_Length.f kj4 (wrap64 (a0 + a2)) (wrap64 (a1 + a3))).bind fun t174 => ((vec_Length.f kj4 a0 a1).bind fun t175 => ((vec_Length.f kj4 a2 a3).bind fun t176 => (some (decide (t174 ≤ (wrap64 ((wrap64 (t175 + t176)) + 2)))))))) = some r := by rw [if_neg (show ¬ (false = true) by decide)] at H; exact H
        clear H
        have H := H1
        clear H1
        replace H := Option.bind_eq_some_iff.mp H
        obtain ⟨t174, A350, H⟩ := H
        replace H : ((vec_Length.f kj4 a0 a1).bind fun t175 => ((vec_Length.f kj4 a2 a3).bind fun t176 => (some (decide (t174 ≤ (wrap64 ((wrap64 (t175 + t176)) + 2))))))) = some r := H
        have A35 := Aside0.mk A350
        clear A350
        replace H := Option.bind_eq_some_iff.mp H
        obtain ⟨t175, A360, H⟩ := H
        replace H : ((vec_Length.f kj4 a2 a3).bind fun t176 => (some (decide (t174 ≤ (wrap64 ((wrap64 (t175 + t176)) + 2)))))) = some r := H
        have A36 := Aside0.mk A360
        clear A360
        replace H := Option.bind_eq_some_iff.mp H
        obtain ⟨t176, A370, H⟩ := H
        replace H : (some (decide (t174 ≤ (wrap64 ((wrap64 (t175 + t176)) + 2))))) = some r := H
        have A37 := Aside0.mk A370
        clear A370
        obtain rfl := Option.some.inj H
        go_wp2_with (first | ((with_reducible refine gate_callee (f := 11) rfl ?_); refine goesL_ (some 62) rfl rfl Try.func11 (by kernel_rfl) rfl #[.int .i64 (wrap64 (a0 + a2)), .int .i64 (wrap64 (a1 + a3))] rfl (by (try simp only [List.map_toArray, List.map_cons, List.map_nil]); first | done | rfl | (simp only [List.length_drop, List.length_take]; rfl)) ?_; (with_reducible refine (vec_Length.calls kj4 (wrap64 (a0 + a2)) (wrap64 (a1 + a3)) t174 _ A35.out).mono ?_); rintro e w' ⟨rfl, ⟨nd, rfl⟩⟩; refine ⟨_, rfl, ?_⟩) | ((with_reducible refine gate_callee (f := 11) rfl ?_); refine goesL_ (some 65) rfl rfl Try.func11 (by kernel_rfl) rfl #[.int .i64 a0, .int .i64 a1] rfl (by (try simp only [List.map_toArray, List.map_cons, List.map_nil]); first | done | rfl | (simp only [List.length_drop, List.length_take]; rfl)) ?_; (with_reducible refine (vec_Length.calls kj4 a0 a1 t175 _ A36.out).mono ?_); rintro e w' ⟨rfl, ⟨nd, rfl⟩⟩; refine ⟨_, rfl, ?_⟩) | ((with_reducible refine gate_callee (f := 11) rfl ?_); refine goesL_ (some 68) rfl rfl Try.func11 (by kernel_rfl) rfl #[.int .i64 a2, .int .i64 a3] rfl (by (try simp only [List.map_toArray, List.map_cons, List.map_nil]); first | done | rfl | (simp only [List.length_drop, List.length_take]; rfl)) ?_; (with_reducible refine (vec_Length.calls kj4 a2 a3 t176 _ A37.out).mono ?_); rintro e w' ⟨rfl, ⟨nd, rfl⟩⟩; refine ⟨_, rfl, ?_⟩))
        go_ret
        exact ⟨by first | rfl | (simp [errW_none, errW_some] <;> rfl) | (simp [*, errW_none, errW_some] <;> rfl), by repeat (first | (with_reducible first | exact HB.out | apply below_alloc | apply pw_below_drewN | apply below_drew1) | exact HB.out)⟩

/-- THE ONE PURE STATEMENT of billiardlaw04_VecTriangle: yours. -/
def billiardlaw04_VecTriangle.Pure : Prop := ∀ (a0 : Int) (a1 : Int) (a2 : Int) (a3 : Int), (Lit.int .i64 a0).wf = true → (Lit.int .i64 a1).wf = true → (Lit.int .i64 a2).wf = true → (Lit.int .i64 a3).wf = true → ∃ k, billiardlaw04_VecTriangle.f k a0 a1 a2 a3 = some true
theorem billiardlaw04_VecTriangle.walk (P : billiardlaw04_VecTriangle.Pure) (a0 : Int) (a1 : Int) (a2 : Int) (a3 : Int) (w : World) (w0 : (Lit.int .i64 a0).wf = true) (w1 : (Lit.int .i64 a1).wf = true) (w2 : (Lit.int .i64 a2).wf = true) (w3 : (Lit.int .i64 a3).wf = true) :
    Calls Try.prog 6 #[.int .i64 a0, .int .i64 a1, .int .i64 a2, .int .i64 a3] w fun e w' => e = .returned (.bool true) ∧ Below w.heap.size w w' := by
  obtain ⟨k, h⟩ := P a0 a1 a2 a3 w0 w1 w2 w3
  refine (billiardlaw04_VecTriangle.calls k a0 a1 a2 a3 true w h).mono ?_
  rintro e w' ⟨rfl, hd⟩
  exact ⟨rfl, hd⟩

end Go.Proofs.Ytjgeakahbelgiaa.Q
