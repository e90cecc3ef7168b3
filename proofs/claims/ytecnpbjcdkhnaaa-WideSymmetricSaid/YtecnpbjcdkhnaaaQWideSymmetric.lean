-- PRINTED by print.py (a twelfth state) out of the translation. Not trusted: Lean checks it.
import Derived.Test.YtecnpbjcdkhnaaaQ0
import Derived.Test.YtecnpbjcdkhnaaaQbilliardlaw01
import Derived.Test.YtecnpbjcdkhnaaaQwide
namespace Go.Proofs.Ytecnpbjcdkhnaaa.Q
open Go.RowKit Go.Proofs.YtecnpbjcdkhnaaaW.PrintWords Go.Proofs.YtecnpbjcdkhnaaaW.PrintLast Go.Proofs.YtecnpbjcdkhnaaaW.PrintMore
attribute [local go_sem] max2_int min2_int max_two min_two max_three min_three max_four min_four   -- for this text's walks alone
set_option linter.unusedVariables false
set_option linter.unusedSimpArgs false

/-! ### billiardlaw01_WideSymmetric: function 6 -/
def billiardlaw01_WideSymmetric.j0 : Nat → Int → Int → Int → Int → Bool → Option (Bool)
  | 0, _, _, _, _, _ => none
  | k + 1, x0, x1, x9, x10, x92 => if x92 = true then (some false) else (if x0 = (-9223372036854775808) then (some true) else ((wide_Mul.f (wrap64 (-x0)) x1).bind fun bt170 => (if x10 = 0 then (if bt170.2 = 0 then (some (bt170.1 == (wrap64 (-x9)))) else (some false)) else (if bt170.2 = (IntKind.u64.wrap (-x10)) then (some (bt170.1 == (wrap64 ((wrap64 (-x9)) - 1)))) else (some false)))))
def billiardlaw01_WideSymmetric.f (k : Nat) (a0 : Int) (a1 : Int) (a2 : Int) (a3 : Int) : Option (Bool) := (billiardlaw01_awake.f k).bind fun t157 => (if t157 = true then ((wide_Mul.f a0 a1).bind fun bt158 => ((wide_Mul.f a1 a0).bind fun bt160 => ((wide_MulDiv.f a0 a1 a2).bind fun bt162 => ((wide_MulDiv.f a1 a0 a2).bind fun bt164 => ((wide_MulShift.f k a0 a1 a3).bind fun bt166 => ((wide_MulShift.f k a1 a0 a3).bind fun bt168 => (if bt158.1 = bt160.1 then (if bt158.2 = bt160.2 then (if bt162.1 = bt164.1 then (if bt162.2 = bt164.2 then (if bt166.1 = bt168.1 then (billiardlaw01_WideSymmetric.j0 k a0 a1 bt158.1 bt158.2 (bt166.2 != bt168.2)) else (billiardlaw01_WideSymmetric.j0 k a0 a1 bt158.1 bt158.2 true)) else (billiardlaw01_WideSymmetric.j0 k a0 a1 bt158.1 bt158.2 true)) else (billiardlaw01_WideSymmetric.j0 k a0 a1 bt158.1 bt158.2 true)) else (billiardlaw01_WideSymmetric.j0 k a0 a1 bt158.1 bt158.2 true)) else (billiardlaw01_WideSymmetric.j0 k a0 a1 bt158.1 bt158.2 true)))))))) else (some false))
theorem billiardlaw01_WideSymmetric.mono_l : ∀ k, (∀ y0 y1 y2 y3 y4, LeO (billiardlaw01_WideSymmetric.j0 k y0 y1 y2 y3 y4) (billiardlaw01_WideSymmetric.j0 (k + 1) y0 y1 y2 y3 y4))
  | 0 => fun _ _ _ _ _ r h => by simp [billiardlaw01_WideSymmetric.j0] at h
  | k + 1 => by
    have ih0 := billiardlaw01_WideSymmetric.mono_l k
    · intro y0 y1 y2 y3 y4
      unfold billiardlaw01_WideSymmetric.j0
      repeat' first
      | (with_reducible exact ih0 _ _ _ _ _)
      | (with_reducible exact billiardlaw01_awake.mono _)
      | (with_reducible exact wide_MulShift.mono _ _ _ _)
      | (with_reducible exact LeO.refl _)
      | (with_reducible exact LeO.none _)
      | (with_reducible refine LeO.ite ?_ ?_)
      | (with_reducible refine LeO.bind ?_ (fun _ => ?_))
      | exact ih0 _ _ _ _ _
      | exact billiardlaw01_awake.mono _
      | exact wide_MulShift.mono _ _ _ _
      | exact LeO.none _
      | refine LeO.ite ?_ ?_
      | refine LeO.bind ?_ (fun _ => ?_)
theorem billiardlaw01_WideSymmetric.mono : ∀ a0 a1 a2 a3 k, LeO (billiardlaw01_WideSymmetric.f k a0 a1 a2 a3) (billiardlaw01_WideSymmetric.f (k + 1) a0 a1 a2 a3) := by
  intro a0 a1 a2 a3 k
  have ih0 := billiardlaw01_WideSymmetric.mono_l k
  unfold billiardlaw01_WideSymmetric.f
  repeat' first
      | (with_reducible exact ih0 _ _ _ _ _)
      | (with_reducible exact billiardlaw01_awake.mono _)
      | (with_reducible exact wide_MulShift.mono _ _ _ _)
      | (with_reducible exact LeO.refl _)
      | (with_reducible exact LeO.none _)
      | (with_reducible refine LeO.ite ?_ ?_)
      | (with_reducible refine LeO.bind ?_ (fun _ => ?_))
      | exact ih0 _ _ _ _ _
      | exact billiardlaw01_awake.mono _
      | exact wide_MulShift.mono _ _ _ _
      | exact LeO.none _
      | refine LeO.ite ?_ ?_
      | refine LeO.bind ?_ (fun _ => ?_)
set_option maxHeartbeats 8000000 in
set_option maxRecDepth 100000 in
theorem billiardlaw01_WideSymmetric.calls (k : Nat) (a0 : Int) (a1 : Int) (a2 : Int) (a3 : Int) (r : Bool) (w : World) (h : billiardlaw01_WideSymmetric.f k a0 a1 a2 a3 = some r) :
    Calls Try.prog 6 #[.int .i64 a0, .int .i64 a1, .int .i64 a2, .int .i64 a3] w fun e w' => e = .returned (.bool r) ∧ Below w.heap.size w w' := by
  have HB := Aside0.mk (Below.refl w.heap.size w)
  have H : ((billiardlaw01_awake.f k).bind fun t157 => (if t157 = true then ((wide_Mul.f a0 a1).bind fun bt158 => ((wide_Mul.f a1 a0).bind fun bt160 => ((wide_MulDiv.f a0 a1 a2).bind fun bt162 => ((wide_MulDiv.f a1 a0 a2).bind fun bt164 => ((wide_MulShift.f k a0 a1 a3).bind fun bt166 => ((wide_MulShift.f k a1 a0 a3).bind fun bt168 => (if bt158.1 = bt160.1 then (if bt158.2 = bt160.2 then (if bt162.1 = bt164.1 then (if bt162.2 = bt164.2 then (if bt166.1 = bt168.1 then (billiardlaw01_WideSymmetric.j0 k a0 a1 bt158.1 bt158.2 (bt166.2 != bt168.2)) else (billiardlaw01_WideSymmetric.j0 k a0 a1 bt158.1 bt158.2 true)) else (billiardlaw01_WideSymmetric.j0 k a0 a1 bt158.1 bt158.2 true)) else (billiardlaw01_WideSymmetric.j0 k a0 a1 bt158.1 bt158.2 true)) else (billiardlaw01_WideSymmetric.j0 k a0 a1 bt158.1 bt158.2 true)) else (billiardlaw01_WideSymmetric.j0 k a0 a1 bt158.1 bt158.2 true)))))))) else (some false))) = some r := h
  clear h
  replace H := Option.bind_eq_some_iff.mp H
  obtain ⟨t157, A50, H⟩ := H
  replace H : (if t157 = true then ((wide_Mul.f a0 a1).bind fun bt158 => ((wide_Mul.f a1 a0).bind fun bt160 => ((wide_MulDiv.f a0 a1 a2).bind fun bt162 => ((wide_MulDiv.f a1 a0 a2).bind fun bt164 => ((wide_MulShift.f k a0 a1 a3).bind fun bt166 => ((wide_MulShift.f k a1 a0 a3).bind fun bt168 => (if bt158.1 = bt160.1 then (if bt158.2 = bt160.2 then (if bt162.1 = bt164.1 then (if bt162.2 = bt164.2 then (if bt166.1 = bt168.1 then (billiardlaw01_WideSymmetric.j0 k a0 a1 bt158.1 bt158.2 (bt166.2 != bt168.2)) else (billiardlaw01_WideSymmetric.j0 k a0 a1 bt158.1 bt158.2 true)) else (billiardlaw01_WideSymmetric.j0 k a0 a1 bt158.1 bt158.2 true)) else (billiardlaw01_WideSymmetric.j0 k a0 a1 bt158.1 bt158.2 true)) else (billiardlaw01_WideSymmetric.j0 k a0 a1 bt158.1 bt158.2 true)) else (billiardlaw01_WideSymmetric.j0 k a0 a1 bt158.1 bt158.2 true)))))))) else (some false)) = some r := H
  have A5 := Aside0.mk A50
  clear A50
  by_cases c6 : t157 = true
  · subst c6
    have H1 : ((wide_Mul.f a0 a1).bind fun bt158 => ((wide_Mul.f a1 a0).bind fun bt160 => ((wide_MulDiv.f a0 a1 a2).bind fun bt162 => ((wide_MulDiv.f a1 a0 a2).bind fun bt164 => ((wide_MulShift.f k a0 a1 a3).bind fun bt166 => ((wide_MulShift.f k a1 a0 a3).bind fun bt168 => (if bt158.1 = bt160.1 then (if bt158.2 = bt160.2 then (if bt162.1 = bt164.1 then (if bt162.2 = bt164.2 then (if bt166.1 = bt168.1 then (billiardlaw01_WideSymmetric.j0 k a0 a1 bt158.1 bt158.2 (bt166.2 != bt168.2)) else (billiardlaw01_WideSymmetric.j0 k a0 a1 bt158.1 bt158.2 true)) else (billiardlaw01_WideSymmetric.j0 k a0 a1 bt158.1 bt158.2 true)) else (billiardlaw01_WideSymmetric.j0 k a0 a1 bt158.1 bt158.2 true)) else (billiardlaw01_WideSymmetric.j0 k a0 a1 bt158.1 bt158.2 true)) else (billiardlaw01_WideSymmetric.j0 k a0 a1 bt158.1 bt158.2 true)))))))) = some r := by rw [if_pos rfl] at H; exact H
    clear H
    have H := H1
    clear H1
    replace H := Option.bind_eq_some_iff.mp H
    obtain ⟨⟨t158, t159⟩, A70, H⟩ := H
    replace H : ((wide_Mul.f a1 a0).bind fun bt160 => ((wide_MulDiv.f a0 a1 a2).bind fun bt162 => ((wide_MulDiv.f a1 a0 a2).bind fun bt164 => ((wide_MulShift.f k a0 a1 a3).bind fun bt166 => ((wide_MulShift.f k a1 a0 a3).bind fun bt168 => (if t158 = bt160.1 then (if t159 = bt160.2 then (if bt162.1 = bt164.1 then (if bt162.2 = bt164.2 then (if bt166.1 = bt168.1 then (billiardlaw01_WideSymmetric.j0 k a0 a1 t158 t159 (bt166.2 != bt168.2)) else (billiardlaw01_WideSymmetric.j0 k a0 a1 t158 t159 true)) else (billiardlaw01_WideSymmetric.j0 k a0 a1 t158 t159 true)) else (billiardlaw01_WideSymmetric.j0 k a0 a1 t158 t159 true)) else (billiardlaw01_WideSymmetric.j0 k a0 a1 t158 t159 true)) else (billiardlaw01_WideSymmetric.j0 k a0 a1 t158 t159 true))))))) = some r := H
    have A7 := Aside0.mk A70
    clear A70
    replace H := Option.bind_eq_some_iff.mp H
    obtain ⟨⟨t160, t161⟩, A80, H⟩ := H
    replace H : ((wide_MulDiv.f a0 a1 a2).bind fun bt162 => ((wide_MulDiv.f a1 a0 a2).bind fun bt164 => ((wide_MulShift.f k a0 a1 a3).bind fun bt166 => ((wide_MulShift.f k a1 a0 a3).bind fun bt168 => (if t158 = t160 then (if t159 = t161 then (if bt162.1 = bt164.1 then (if bt162.2 = bt164.2 then (if bt166.1 = bt168.1 then (billiardlaw01_WideSymmetric.j0 k a0 a1 t158 t159 (bt166.2 != bt168.2)) else (billiardlaw01_WideSymmetric.j0 k a0 a1 t158 t159 true)) else (billiardlaw01_WideSymmetric.j0 k a0 a1 t158 t159 true)) else (billiardlaw01_WideSymmetric.j0 k a0 a1 t158 t159 true)) else (billiardlaw01_WideSymmetric.j0 k a0 a1 t158 t159 true)) else (billiardlaw01_WideSymmetric.j0 k a0 a1 t158 t159 true)))))) = some r := H
    have A8 := Aside0.mk A80
    clear A80
    replace H := Option.bind_eq_some_iff.mp H
    obtain ⟨⟨t162, t163⟩, A90, H⟩ := H
    replace H : ((wide_MulDiv.f a1 a0 a2).bind fun bt164 => ((wide_MulShift.f k a0 a1 a3).bind fun bt166 => ((wide_MulShift.f k a1 a0 a3).bind fun bt168 => (if t158 = t160 then (if t159 = t161 then (if t162 = bt164.1 then (if t163 = bt164.2 then (if bt166.1 = bt168.1 then (billiardlaw01_WideSymmetric.j0 k a0 a1 t158 t159 (bt166.2 != bt168.2)) else (billiardlaw01_WideSymmetric.j0 k a0 a1 t158 t159 true)) else (billiardlaw01_WideSymmetric.j0 k a0 a1 t158 t159 true)) else (billiardlaw01_WideSymmetric.j0 k a0 a1 t158 t159 true)) else (billiardlaw01_WideSymmetric.j0 k a0 a1 t158 t159 true)) else (billiardlaw01_WideSymmetric.j0 k a0 a1 t158 t159 true))))) = some r := H
    have A9 := Aside0.mk A90
    clear A90
    replace H := Option.bind_eq_some_iff.mp H
    obtain ⟨⟨t164, t165⟩, A100, H⟩ := H
    replace H : ((wide_MulShift.f k a0 a1 a3).bind fun bt166 => ((wide_MulShift.f k a1 a0 a3).bind fun bt168 => (if t158 = t160 then (if t159 = t161 then (if t162 = t164 then (if t163 = t165 then (if bt166.1 = bt168.1 then (billiardlaw01_WideSymmetric.j0 k a0 a1 t158 t159 (bt166.2 != bt168.2)) else (billiardlaw01_WideSymmetric.j0 k a0 a1 t158 t159 true)) else (billiardlaw01_WideSymmetric.j0 k a0 a1 t158 t159 true)) else (billiardlaw01_WideSymmetric.j0 k a0 a1 t158 t159 true)) else (billiardlaw01_WideSymmetric.j0 k a0 a1 t158 t159 true)) else (billiardlaw01_WideSymmetric.j0 k a0 a1 t158 t159 true)))) = some r := H
    have A10 := Aside0.mk A100
    clear A100
    replace H := Option.bind_eq_some_iff.mp H
    obtain ⟨⟨t166, t167⟩, A110, H⟩ := H
    replace H : ((wide_MulShift.f k a1 a0 a3).bind fun bt168 => (if t158 = t160 then (if t159 = t161 then (if t162 = t164 then (if t163 = t165 then (if t166 = bt168.1 then (billiardlaw01_WideSymmetric.j0 k a0 a1 t158 t159 (t167 != bt168.2)) else (billiardlaw01_WideSymmetric.j0 k a0 a1 t158 t159 true)) else (billiardlaw01_WideSymmetric.j0 k a0 a1 t158 t159 true)) else (billiardlaw01_WideSymmetric.j0 k a0 a1 t158 t159 true)) else (billiardlaw01_WideSymmetric.j0 k a0 a1 t158 t159 true)) else (billiardlaw01_WideSymmetric.j0 k a0 a1 t158 t159 true))) = some r := H
    have A11 := Aside0.mk A110
    clear A110
    replace H := Option.bind_eq_some_iff.mp H
    obtain ⟨⟨t168, t169⟩, A120, H⟩ := H
    replace H : (if t158 = t160 then (if t159 = t161 then (if t162 = t164 then (if t163 = t165 then (if t166 = t168 then (billiardlaw01_WideSymmetric.j0 k a0 a1 t158 t159 (t167 != t169)) else (billiardlaw01_WideSymmetric.j0 k a0 a1 t158 t159 true)) else (billiardlaw01_WideSymmetric.j0 k a0 a1 t158 t159 true)) else (billiardlaw01_WideSymmetric.j0 k a0 a1 t158 t159 true)) else (billiardlaw01_WideSymmetric.j0 k a0 a1 t158 t159 true)) else (billiardlaw01_WideSymmetric.j0 k a0 a1 t158 t159 true)) = some r := H
    have A12 := Aside0.mk A120
    clear A120
    have HC13 := Aside0.mk H
    clear H
    go_enter Try.func6, Try.ntmps6
    go_upto_region 9 with (first | ((with_reducible refine gate_callee (f := 8) rfl ?_); refine goesL_ (some 23) rfl rfl Try.func8 (by kernel_rfl) rfl #[] rfl (by (try simp only [List.map_toArray, List.map_cons, List.map_nil]); first | done | rfl | (simp only [List.length_drop, List.length_take]; rfl)) ?_; (with_reducible refine (billiardlaw01_awake.calls k  true _ A5.out).mono ?_); rintro e w14 ⟨rfl, hb⟩; refine ⟨_, rfl, ?_⟩; have n0_ := Aside0.mk (below_step (by repeat (first | (with_reducible first | exact HB.out | apply below_alloc | apply pw_below_drewN | apply below_drew1) | exact HB.out)) hb); clear HB; have HB := n0_; clear n0_; (try clear hb); (try clear hb2); (try clear hk); (try clear hi)) | ((with_reducible refine gate_callee (f := 9) rfl ?_); refine goesL_ (some 28) rfl rfl Try.func9 (by kernel_rfl) rfl #[.int .i64 a0, .int .i64 a1] rfl (by (try simp only [List.map_toArray, List.map_cons, List.map_nil]); first | done | rfl | (simp only [List.length_drop, List.length_take]; rfl)) ?_; (with_reducible refine (wide_Mul.calls a0 a1 t158 t159 _ A7.out).mono ?_); rintro e w' ⟨rfl, ⟨nd, rfl⟩⟩; refine ⟨_, rfl, ?_⟩) | ((with_reducible refine gate_callee (f := 9) rfl ?_); refine goesL_ (some 34) rfl rfl Try.func9 (by kernel_rfl) rfl #[.int .i64 a1, .int .i64 a0] rfl (by (try simp only [List.map_toArray, List.map_cons, List.map_nil]); first | done | rfl | (simp only [List.length_drop, List.length_take]; rfl)) ?_; (with_reducible refine (wide_Mul.calls a1 a0 t160 t161 _ A8.out).mono ?_); rintro e w' ⟨rfl, ⟨nd, rfl⟩⟩; refine ⟨_, rfl, ?_⟩) | ((with_reducible refine gate_callee (f := 11) rfl ?_); refine goesL_ (some 41) rfl rfl Try.func11 (by kernel_rfl) rfl #[.int .i64 a0, .int .i64 a1, .int .i64 a2] rfl (by (try simp only [List.map_toArray, List.map_cons, List.map_nil]); first | done | rfl | (simp only [List.length_drop, List.length_take]; rfl)) ?_; (with_reducible refine (wide_MulDiv.calls a0 a1 a2 t162 t163 _ A9.out).mono ?_); rintro e w15 ⟨rfl, hb⟩; refine ⟨_, rfl, ?_⟩; have n0_ := Aside0.mk (below_step (by repeat (first | (with_reducible first | exact HB.out | apply below_alloc | apply pw_below_drewN | apply below_drew1) | exact HB.out)) hb); clear HB; have HB := n0_; clear n0_; (try clear hb); (try clear hb2); (try clear hk); (try clear hi)) | ((with_reducible refine gate_callee (f := 11) rfl ?_); refine goesL_ (some 48) rfl rfl Try.func11 (by kernel_rfl) rfl #[.int .i64 a1, .int .i64 a0, .int .i64 a2] rfl (by (try simp only [List.map_toArray, List.map_cons, List.map_nil]); first | done | rfl | (simp only [List.length_drop, List.length_take]; rfl)) ?_; (with_reducible refine (wide_MulDiv.calls a1 a0 a2 t164 t165 _ A10.out).mono ?_); rintro e w16 ⟨rfl, hb⟩; refine ⟨_, rfl, ?_⟩; have n0_ := Aside0.mk (below_step (by repeat (first | (with_reducible first | exact HB.out | apply below_alloc | apply pw_below_drewN | apply below_drew1) | exact HB.out)) hb); clear HB; have HB := n0_; clear n0_; (try clear hb); (try clear hb2); (try clear hk); (try clear hi)) | ((with_reducible refine gate_callee (f := 13) rfl ?_); refine goesL_ (some 55) rfl rfl Try.func13 (by kernel_rfl) rfl #[.int .i64 a0, .int .i64 a1, .int .i64 a3] rfl (by (try simp only [List.map_toArray, List.map_cons, List.map_nil]); first | done | rfl | (simp only [List.length_drop, List.length_take]; rfl)) ?_; (with_reducible refine (wide_MulShift.calls k a0 a1 a3 t166 t167 _ A11.out).mono ?_); rintro e w' ⟨rfl, ⟨nd, rfl⟩⟩; refine ⟨_, rfl, ?_⟩) | ((with_reducible refine gate_callee (f := 13) rfl ?_); refine goesL_ (some 62) rfl rfl Try.func13 (by kernel_rfl) rfl #[.int .i64 a1, .int .i64 a0, .int .i64 a3] rfl (by (try simp only [List.map_toArray, List.map_cons, List.map_nil]); first | done | rfl | (simp only [List.length_drop, List.length_take]; rfl)) ?_; (with_reducible refine (wide_MulShift.calls k a1 a0 a3 t168 t169 _ A12.out).mono ?_); rintro e w' ⟨rfl, ⟨nd, rfl⟩⟩; refine ⟨_, rfl, ?_⟩))
    (try simp only [Act.put, List.setIfInBounds_toArray, List.set_cons_zero, List.set_cons_succ])
    go_cut [92] (fun v92 wc => ∃ (kq : Nat) (x92_12 : Bool), v92 = .bool x92_12 ∧ Aside0 (billiardlaw01_WideSymmetric.j0 kq a0 a1 t158 t159 x92_12 = some r) ∧ Aside0 (kq ≤ k) ∧ Aside0 (Below w.heap.size w wc))
    case first =>
      have H := HC13.out
      clear HC13
      by_cases c17 : t158 = t160
      · rw [if_pos c17] at H
        have c17b0 : (t158 == t160) = true := beq_iff_eq.mpr c17
        have c17b1 : (t158 != t160) = false := bne_eq_false_iff_eq.mpr c17
        clear c17
        (first | rw [c17b0] | (simp only [i64_w, i32_w]; rw [c17b0]) | skip)
        by_cases c18 : t159 = t161
        · rw [if_pos c18] at H
          have c18b0 : (t159 == t161) = true := beq_iff_eq.mpr c18
          have c18b1 : (t159 != t161) = false := bne_eq_false_iff_eq.mpr c18
          clear c18
          by_cases c19 : t162 = t164
          · rw [if_pos c19] at H
            have c19b0 : (t162 == t164) = true := beq_iff_eq.mpr c19
            have c19b1 : (t162 != t164) = false := bne_eq_false_iff_eq.mpr c19
            clear c19
            by_cases c20 : t163 = t165
            · rw [if_pos c20] at H
              have c20b0 : (t163 == t165) = true := beq_iff_eq.mpr c20
              have c20b1 : (t163 != t165) = false := bne_eq_false_iff_eq.mpr c20
              clear c20
              by_cases c21 : t166 = t168
              · rw [if_pos c21] at H
                have c21b0 : (t166 == t168) = true := beq_iff_eq.mpr c21
                have c21b1 : (t166 != t168) = false := bne_eq_false_iff_eq.mpr c21
                clear c21
                have H' := Aside0.mk H
                clear H
                go_wp2
                go_meet
                case rel => exact ⟨_, ((t167 != t169)), (by first | rfl | (simp; done) | (simp [*]; done)), H', ⟨by first | omega | exact Nat.le_refl _⟩, ⟨by repeat (first | (with_reducible first | exact HB.out | apply below_alloc | apply pw_below_drewN | apply below_drew1) | exact HB.out)⟩⟩
              · rw [if_neg c21] at H
                have c21b0 : (t166 == t168) = false := beq_eq_false_iff_ne.mpr c21
                have c21b1 : (t166 != t168) = true := bne_iff_ne.mpr c21
                have H' := Aside0.mk H
                clear H
                go_wp2
                go_meet
                case rel => exact ⟨_, (true), (by first | rfl | (simp; done) | (simp [*]; done)), H', ⟨by first | omega | exact Nat.le_refl _⟩, ⟨by repeat (first | (with_reducible first | exact HB.out | apply below_alloc | apply pw_below_drewN | apply below_drew1) | exact HB.out)⟩⟩
            · rw [if_neg c20] at H
              have c20b0 : (t163 == t165) = false := beq_eq_false_iff_ne.mpr c20
              have c20b1 : (t163 != t165) = true := bne_iff_ne.mpr c20
              have H' := Aside0.mk H
              clear H
              go_wp2
              go_meet
              case rel => exact ⟨_, (true), (by first | rfl | (simp; done) | (simp [*]; done)), H', ⟨by first | omega | exact Nat.le_refl _⟩, ⟨by repeat (first | (with_reducible first | exact HB.out | apply below_alloc | apply pw_below_drewN | apply below_drew1) | exact HB.out)⟩⟩
          · rw [if_neg c19] at H
            have c19b0 : (t162 == t164) = false := beq_eq_false_iff_ne.mpr c19
            have c19b1 : (t162 != t164) = true := bne_iff_ne.mpr c19
            have H' := Aside0.mk H
            clear H
            go_wp2
            go_meet
            case rel => exact ⟨_, (true), (by first | rfl | (simp; done) | (simp [*]; done)), H', ⟨by first | omega | exact Nat.le_refl _⟩, ⟨by repeat (first | (with_reducible first | exact HB.out | apply below_alloc | apply pw_below_drewN | apply below_drew1) | exact HB.out)⟩⟩
        · rw [if_neg c18] at H
          have c18b0 : (t159 == t161) = false := beq_eq_false_iff_ne.mpr c18
          have c18b1 : (t159 != t161) = true := bne_iff_ne.mpr c18
          have H' := Aside0.mk H
          clear H
          go_wp2
          go_meet
          case rel => exact ⟨_, (true), (by first | rfl | (simp; done) | (simp [*]; done)), H', ⟨by first | omega | exact Nat.le_refl _⟩, ⟨by repeat (first | (with_reducible first | exact HB.out | apply below_alloc | apply pw_below_drewN | apply below_drew1) | exact HB.out)⟩⟩
      · rw [if_neg c17] at H
        have c17b0 : (t158 == t160) = false := beq_eq_false_iff_ne.mpr c17
        have c17b1 : (t158 != t160) = true := bne_iff_ne.mpr c17
        (first | rw [c17b0] | (simp only [i64_w, i32_w]; rw [c17b0]) | skip)
        have H' := Aside0.mk H
        clear H
        go_wp2
        go_meet
        case rel => exact ⟨_, (true), (by first | rfl | (simp; done) | (simp [*]; done)), H', ⟨by first | omega | exact Nat.le_refl _⟩, ⟨by repeat (first | (with_reducible first | exact HB.out | apply below_alloc | apply pw_below_drewN | apply below_drew1) | exact HB.out)⟩⟩
    case rest =>
      clear HC13
      try clear c1
      try clear c2
      try clear p2
      try clear c6
      try clear c8
      try clear c9
      try clear c11
      try clear c13
      try clear c17
      try clear c17b0
      try clear c17b1
      try clear c18
      try clear c18b0
      try clear c18b1
      try clear c19
      try clear c19b0
      try clear c19b1
      try clear c20
      try clear c20b0
      try clear c20b1
      try clear c21
      try clear c21b0
      try clear c21b1
      obtain ⟨kq, x92_12, rfl, HA, HJ12, HB⟩ := hcut
      cases kq with
      | zero => exact absurd HA.out (by simp [billiardlaw01_WideSymmetric.j0])
      | succ kj12 =>
        have H := HA.out
        clear HA
        simp only [billiardlaw01_WideSymmetric.j0] at H
        by_cases c22 : x92_12 = true
        · subst c22
          have H1 : (some false) = some r := by rw [if_pos rfl] at H; exact H
          clear H
          have H := H1
          clear H1
          obtain rfl := Option.some.inj H
          go_wp2
          go_ret
          exact ⟨by first | rfl | (simp [errW_none, errW_some] <;> rfl) | (simp [*, errW_none, errW_some] <;> rfl), by repeat (first | (with_reducible first | exact HB.out | apply below_alloc | apply pw_below_drewN | apply below_drew1) | exact HB.out)⟩
        · replace c22 := Bool.eq_false_iff.mpr c22
          subst c22
          have H1 : (if a0 = (-9223372036854775808) then (some true) else ((wide_Mul.f (wrap64 (-a0)) a1).bind fun bt170 => (if t159 = 0 then (if bt170.2 = 0 then (some (bt170.1 == (wrap64 (-t158)))) else (some false)) else (if bt170.2 = (IntKind.u64.wrap (-t159)) then (some (bt170.1 == (wrap64 ((wrap64 (-t158)) - 1)))) else (some false))))) = some r := by rw [if_neg (show ¬ (false = true) by decide)] at H; exact H
          clear H
          have H := H1
          clear H1
          by_cases c23 : a0 = (-9223372036854775808)
          · rw [if_pos c23] at H
            have c23b0 : (a0 == (-9223372036854775808)) = true := beq_iff_eq.mpr c23
            have c23b1 : (a0 != (-9223372036854775808)) = false := bne_eq_false_iff_eq.mpr c23
            clear c23
            obtain rfl := Option.some.inj H
            go_wp2
            go_ret
            exact ⟨by first | rfl | (simp [errW_none, errW_some] <;> rfl) | (simp [*, errW_none, errW_some] <;> rfl), by repeat (first | (with_reducible first | exact HB.out | apply below_alloc | apply pw_below_drewN | apply below_drew1) | exact HB.out)⟩
          · rw [if_neg c23] at H
            have c23b0 : (a0 == (-9223372036854775808)) = false := beq_eq_false_iff_ne.mpr c23
            have c23b1 : (a0 != (-9223372036854775808)) = true := bne_iff_ne.mpr c23
            replace H := Option.bind_eq_some_iff.mp H
            obtain ⟨⟨t170, t171⟩, A240, H⟩ := H
            replace H : (if t159 = 0 then (if t171 = 0 then (some (t170 == (wrap64 (-t158)))) else (some false)) else (if t171 = (IntKind.u64.wrap (-t159)) then (some (t170 == (wrap64 ((wrap64 (-t158)) - 1)))) else (some false))) = some r := H
            have A24 := Aside0.mk A240
            clear A240
            by_cases c25 : t159 = 0
            · rw [if_pos c25] at H
              have c25b0 : (t159 == 0) = true := beq_iff_eq.mpr c25
              have c25b1 : (t159 != 0) = false := bne_eq_false_iff_eq.mpr c25
              clear c25
              by_cases c26 : t171 = 0
              · rw [if_pos c26] at H
                have c26b0 : (t171 == 0) = true := beq_iff_eq.mpr c26
                have c26b1 : (t171 != 0) = false := bne_eq_false_iff_eq.mpr c26
                clear c26
                obtain rfl := Option.some.inj H
                go_wp2_with (first | ((with_reducible refine gate_callee (f := 9) rfl ?_); refine goesL_ (some 99) rfl rfl Try.func9 (by kernel_rfl) rfl #[.int .i64 (wrap64 (-a0)), .int .i64 a1] rfl (by (try simp only [List.map_toArray, List.map_cons, List.map_nil]); first | done | rfl | (simp only [List.length_drop, List.length_take]; rfl)) ?_; (with_reducible refine (wide_Mul.calls (wrap64 (-a0)) a1 t170 t171 _ A24.out).mono ?_); rintro e w' ⟨rfl, ⟨nd, rfl⟩⟩; refine ⟨_, rfl, ?_⟩))
                go_ret
                exact ⟨by first | rfl | (simp [errW_none, errW_some] <;> rfl) | (simp [*, errW_none, errW_some] <;> rfl), by repeat (first | (with_reducible first | exact HB.out | apply below_alloc | apply pw_below_drewN | apply below_drew1) | exact HB.out)⟩
              · rw [if_neg c26] at H
                have c26b0 : (t171 == 0) = false := beq_eq_false_iff_ne.mpr c26
                have c26b1 : (t171 != 0) = true := bne_iff_ne.mpr c26
                obtain rfl := Option.some.inj H
                go_wp2_with (first | ((with_reducible refine gate_callee (f := 9) rfl ?_); refine goesL_ (some 99) rfl rfl Try.func9 (by kernel_rfl) rfl #[.int .i64 (wrap64 (-a0)), .int .i64 a1] rfl (by (try simp only [List.map_toArray, List.map_cons, List.map_nil]); first | done | rfl | (simp only [List.length_drop, List.length_take]; rfl)) ?_; (with_reducible refine (wide_Mul.calls (wrap64 (-a0)) a1 t170 t171 _ A24.out).mono ?_); rintro e w' ⟨rfl, ⟨nd, rfl⟩⟩; refine ⟨_, rfl, ?_⟩))
                go_ret
                exact ⟨by first | rfl | (simp [errW_none, errW_some] <;> rfl) | (simp [*, errW_none, errW_some] <;> rfl), by repeat (first | (with_reducible first | exact HB.out | apply below_alloc | apply pw_below_drewN | apply below_drew1) | exact HB.out)⟩
            · rw [if_neg c25] at H
              have c25b0 : (t159 == 0) = false := beq_eq_false_iff_ne.mpr c25
              have c25b1 : (t159 != 0) = true := bne_iff_ne.mpr c25
              by_cases c27 : t171 = (IntKind.u64.wrap (-t159))
              · rw [if_pos c27] at H
                have c27b0 : (t171 == (IntKind.u64.wrap (-t159))) = true := beq_iff_eq.mpr c27
                have c27b1 : (t171 != (IntKind.u64.wrap (-t159))) = false := bne_eq_false_iff_eq.mpr c27
                clear c27
                obtain rfl := Option.some.inj H
                go_wp2_with (first | ((with_reducible refine gate_callee (f := 9) rfl ?_); refine goesL_ (some 99) rfl rfl Try.func9 (by kernel_rfl) rfl #[.int .i64 (wrap64 (-a0)), .int .i64 a1] rfl (by (try simp only [List.map_toArray, List.map_cons, List.map_nil]); first | done | rfl | (simp only [List.length_drop, List.length_take]; rfl)) ?_; (with_reducible refine (wide_Mul.calls (wrap64 (-a0)) a1 t170 t171 _ A24.out).mono ?_); rintro e w' ⟨rfl, ⟨nd, rfl⟩⟩; refine ⟨_, rfl, ?_⟩))
                go_ret
                exact ⟨by first | rfl | (simp [errW_none, errW_some] <;> rfl) | (simp [*, errW_none, errW_some] <;> rfl), by repeat (first | (with_reducible first | exact HB.out | apply below_alloc | apply pw_below_drewN | apply below_drew1) | exact HB.out)⟩
              · rw [if_neg c27] at H
                have c27b0 : (t171 == (IntKind.u64.wrap (-t159))) = false := beq_eq_false_iff_ne.mpr c27
                have c27b1 : (t171 != (IntKind.u64.wrap (-t159))) = true := bne_iff_ne.mpr c27
                obtain rfl := Option.some.inj H
                go_wp2_with (first | ((with_reducible refine gate_callee (f := 9) rfl ?_); refine goesL_ (some 99) rfl rfl Try.func9 (by kernel_rfl) rfl #[.int .i64 (wrap64 (-a0)), .int .i64 a1] rfl (by (try simp only [List.map_toArray, List.map_cons, List.map_nil]); first | done | rfl | (simp only [List.length_drop, List.length_take]; rfl)) ?_; (with_reducible refine (wide_Mul.calls (wrap64 (-a0)) a1 t170 t171 _ A24.out).mono ?_); rintro e w' ⟨rfl, ⟨nd, rfl⟩⟩; refine ⟨_, rfl, ?_⟩))
                go_ret
                exact ⟨by first | rfl | (simp [errW_none, errW_some] <;> rfl) | (simp [*, errW_none, errW_some] <;> rfl), by repeat (first | (with_reducible first | exact HB.out | apply below_alloc | apply pw_below_drewN | apply below_drew1) | exact HB.out)⟩
  · replace c6 := Bool.eq_false_iff.mpr c6
    subst c6
    have H1 : (some false) = some r := by rw [if_neg (show ¬ (false = true) by decide)] at H; exact H
    clear H
    have H := H1
    clear H1
    obtain rfl := Option.some.inj H
    go_enter Try.func6, Try.ntmps6
    go_wp2_with (first | ((with_reducible refine gate_callee (f := 8) rfl ?_); refine goesL_ (some 23) rfl rfl Try.func8 (by kernel_rfl) rfl #[] rfl (by (try simp only [List.map_toArray, List.map_cons, List.map_nil]); first | done | rfl | (simp only [List.length_drop, List.length_take]; rfl)) ?_; (with_reducible refine (billiardlaw01_awake.calls k  false _ A5.out).mono ?_); rintro e w28 ⟨rfl, hb⟩; refine ⟨_, rfl, ?_⟩; have n0_ := Aside0.mk (below_step (by repeat (first | (with_reducible first | exact HB.out | apply below_alloc | apply pw_below_drewN | apply below_drew1) | exact HB.out)) hb); clear HB; have HB := n0_; clear n0_; (try clear hb); (try clear hb2); (try clear hk); (try clear hi)))
    go_ret
    exact ⟨by first | rfl | (simp [errW_none, errW_some] <;> rfl) | (simp [*, errW_none, errW_some] <;> rfl), by repeat (first | (with_reducible first | exact HB.out | apply below_alloc | apply pw_below_drewN | apply below_drew1) | exact HB.out)⟩

/-- THE ONE PURE STATEMENT of billiardlaw01_WideSymmetric: yours. -/
def billiardlaw01_WideSymmetric.Pure : Prop := ∀ (a0 : Int) (a1 : Int) (a2 : Int) (a3 : Int), (Lit.int .i64 a0).wf = true → (Lit.int .i64 a1).wf = true → (Lit.int .i64 a2).wf = true → (Lit.int .i64 a3).wf = true → ∃ k, billiardlaw01_WideSymmetric.f k a0 a1 a2 a3 = some true
theorem billiardlaw01_WideSymmetric.walk (P : billiardlaw01_WideSymmetric.Pure) (a0 : Int) (a1 : Int) (a2 : Int) (a3 : Int) (w : World) (w0 : (Lit.int .i64 a0).wf = true) (w1 : (Lit.int .i64 a1).wf = true) (w2 : (Lit.int .i64 a2).wf = true) (w3 : (Lit.int .i64 a3).wf = true) :
    Calls Try.prog 6 #[.int .i64 a0, .int .i64 a1, .int .i64 a2, .int .i64 a3] w fun e w' => e = .returned (.bool true) ∧ Below w.heap.size w w' := by
  obtain ⟨k, h⟩ := P a0 a1 a2 a3 w0 w1 w2 w3
  refine (billiardlaw01_WideSymmetric.calls k a0 a1 a2 a3 true w h).mono ?_
  rintro e w' ⟨rfl, hd⟩
  exact ⟨rfl, hd⟩

end Go.Proofs.Ytecnpbjcdkhnaaa.Q
