-- PRINTED by print.py (a twelfth state) out of the translation. Not trusted: Lean checks it.
import Derived.Test.YtihgddcaljaojaaQ0
import Derived.Test.YtihgddcaljaojaaQbilliardlaw16
import Derived.Test.YtihgddcaljaojaaQbilliardref05
import Derived.Test.YtihgddcaljaojaaQimpulse
namespace Go.Proofs.Ytihgddcaljaojaa.Q
open Go.RowKit Go.Proofs.YtihgddcaljaojaaW.PrintWords Go.Proofs.YtihgddcaljaojaaW.PrintLast Go.Proofs.YtihgddcaljaojaaW.PrintMore
attribute [local go_sem] max2_int min2_int max_two min_two max_three min_three max_four min_four   -- for this text's walks alone
set_option linter.unusedVariables false
set_option linter.unusedSimpArgs false

/-! ### billiardlaw16_ImpulseScales: function 5 -/
def billiardlaw16_ImpulseScales.j0 : Nat → Int → Int → Int → Bool → Int → Int → Option (Bool)
  | 0, _, _, _, _, _, _ => none
  | k + 1, x1, x2, x3, x49, x188000, x188001 => if x49 = true then ((billiardlaw16_awake.f k).bind fun t191 => (some t191)) else ((impulse_Change.f x1 x3 x188000 x188001).bind fun bt192 => ((impulse_Change.f x2 x3 x188000 x188001).bind fun bt194 => ((impulse_Change.f 0 x3 x188000 x188001).bind fun bt196 => (if bt196.1 = 0 then (if bt196.2 = 0 then (if x188000 ≥ 0 then (if bt192.1 < 0 then (some false) else (if bt194.1 < bt192.1 then (some false) else (if x188000 < 0 then (if bt192.1 > 0 then (some false) else (if bt194.1 > bt192.1 then (some false) else (if x188001 < 0 then (if x188001 ≥ 0 then (some true) else (if bt192.2 ≤ 0 then (some (decide (bt194.2 ≤ bt192.2))) else (some false))) else (if bt192.2 ≥ 0 then (if bt194.2 ≥ bt192.2 then (if x188001 ≥ 0 then (some true) else (if bt192.2 ≤ 0 then (some (decide (bt194.2 ≤ bt192.2))) else (some false))) else (some false)) else (some false))))) else (if x188001 < 0 then (if x188001 ≥ 0 then (some true) else (if bt192.2 ≤ 0 then (some (decide (bt194.2 ≤ bt192.2))) else (some false))) else (if bt192.2 ≥ 0 then (if bt194.2 ≥ bt192.2 then (if x188001 ≥ 0 then (some true) else (if bt192.2 ≤ 0 then (some (decide (bt194.2 ≤ bt192.2))) else (some false))) else (some false)) else (some false)))))) else (if x188000 < 0 then (if bt192.1 > 0 then (some false) else (if bt194.1 > bt192.1 then (some false) else (if x188001 < 0 then (if x188001 ≥ 0 then (some true) else (if bt192.2 ≤ 0 then (some (decide (bt194.2 ≤ bt192.2))) else (some false))) else (if bt192.2 ≥ 0 then (if bt194.2 ≥ bt192.2 then (if x188001 ≥ 0 then (some true) else (if bt192.2 ≤ 0 then (some (decide (bt194.2 ≤ bt192.2))) else (some false))) else (some false)) else (some false))))) else (if x188001 < 0 then (if x188001 ≥ 0 then (some true) else (if bt192.2 ≤ 0 then (some (decide (bt194.2 ≤ bt192.2))) else (some false))) else (if bt192.2 ≥ 0 then (if bt194.2 ≥ bt192.2 then (if x188001 ≥ 0 then (some true) else (if bt192.2 ≤ 0 then (some (decide (bt194.2 ≤ bt192.2))) else (some false))) else (some false)) else (some false))))) else (some false)) else (some false)))))
def billiardlaw16_ImpulseScales.f (k : Nat) (a0_0 : Int) (a0_1 : Int) (a1 : Int) (a2 : Int) (a3 : Int) : Option (Bool) := (billiardlaw16_awake.f k).bind fun t188 => (if t188 = true then ((billiardref05_In.f a0_0 65536).bind fun t189 => (if t189 = true then ((billiardref05_In.f a0_1 65536).bind fun t190 => (if t190 = true then (if a1 < 0 then (billiardlaw16_ImpulseScales.j0 k a1 a2 a3 true a0_0 a0_1) else (if a2 < a1 then (billiardlaw16_ImpulseScales.j0 k a1 a2 a3 true a0_0 a0_1) else (if a2 > 8796093022208 then (billiardlaw16_ImpulseScales.j0 k a1 a2 a3 true a0_0 a0_1) else (if a3 < 0 then (billiardlaw16_ImpulseScales.j0 k a1 a2 a3 true a0_0 a0_1) else (billiardlaw16_ImpulseScales.j0 k a1 a2 a3 (decide (a3 > 1048576)) a0_0 a0_1))))) else (billiardlaw16_ImpulseScales.j0 k a1 a2 a3 true a0_0 a0_1))) else (billiardlaw16_ImpulseScales.j0 k a1 a2 a3 true a0_0 a0_1))) else (billiardlaw16_ImpulseScales.j0 k a1 a2 a3 true a0_0 a0_1))
theorem billiardlaw16_ImpulseScales.mono_l : ∀ k, (∀ y0 y1 y2 y3 y4 y5, LeO (billiardlaw16_ImpulseScales.j0 k y0 y1 y2 y3 y4 y5) (billiardlaw16_ImpulseScales.j0 (k + 1) y0 y1 y2 y3 y4 y5))
  | 0 => fun _ _ _ _ _ _ r h => by simp [billiardlaw16_ImpulseScales.j0] at h
  | k + 1 => by
    have ih0 := billiardlaw16_ImpulseScales.mono_l k
    · intro y0 y1 y2 y3 y4 y5
      unfold billiardlaw16_ImpulseScales.j0
      repeat' first
      | (with_reducible exact ih0 _ _ _ _ _ _)
      | (with_reducible exact billiardlaw16_awake.mono _)
      | (with_reducible exact LeO.refl _)
      | (with_reducible exact LeO.none _)
      | (with_reducible refine LeO.ite ?_ ?_)
      | (with_reducible refine LeO.bind ?_ (fun _ => ?_))
      | exact ih0 _ _ _ _ _ _
      | exact billiardlaw16_awake.mono _
      | exact LeO.none _
      | refine LeO.ite ?_ ?_
      | refine LeO.bind ?_ (fun _ => ?_)
theorem billiardlaw16_ImpulseScales.mono : ∀ a0 a1 a2 a3 a4 k, LeO (billiardlaw16_ImpulseScales.f k a0 a1 a2 a3 a4) (billiardlaw16_ImpulseScales.f (k + 1) a0 a1 a2 a3 a4) := by
  intro a0 a1 a2 a3 a4 k
  have ih0 := billiardlaw16_ImpulseScales.mono_l k
  unfold billiardlaw16_ImpulseScales.f
  repeat' first
      | (with_reducible exact ih0 _ _ _ _ _ _)
      | (with_reducible exact billiardlaw16_awake.mono _)
      | (with_reducible exact LeO.refl _)
      | (with_reducible exact LeO.none _)
      | (with_reducible refine LeO.ite ?_ ?_)
      | (with_reducible refine LeO.bind ?_ (fun _ => ?_))
      | exact ih0 _ _ _ _ _ _
      | exact billiardlaw16_awake.mono _
      | exact LeO.none _
      | refine LeO.ite ?_ ?_
      | refine LeO.bind ?_ (fun _ => ?_)
set_option maxHeartbeats 8000000 in
set_option maxRecDepth 100000 in
theorem billiardlaw16_ImpulseScales.calls (k : Nat) (a0_0 : Int) (a0_1 : Int) (a1 : Int) (a2 : Int) (a3 : Int) (r : Bool) (w : World) (h : billiardlaw16_ImpulseScales.f k a0_0 a0_1 a1 a2 a3 = some r) (hr : r = true) :
    Calls Try.prog 5 #[.agg #[.int .i32 a0_0, .int .i32 a0_1], .int .i64 a1, .int .i64 a2, .int .i32 a3] w fun e w' => e = .returned (.bool r) ∧ Below w.heap.size w w' := by
  have HR := Aside0.mk hr
  clear hr
  have hu26 := Try.underlying26
  have HB := Aside0.mk (Below.refl w.heap.size w)
  have H : ((billiardlaw16_awake.f k).bind fun t188 => (if t188 = true then ((billiardref05_In.f a0_0 65536).bind fun t189 => (if t189 = true then ((billiardref05_In.f a0_1 65536).bind fun t190 => (if t190 = true then (if a1 < 0 then (billiardlaw16_ImpulseScales.j0 k a1 a2 a3 true a0_0 a0_1) else (if a2 < a1 then (billiardlaw16_ImpulseScales.j0 k a1 a2 a3 true a0_0 a0_1) else (if a2 > 8796093022208 then (billiardlaw16_ImpulseScales.j0 k a1 a2 a3 true a0_0 a0_1) else (if a3 < 0 then (billiardlaw16_ImpulseScales.j0 k a1 a2 a3 true a0_0 a0_1) else (billiardlaw16_ImpulseScales.j0 k a1 a2 a3 (decide (a3 > 1048576)) a0_0 a0_1))))) else (billiardlaw16_ImpulseScales.j0 k a1 a2 a3 true a0_0 a0_1))) else (billiardlaw16_ImpulseScales.j0 k a1 a2 a3 true a0_0 a0_1))) else (billiardlaw16_ImpulseScales.j0 k a1 a2 a3 true a0_0 a0_1))) = some r := h
  clear h
  have HC5 := Aside0.mk H
  clear H
  go_enter Try.func5, Try.ntmps5
  go_upto_region 1 with (first | ((with_reducible refine gate_dst (N := 4) rfl ?_); refine box_event ?hg (N := 4) ?hd (cs := #[.int .i32 a0_0, .int .i32 a0_1]) (t := 26) ?hr ?_; (case hd => rfl); (case hg => rfl); (case hr => first | (go_simp; done) | (go_simp; rfl)); intro gb187 hg w6 hbox hb; have n0_ := Aside0.mk (below_step (by repeat (first | (with_reducible first | exact HB.out | apply below_alloc | apply pw_below_drewN | apply below_drew1) | exact HB.out)) hb); have n1_ := Aside0.mk (hbox); have n2_ := Aside0.mk ((by rw [hg]; exact (below_size (by repeat (first | (with_reducible first | exact HB.out | apply below_alloc | apply pw_below_drewN | apply below_drew1) | exact HB.out))) : w.heap.size ≤ gb187)); have n3_ := Aside0.mk ((by rw [hg]; exact (below_size (by repeat (first | (with_reducible first | exact HB.out | apply below_alloc | apply pw_below_drewN | apply below_drew1) | exact HB.out))) : w.heap.size ≤ gb187)); clear HB; have HB := n0_; have BK187 := n1_; have GW187 := n2_; have GE187 := n3_; clear n0_ n1_ n2_ n3_; clear hb hbox hg))
  (try simp only [Act.put, List.setIfInBounds_toArray, List.set_cons_zero, List.set_cons_succ])
  go_cut [49] (fun v49 wc => ∃ (kq : Nat) (x49_4 : Bool), v49 = .bool x49_4 ∧ Aside0 (billiardlaw16_ImpulseScales.j0 kq a1 a2 a3 x49_4 a0_0 a0_1 = some r) ∧ Aside0 (kq ≤ k) ∧ Aside0 (wc.heap[gb187]? = some (.cells #[.int .i32 a0_0, .int .i32 a0_1] 26 (0, 0))) ∧ Aside0 (Below w.heap.size w wc))
  case first =>
    have H := HC5.out
    clear HC5
    replace H := Option.bind_eq_some_iff.mp H
    obtain ⟨t188, A70, H⟩ := H
    replace H : (if t188 = true then ((billiardref05_In.f a0_0 65536).bind fun t189 => (if t189 = true then ((billiardref05_In.f a0_1 65536).bind fun t190 => (if t190 = true then (if a1 < 0 then (billiardlaw16_ImpulseScales.j0 k a1 a2 a3 true a0_0 a0_1) else (if a2 < a1 then (billiardlaw16_ImpulseScales.j0 k a1 a2 a3 true a0_0 a0_1) else (if a2 > 8796093022208 then (billiardlaw16_ImpulseScales.j0 k a1 a2 a3 true a0_0 a0_1) else (if a3 < 0 then (billiardlaw16_ImpulseScales.j0 k a1 a2 a3 true a0_0 a0_1) else (billiardlaw16_ImpulseScales.j0 k a1 a2 a3 (decide (a3 > 1048576)) a0_0 a0_1))))) else (billiardlaw16_ImpulseScales.j0 k a1 a2 a3 true a0_0 a0_1))) else (billiardlaw16_ImpulseScales.j0 k a1 a2 a3 true a0_0 a0_1))) else (billiardlaw16_ImpulseScales.j0 k a1 a2 a3 true a0_0 a0_1)) = some r := H
    have A7 := Aside0.mk A70
    clear A70
    by_cases c8 : t188 = true
    · subst c8
      have H1 : ((billiardref05_In.f a0_0 65536).bind fun t189 => (if t189 = true then ((billiardref05_In.f a0_1 65536).bind fun t190 => (if t190 = true then (if a1 < 0 then (billiardlaw16_ImpulseScales.j0 k a1 a2 a3 true a0_0 a0_1) else (if a2 < a1 then (billiardlaw16_ImpulseScales.j0 k a1 a2 a3 true a0_0 a0_1) else (if a2 > 8796093022208 then (billiardlaw16_ImpulseScales.j0 k a1 a2 a3 true a0_0 a0_1) else (if a3 < 0 then (billiardlaw16_ImpulseScales.j0 k a1 a2 a3 true a0_0 a0_1) else (billiardlaw16_ImpulseScales.j0 k a1 a2 a3 (decide (a3 > 1048576)) a0_0 a0_1))))) else (billiardlaw16_ImpulseScales.j0 k a1 a2 a3 true a0_0 a0_1))) else (billiardlaw16_ImpulseScales.j0 k a1 a2 a3 true a0_0 a0_1))) = some r := by rw [if_pos rfl] at H; exact H
      clear H
      have H := H1
      clear H1
      replace H := Option.bind_eq_some_iff.mp H
      obtain ⟨t189, A90, H⟩ := H
      replace H : (if t189 = true then ((billiardref05_In.f a0_1 65536).bind fun t190 => (if t190 = true then (if a1 < 0 then (billiardlaw16_ImpulseScales.j0 k a1 a2 a3 true a0_0 a0_1) else (if a2 < a1 then (billiardlaw16_ImpulseScales.j0 k a1 a2 a3 true a0_0 a0_1) else (if a2 > 8796093022208 then (billiardlaw16_ImpulseScales.j0 k a1 a2 a3 true a0_0 a0_1) else (if a3 < 0 then (billiardlaw16_ImpulseScales.j0 k a1 a2 a3 true a0_0 a0_1) else (billiardlaw16_ImpulseScales.j0 k a1 a2 a3 (decide (a3 > 1048576)) a0_0 a0_1))))) else (billiardlaw16_ImpulseScales.j0 k a1 a2 a3 true a0_0 a0_1))) else (billiardlaw16_ImpulseScales.j0 k a1 a2 a3 true a0_0 a0_1)) = some r := H
      have A9 := Aside0.mk A90
      clear A90
      by_cases c10 : t189 = true
      · subst c10
        have H1 : ((billiardref05_In.f a0_1 65536).bind fun t190 => (if t190 = true then (if a1 < 0 then (billiardlaw16_ImpulseScales.j0 k a1 a2 a3 true a0_0 a0_1) else (if a2 < a1 then (billiardlaw16_ImpulseScales.j0 k a1 a2 a3 true a0_0 a0_1) else (if a2 > 8796093022208 then (billiardlaw16_ImpulseScales.j0 k a1 a2 a3 true a0_0 a0_1) else (if a3 < 0 then (billiardlaw16_ImpulseScales.j0 k a1 a2 a3 true a0_0 a0_1) else (billiardlaw16_ImpulseScales.j0 k a1 a2 a3 (decide (a3 > 1048576)) a0_0 a0_1))))) else (billiardlaw16_ImpulseScales.j0 k a1 a2 a3 true a0_0 a0_1))) = some r := by rw [if_pos rfl] at H; exact H
        clear H
        have H := H1
        clear H1
        replace H := Option.bind_eq_some_iff.mp H
        obtain ⟨t190, A110, H⟩ := H
        replace H : (if t190 = true then (if a1 < 0 then (billiardlaw16_ImpulseScales.j0 k a1 a2 a3 true a0_0 a0_1) else (if a2 < a1 then (billiardlaw16_ImpulseScales.j0 k a1 a2 a3 true a0_0 a0_1) else (if a2 > 8796093022208 then (billiardlaw16_ImpulseScales.j0 k a1 a2 a3 true a0_0 a0_1) else (if a3 < 0 then (billiardlaw16_ImpulseScales.j0 k a1 a2 a3 true a0_0 a0_1) else (billiardlaw16_ImpulseScales.j0 k a1 a2 a3 (decide (a3 > 1048576)) a0_0 a0_1))))) else (billiardlaw16_ImpulseScales.j0 k a1 a2 a3 true a0_0 a0_1)) = some r := H
        have A11 := Aside0.mk A110
        clear A110
        by_cases c12 : t190 = true
        · subst c12
          have H1 : (if a1 < 0 then (billiardlaw16_ImpulseScales.j0 k a1 a2 a3 true a0_0 a0_1) else (if a2 < a1 then (billiardlaw16_ImpulseScales.j0 k a1 a2 a3 true a0_0 a0_1) else (if a2 > 8796093022208 then (billiardlaw16_ImpulseScales.j0 k a1 a2 a3 true a0_0 a0_1) else (if a3 < 0 then (billiardlaw16_ImpulseScales.j0 k a1 a2 a3 true a0_0 a0_1) else (billiardlaw16_ImpulseScales.j0 k a1 a2 a3 (decide (a3 > 1048576)) a0_0 a0_1))))) = some r := by rw [if_pos rfl] at H; exact H
          clear H
          have H := H1
          clear H1
          by_cases c13 : a1 < 0
          · rw [if_pos c13] at H
            have c13b0 : decide (a1 < 0) = true := decide_eq_true c13
            clear c13
            (first | rw [c13b0] | (simp only [i64_w, i32_w]; rw [c13b0]) | skip)
            have H' := Aside0.mk H
            clear H
            go_wp2_with (first | ((with_reducible refine gate_callee (f := 8) rfl ?_); refine goesL_ (some 15) rfl rfl Try.func8 (by kernel_rfl) rfl #[] rfl (by (try simp only [List.map_toArray, List.map_cons, List.map_nil]); first | done | rfl | (simp only [List.length_drop, List.length_take]; rfl)) ?_; (with_reducible refine (billiardlaw16_awake.calls k  true _ A7.out).mono ?_); rintro e w14 ⟨rfl, hb⟩; refine ⟨_, rfl, ?_⟩; have n0_ := Aside0.mk (blk_below (g := gb187) (o := .cells #[.int .i32 a0_0, .int .i32 a0_1] 26 (0, 0)) (by (with_reducible repeat (first | refine blk_drewN ?_ _ | refine blk_drew ?_ | refine blk_alloc ?_ _)); exact BK187.out) hb); have n1_ := Aside0.mk (below_step (by repeat (first | (with_reducible first | exact HB.out | apply below_alloc | apply pw_below_drewN | apply below_drew1 | refine below_set ?_ GE187.out) | exact HB.out)) hb); clear BK187; clear HB; have BK187 := n0_; have HB := n1_; clear n0_ n1_; (try clear hb); (try clear hb2); (try clear hk); (try clear hi); have hcz15_0 : w14.cell? ⟨gb187, 0, none⟩ = some (.int .i32 a0_0) := (blk_cell BK187.out 0).trans rfl; have hcz15_1 : w14.cell? ⟨gb187, 1, none⟩ = some (.int .i32 a0_1) := (blk_cell BK187.out 1).trans rfl; have hfz15_0 := blk_frozen BK187.out 0; have hfz15_1 := blk_frozen BK187.out 1) | (go_at_call 18; (with_reducible refine (billiardref05_In.calls a0_0 65536 true _ A9.out).mono ?_); rintro e w' ⟨rfl, ⟨nd, rfl⟩⟩) | (go_at_call 18; (with_reducible refine (billiardref05_In.calls a0_1 65536 true _ A11.out).mono ?_); rintro e w' ⟨rfl, ⟨nd, rfl⟩⟩))
            go_meet
            case rel => exact ⟨_, (true), (by first | rfl | (simp; done) | (simp [*]; done)), H', ⟨by first | omega | exact Nat.le_refl _⟩, ⟨by (with_reducible repeat (first | refine blk_drewN ?_ _ | refine blk_drew ?_ | refine blk_alloc ?_ _)); exact BK187.out⟩, ⟨by repeat (first | (with_reducible first | exact HB.out | apply below_alloc | apply pw_below_drewN | apply below_drew1 | refine below_set ?_ GE187.out) | exact HB.out)⟩⟩
          · rw [if_neg c13] at H
            have c13b0 : decide (a1 < 0) = false := decide_eq_false c13
            clear c13
            (first | rw [c13b0] | (simp only [i64_w, i32_w]; rw [c13b0]) | skip)
            by_cases c16 : a2 < a1
            · rw [if_pos c16] at H
              have c16b0 : decide (a2 < a1) = true := decide_eq_true c16
              clear c16
              have H' := Aside0.mk H
              clear H
              go_wp2_with (first | ((with_reducible refine gate_callee (f := 8) rfl ?_); refine goesL_ (some 15) rfl rfl Try.func8 (by kernel_rfl) rfl #[] rfl (by (try simp only [List.map_toArray, List.map_cons, List.map_nil]); first | done | rfl | (simp only [List.length_drop, List.length_take]; rfl)) ?_; (with_reducible refine (billiardlaw16_awake.calls k  true _ A7.out).mono ?_); rintro e w17 ⟨rfl, hb⟩; refine ⟨_, rfl, ?_⟩; have n0_ := Aside0.mk (blk_below (g := gb187) (o := .cells #[.int .i32 a0_0, .int .i32 a0_1] 26 (0, 0)) (by (with_reducible repeat (first | refine blk_drewN ?_ _ | refine blk_drew ?_ | refine blk_alloc ?_ _)); exact BK187.out) hb); have n1_ := Aside0.mk (below_step (by repeat (first | (with_reducible first | exact HB.out | apply below_alloc | apply pw_below_drewN | apply below_drew1 | refine below_set ?_ GE187.out) | exact HB.out)) hb); clear BK187; clear HB; have BK187 := n0_; have HB := n1_; clear n0_ n1_; (try clear hb); (try clear hb2); (try clear hk); (try clear hi); have hcz18_0 : w17.cell? ⟨gb187, 0, none⟩ = some (.int .i32 a0_0) := (blk_cell BK187.out 0).trans rfl; have hcz18_1 : w17.cell? ⟨gb187, 1, none⟩ = some (.int .i32 a0_1) := (blk_cell BK187.out 1).trans rfl; have hfz18_0 := blk_frozen BK187.out 0; have hfz18_1 := blk_frozen BK187.out 1) | (go_at_call 18; (with_reducible refine (billiardref05_In.calls a0_0 65536 true _ A9.out).mono ?_); rintro e w' ⟨rfl, ⟨nd, rfl⟩⟩) | (go_at_call 18; (with_reducible refine (billiardref05_In.calls a0_1 65536 true _ A11.out).mono ?_); rintro e w' ⟨rfl, ⟨nd, rfl⟩⟩))
              go_meet
              case rel => exact ⟨_, (true), (by first | rfl | (simp; done) | (simp [*]; done)), H', ⟨by first | omega | exact Nat.le_refl _⟩, ⟨by (with_reducible repeat (first | refine blk_drewN ?_ _ | refine blk_drew ?_ | refine blk_alloc ?_ _)); exact BK187.out⟩, ⟨by repeat (first | (with_reducible first | exact HB.out | apply below_alloc | apply pw_below_drewN | apply below_drew1 | refine below_set ?_ GE187.out) | exact HB.out)⟩⟩
            · rw [if_neg c16] at H
              have c16b0 : decide (a2 < a1) = false := decide_eq_false c16
              clear c16
              by_cases c19 : a2 > 8796093022208
              · rw [if_pos c19] at H
                have c19b0 : decide (8796093022208 < a2) = true := decide_eq_true c19
                clear c19
                have H' := Aside0.mk H
                clear H
                go_wp2_with (first | ((with_reducible refine gate_callee (f := 8) rfl ?_); refine goesL_ (some 15) rfl rfl Try.func8 (by kernel_rfl) rfl #[] rfl (by (try simp only [List.map_toArray, List.map_cons, List.map_nil]); first | done | rfl | (simp only [List.length_drop, List.length_take]; rfl)) ?_; (with_reducible refine (billiardlaw16_awake.calls k  true _ A7.out).mono ?_); rintro e w20 ⟨rfl, hb⟩; refine ⟨_, rfl, ?_⟩; have n0_ := Aside0.mk (blk_below (g := gb187) (o := .cells #[.int .i32 a0_0, .int .i32 a0_1] 26 (0, 0)) (by (with_reducible repeat (first | refine blk_drewN ?_ _ | refine blk_drew ?_ | refine blk_alloc ?_ _)); exact BK187.out) hb); have n1_ := Aside0.mk (below_step (by repeat (first | (with_reducible first | exact HB.out | apply below_alloc | apply pw_below_drewN | apply below_drew1 | refine below_set ?_ GE187.out) | exact HB.out)) hb); clear BK187; clear HB; have BK187 := n0_; have HB := n1_; clear n0_ n1_; (try clear hb); (try clear hb2); (try clear hk); (try clear hi); have hcz21_0 : w20.cell? ⟨gb187, 0, none⟩ = some (.int .i32 a0_0) := (blk_cell BK187.out 0).trans rfl; have hcz21_1 : w20.cell? ⟨gb187, 1, none⟩ = some (.int .i32 a0_1) := (blk_cell BK187.out 1).trans rfl; have hfz21_0 := blk_frozen BK187.out 0; have hfz21_1 := blk_frozen BK187.out 1) | (go_at_call 18; (with_reducible refine (billiardref05_In.calls a0_0 65536 true _ A9.out).mono ?_); rintro e w' ⟨rfl, ⟨nd, rfl⟩⟩) | (go_at_call 18; (with_reducible refine (billiardref05_In.calls a0_1 65536 true _ A11.out).mono ?_); rintro e w' ⟨rfl, ⟨nd, rfl⟩⟩))
                go_meet
                case rel => exact ⟨_, (true), (by first | rfl | (simp; done) | (simp [*]; done)), H', ⟨by first | omega | exact Nat.le_refl _⟩, ⟨by (with_reducible repeat (first | refine blk_drewN ?_ _ | refine blk_drew ?_ | refine blk_alloc ?_ _)); exact BK187.out⟩, ⟨by repeat (first | (with_reducible first | exact HB.out | apply below_alloc | apply pw_below_drewN | apply below_drew1 | refine below_set ?_ GE187.out) | exact HB.out)⟩⟩
              · rw [if_neg c19] at H
                have c19b0 : decide (8796093022208 < a2) = false := decide_eq_false c19
                clear c19
                by_cases c22 : a3 < 0
                · rw [if_pos c22] at H
                  have c22b0 : decide (a3 < 0) = true := decide_eq_true c22
                  clear c22
                  have H' := Aside0.mk H
                  clear H
                  go_wp2_with (first | ((with_reducible refine gate_callee (f := 8) rfl ?_); refine goesL_ (some 15) rfl rfl Try.func8 (by kernel_rfl) rfl #[] rfl (by (try simp only [List.map_toArray, List.map_cons, List.map_nil]); first | done | rfl | (simp only [List.length_drop, List.length_take]; rfl)) ?_; (with_reducible refine (billiardlaw16_awake.calls k  true _ A7.out).mono ?_); rintro e w23 ⟨rfl, hb⟩; refine ⟨_, rfl, ?_⟩; have n0_ := Aside0.mk (blk_below (g := gb187) (o := .cells #[.int .i32 a0_0, .int .i32 a0_1] 26 (0, 0)) (by (with_reducible repeat (first | refine blk_drewN ?_ _ | refine blk_drew ?_ | refine blk_alloc ?_ _)); exact BK187.out) hb); have n1_ := Aside0.mk (below_step (by repeat (first | (with_reducible first | exact HB.out | apply below_alloc | apply pw_below_drewN | apply below_drew1 | refine below_set ?_ GE187.out) | exact HB.out)) hb); clear BK187; clear HB; have BK187 := n0_; have HB := n1_; clear n0_ n1_; (try clear hb); (try clear hb2); (try clear hk); (try clear hi); have hcz24_0 : w23.cell? ⟨gb187, 0, none⟩ = some (.int .i32 a0_0) := (blk_cell BK187.out 0).trans rfl; have hcz24_1 : w23.cell? ⟨gb187, 1, none⟩ = some (.int .i32 a0_1) := (blk_cell BK187.out 1).trans rfl; have hfz24_0 := blk_frozen BK187.out 0; have hfz24_1 := blk_frozen BK187.out 1) | (go_at_call 18; (with_reducible refine (billiardref05_In.calls a0_0 65536 true _ A9.out).mono ?_); rintro e w' ⟨rfl, ⟨nd, rfl⟩⟩) | (go_at_call 18; (with_reducible refine (billiardref05_In.calls a0_1 65536 true _ A11.out).mono ?_); rintro e w' ⟨rfl, ⟨nd, rfl⟩⟩))
                  go_meet
                  case rel => exact ⟨_, (true), (by first | rfl | (simp; done) | (simp [*]; done)), H', ⟨by first | omega | exact Nat.le_refl _⟩, ⟨by (with_reducible repeat (first | refine blk_drewN ?_ _ | refine blk_drew ?_ | refine blk_alloc ?_ _)); exact BK187.out⟩, ⟨by repeat (first | (with_reducible first | exact HB.out | apply below_alloc | apply pw_below_drewN | apply below_drew1 | refine below_set ?_ GE187.out) | exact HB.out)⟩⟩
                · rw [if_neg c22] at H
                  have c22b0 : decide (a3 < 0) = false := decide_eq_false c22
                  clear c22
                  have H' := Aside0.mk H
                  clear H
                  go_wp2_with (first | ((with_reducible refine gate_callee (f := 8) rfl ?_); refine goesL_ (some 15) rfl rfl Try.func8 (by kernel_rfl) rfl #[] rfl (by (try simp only [List.map_toArray, List.map_cons, List.map_nil]); first | done | rfl | (simp only [List.length_drop, List.length_take]; rfl)) ?_; (with_reducible refine (billiardlaw16_awake.calls k  true _ A7.out).mono ?_); rintro e w25 ⟨rfl, hb⟩; refine ⟨_, rfl, ?_⟩; have n0_ := Aside0.mk (blk_below (g := gb187) (o := .cells #[.int .i32 a0_0, .int .i32 a0_1] 26 (0, 0)) (by (with_reducible repeat (first | refine blk_drewN ?_ _ | refine blk_drew ?_ | refine blk_alloc ?_ _)); exact BK187.out) hb); have n1_ := Aside0.mk (below_step (by repeat (first | (with_reducible first | exact HB.out | apply below_alloc | apply pw_below_drewN | apply below_drew1 | refine below_set ?_ GE187.out) | exact HB.out)) hb); clear BK187; clear HB; have BK187 := n0_; have HB := n1_; clear n0_ n1_; (try clear hb); (try clear hb2); (try clear hk); (try clear hi); have hcz26_0 : w25.cell? ⟨gb187, 0, none⟩ = some (.int .i32 a0_0) := (blk_cell BK187.out 0).trans rfl; have hcz26_1 : w25.cell? ⟨gb187, 1, none⟩ = some (.int .i32 a0_1) := (blk_cell BK187.out 1).trans rfl; have hfz26_0 := blk_frozen BK187.out 0; have hfz26_1 := blk_frozen BK187.out 1) | (go_at_call 18; (with_reducible refine (billiardref05_In.calls a0_0 65536 true _ A9.out).mono ?_); rintro e w' ⟨rfl, ⟨nd, rfl⟩⟩) | (go_at_call 18; (with_reducible refine (billiardref05_In.calls a0_1 65536 true _ A11.out).mono ?_); rintro e w' ⟨rfl, ⟨nd, rfl⟩⟩))
                  go_meet
                  case rel => exact ⟨_, (decide (a3 > 1048576)), (by first | rfl | (simp; done) | (simp [*]; done)), H', ⟨by first | omega | exact Nat.le_refl _⟩, ⟨by (with_reducible repeat (first | refine blk_drewN ?_ _ | refine blk_drew ?_ | refine blk_alloc ?_ _)); exact BK187.out⟩, ⟨by repeat (first | (with_reducible first | exact HB.out | apply below_alloc | apply pw_below_drewN | apply below_drew1 | refine below_set ?_ GE187.out) | exact HB.out)⟩⟩
        · replace c12 := Bool.eq_false_iff.mpr c12
          subst c12
          have H1 : (billiardlaw16_ImpulseScales.j0 k a1 a2 a3 true a0_0 a0_1) = some r := by rw [if_neg (show ¬ (false = true) by decide)] at H; exact H
          clear H
          have H := H1
          clear H1
          have H' := Aside0.mk H
          clear H
          go_wp2_with (first | ((with_reducible refine gate_callee (f := 8) rfl ?_); refine goesL_ (some 15) rfl rfl Try.func8 (by kernel_rfl) rfl #[] rfl (by (try simp only [List.map_toArray, List.map_cons, List.map_nil]); first | done | rfl | (simp only [List.length_drop, List.length_take]; rfl)) ?_; (with_reducible refine (billiardlaw16_awake.calls k  true _ A7.out).mono ?_); rintro e w27 ⟨rfl, hb⟩; refine ⟨_, rfl, ?_⟩; have n0_ := Aside0.mk (blk_below (g := gb187) (o := .cells #[.int .i32 a0_0, .int .i32 a0_1] 26 (0, 0)) (by (with_reducible repeat (first | refine blk_drewN ?_ _ | refine blk_drew ?_ | refine blk_alloc ?_ _)); exact BK187.out) hb); have n1_ := Aside0.mk (below_step (by repeat (first | (with_reducible first | exact HB.out | apply below_alloc | apply pw_below_drewN | apply below_drew1 | refine below_set ?_ GE187.out) | exact HB.out)) hb); clear BK187; clear HB; have BK187 := n0_; have HB := n1_; clear n0_ n1_; (try clear hb); (try clear hb2); (try clear hk); (try clear hi); have hcz28_0 : w27.cell? ⟨gb187, 0, none⟩ = some (.int .i32 a0_0) := (blk_cell BK187.out 0).trans rfl; have hcz28_1 : w27.cell? ⟨gb187, 1, none⟩ = some (.int .i32 a0_1) := (blk_cell BK187.out 1).trans rfl; have hfz28_0 := blk_frozen BK187.out 0; have hfz28_1 := blk_frozen BK187.out 1) | (go_at_call 18; (with_reducible refine (billiardref05_In.calls a0_0 65536 true _ A9.out).mono ?_); rintro e w' ⟨rfl, ⟨nd, rfl⟩⟩) | (go_at_call 18; (with_reducible refine (billiardref05_In.calls a0_1 65536 false _ A11.out).mono ?_); rintro e w' ⟨rfl, ⟨nd, rfl⟩⟩))
          go_meet
          case rel => exact ⟨_, (true), (by first | rfl | (simp; done) | (simp [*]; done)), H', ⟨by first | omega | exact Nat.le_refl _⟩, ⟨by (with_reducible repeat (first | refine blk_drewN ?_ _ | refine blk_drew ?_ | refine blk_alloc ?_ _)); exact BK187.out⟩, ⟨by repeat (first | (with_reducible first | exact HB.out | apply below_alloc | apply pw_below_drewN | apply below_drew1 | refine below_set ?_ GE187.out) | exact HB.out)⟩⟩
      · replace c10 := Bool.eq_false_iff.mpr c10
        subst c10
        have H1 : (billiardlaw16_ImpulseScales.j0 k a1 a2 a3 true a0_0 a0_1) = some r := by rw [if_neg (show ¬ (false = true) by decide)] at H; exact H
        clear H
        have H := H1
        clear H1
        have H' := Aside0.mk H
        clear H
        go_wp2_with (first | ((with_reducible refine gate_callee (f := 8) rfl ?_); refine goesL_ (some 15) rfl rfl Try.func8 (by kernel_rfl) rfl #[] rfl (by (try simp only [List.map_toArray, List.map_cons, List.map_nil]); first | done | rfl | (simp only [List.length_drop, List.length_take]; rfl)) ?_; (with_reducible refine (billiardlaw16_awake.calls k  true _ A7.out).mono ?_); rintro e w29 ⟨rfl, hb⟩; refine ⟨_, rfl, ?_⟩; have n0_ := Aside0.mk (blk_below (g := gb187) (o := .cells #[.int .i32 a0_0, .int .i32 a0_1] 26 (0, 0)) (by (with_reducible repeat (first | refine blk_drewN ?_ _ | refine blk_drew ?_ | refine blk_alloc ?_ _)); exact BK187.out) hb); have n1_ := Aside0.mk (below_step (by repeat (first | (with_reducible first | exact HB.out | apply below_alloc | apply pw_below_drewN | apply below_drew1 | refine below_set ?_ GE187.out) | exact HB.out)) hb); clear BK187; clear HB; have BK187 := n0_; have HB := n1_; clear n0_ n1_; (try clear hb); (try clear hb2); (try clear hk); (try clear hi); have hcz30_0 : w29.cell? ⟨gb187, 0, none⟩ = some (.int .i32 a0_0) := (blk_cell BK187.out 0).trans rfl; have hcz30_1 : w29.cell? ⟨gb187, 1, none⟩ = some (.int .i32 a0_1) := (blk_cell BK187.out 1).trans rfl; have hfz30_0 := blk_frozen BK187.out 0; have hfz30_1 := blk_frozen BK187.out 1) | (go_at_call 18; (with_reducible refine (billiardref05_In.calls a0_0 65536 false _ A9.out).mono ?_); rintro e w' ⟨rfl, ⟨nd, rfl⟩⟩))
        go_meet
        case rel => exact ⟨_, (true), (by first | rfl | (simp; done) | (simp [*]; done)), H', ⟨by first | omega | exact Nat.le_refl _⟩, ⟨by (with_reducible repeat (first | refine blk_drewN ?_ _ | refine blk_drew ?_ | refine blk_alloc ?_ _)); exact BK187.out⟩, ⟨by repeat (first | (with_reducible first | exact HB.out | apply below_alloc | apply pw_below_drewN | apply below_drew1 | refine below_set ?_ GE187.out) | exact HB.out)⟩⟩
    · replace c8 := Bool.eq_false_iff.mpr c8
      subst c8
      exact absurd (billiardlaw16_awake.only A7.out) (by decide)
  case rest =>
    clear HC5
    try clear c1
    try clear c2
    try clear p2
    try clear c5
    try clear c8
    try clear c10
    try clear c12
    try clear c13
    try clear c13b0
    try clear c16
    try clear c16b0
    try clear c19
    try clear c19b0
    try clear c22
    try clear c22b0
    try clear hcz15_0
    try clear hcz15_1
    try clear hcz18_0
    try clear hcz18_1
    try clear hcz21_0
    try clear hcz21_1
    try clear hcz24_0
    try clear hcz24_1
    try clear hcz26_0
    try clear hcz26_1
    try clear hcz28_0
    try clear hcz28_1
    try clear hcz30_0
    try clear hcz30_1
    try clear hfz15_0
    try clear hfz15_1
    try clear hfz18_0
    try clear hfz18_1
    try clear hfz21_0
    try clear hfz21_1
    try clear hfz24_0
    try clear hfz24_1
    try clear hfz26_0
    try clear hfz26_1
    try clear hfz28_0
    try clear hfz28_1
    try clear hfz30_0
    try clear hfz30_1
    obtain ⟨kq, x49_4, rfl, HA, HJ4, BK187, HB⟩ := hcut
    cases kq with
    | zero => exact absurd HA.out (by simp [billiardlaw16_ImpulseScales.j0])
    | succ kj4 =>
      have H := HA.out
      clear HA
      simp only [billiardlaw16_ImpulseScales.j0] at H
      by_cases c31 : x49_4 = true
      · subst c31
        have H1 : ((billiardlaw16_awake.f kj4).bind fun t191 => (some t191)) = some r := by rw [if_pos rfl] at H; exact H
        clear H
        have H := H1
        clear H1
        replace H := Option.bind_eq_some_iff.mp H
        obtain ⟨t191, A320, H⟩ := H
        replace H : (some t191) = some r := H
        have A32 := Aside0.mk A320
        clear A320
        obtain rfl := Option.some.inj H
        go_wp2_with (first | ((with_reducible refine gate_callee (f := 8) rfl ?_); refine goesL_ (some 50) rfl rfl Try.func8 (by kernel_rfl) rfl #[] rfl (by (try simp only [List.map_toArray, List.map_cons, List.map_nil]); first | done | rfl | (simp only [List.length_drop, List.length_take]; rfl)) ?_; (with_reducible refine (billiardlaw16_awake.calls kj4  t191 _ A32.out).mono ?_); rintro e w33 ⟨rfl, hb⟩; refine ⟨_, rfl, ?_⟩; have n0_ := Aside0.mk (blk_below (g := gb187) (o := .cells #[.int .i32 a0_0, .int .i32 a0_1] 26 (0, 0)) (by (with_reducible repeat (first | refine blk_drewN ?_ _ | refine blk_drew ?_ | refine blk_alloc ?_ _)); exact BK187.out) hb); have n1_ := Aside0.mk (below_step (by repeat (first | (with_reducible first | exact HB.out | apply below_alloc | apply pw_below_drewN | apply below_drew1 | refine below_set ?_ GE187.out) | exact HB.out)) hb); clear BK187; clear HB; have BK187 := n0_; have HB := n1_; clear n0_ n1_; (try clear hb); (try clear hb2); (try clear hk); (try clear hi)))
        go_ret
        exact ⟨by first | rfl | (simp [errW_none, errW_some] <;> rfl) | (simp [*, errW_none, errW_some] <;> rfl), by repeat (first | (with_reducible first | exact HB.out | apply below_alloc | apply pw_below_drewN | apply below_drew1 | refine below_set ?_ GE187.out) | exact HB.out)⟩
      · replace c31 := Bool.eq_false_iff.mpr c31
        subst c31
        have H1 : ((impulse_Change.f a1 a3 a0_0 a0_1).bind fun bt192 => ((impulse_Change.f a2 a3 a0_0 a0_1).bind fun bt194 => ((impulse_Change.f 0 a3 a0_0 a0_1).bind fun bt196 => (if bt196.1 = 0 then (if bt196.2 = 0 then (if a0_0 ≥ 0 then (if bt192.1 < 0 then (some false) else (if bt194.1 < bt192.1 then (some false) else (if a0_0 < 0 then (if bt192.1 > 0 then (some false) else (if bt194.1 > bt192.1 then (some false) else (if a0_1 < 0 then (if a0_1 ≥ 0 then (some true) else (if bt192.2 ≤ 0 then (some (decide (bt194.2 ≤ bt192.2))) else (some false))) else (if bt192.2 ≥ 0 then (if bt194.2 ≥ bt192.2 then (if a0_1 ≥ 0 then (some true) else (if bt192.2 ≤ 0 then (some (decide (bt194.2 ≤ bt192.2))) else (some false))) else (some false)) else (some false))))) else (if a0_1 < 0 then (if a0_1 ≥ 0 then (some true) else (if bt192.2 ≤ 0 then (some (decide (bt194.2 ≤ bt192.2))) else (some false))) else (if bt192.2 ≥ 0 then (if bt194.2 ≥ bt192.2 then (if a0_1 ≥ 0 then (some true) else (if bt192.2 ≤ 0 then (some (decide (bt194.2 ≤ bt192.2))) else (some false))) else (some false)) else (some false)))))) else (if a0_0 < 0 then (if bt192.1 > 0 then (some false) else (if bt194.1 > bt192.1 then (some false) else (if a0_1 < 0 then (if a0_1 ≥ 0 then (some true) else (if bt192.2 ≤ 0 then (some (decide (bt194.2 ≤ bt192.2))) else (some false))) else (if bt192.2 ≥ 0 then (if bt194.2 ≥ bt192.2 then (if a0_1 ≥ 0 then (some true) else (if bt192.2 ≤ 0 then (some (decide (bt194.2 ≤ bt192.2))) else (some false))) else (some false)) else (some false))))) else (if a0_1 < 0 then (if a0_1 ≥ 0 then (some true) else (if bt192.2 ≤ 0 then (some (decide (bt194.2 ≤ bt192.2))) else (some false))) else (if bt192.2 ≥ 0 then (if bt194.2 ≥ bt192.2 then (if a0_1 ≥ 0 then (some true) else (if bt192.2 ≤ 0 then (some (decide (bt194.2 ≤ bt192.2))) else (some false))) else (some false)) else (some false))))) else (some false)) else (some false))))) = some r := by rw [if_neg (show ¬ (false = true) by decide)] at H; exact H
        clear H
        have H := H1
        clear H1
        replace H := Option.bind_eq_some_iff.mp H
        obtain ⟨⟨t192, t193⟩, A340, H⟩ := H
        replace H : ((impulse_Change.f a2 a3 a0_0 a0_1).bind fun bt194 => ((impulse_Change.f 0 a3 a0_0 a0_1).bind fun bt196 => (if bt196.1 = 0 then (if bt196.2 = 0 then (if a0_0 ≥ 0 then (if t192 < 0 then (some false) else (if bt194.1 < t192 then (some false) else (if a0_0 < 0 then (if t192 > 0 then (some false) else (if bt194.1 > t192 then (some false) else (if a0_1 < 0 then (if a0_1 ≥ 0 then (some true) else (if t193 ≤ 0 then (some (decide (bt194.2 ≤ t193))) else (some false))) else (if t193 ≥ 0 then (if bt194.2 ≥ t193 then (if a0_1 ≥ 0 then (some true) else (if t193 ≤ 0 then (some (decide (bt194.2 ≤ t193))) else (some false))) else (some false)) else (some false))))) else (if a0_1 < 0 then (if a0_1 ≥ 0 then (some true) else (if t193 ≤ 0 then (some (decide (bt194.2 ≤ t193))) else (some false))) else (if t193 ≥ 0 then (if bt194.2 ≥ t193 then (if a0_1 ≥ 0 then (some true) else (if t193 ≤ 0 then (some (decide (bt194.2 ≤ t193))) else (some false))) else (some false)) else (some false)))))) else (if a0_0 < 0 then (if t192 > 0 then (some false) else (if bt194.1 > t192 then (some false) else (if a0_1 < 0 then (if a0_1 ≥ 0 then (some true) else (if t193 ≤ 0 then (some (decide (bt194.2 ≤ t193))) else (some false))) else (if t193 ≥ 0 then (if bt194.2 ≥ t193 then (if a0_1 ≥ 0 then (some true) else (if t193 ≤ 0 then (some (decide (bt194.2 ≤ t193))) else (some false))) else (some false)) else (some false))))) else (if a0_1 < 0 then (if a0_1 ≥ 0 then (some true) else (if t193 ≤ 0 then (some (decide (bt194.2 ≤ t193))) else (some false))) else (if t193 ≥ 0 then (if bt194.2 ≥ t193 then (if a0_1 ≥ 0 then (some true) else (if t193 ≤ 0 then (some (decide (bt194.2 ≤ t193))) else (some false))) else (some false)) else (some false))))) else (some false)) else (some false)))) = some r := H
        have A34 := Aside0.mk A340
        clear A340
        replace H := Option.bind_eq_some_iff.mp H
        obtain ⟨⟨t194, t195⟩, A350, H⟩ := H
        replace H : ((impulse_Change.f 0 a3 a0_0 a0_1).bind fun bt196 => (if bt196.1 = 0 then (if bt196.2 = 0 then (if a0_0 ≥ 0 then (if t192 < 0 then (some false) else (if t194 < t192 then (some false) else (if a0_0 < 0 then (if t192 > 0 then (some false) else (if t194 > t192 then (some false) else (if a0_1 < 0 then (if a0_1 ≥ 0 then (some true) else (if t193 ≤ 0 then (some (decide (t195 ≤ t193))) else (some false))) else (if t193 ≥ 0 then (if t195 ≥ t193 then (if a0_1 ≥ 0 then (some true) else (if t193 ≤ 0 then (some (decide (t195 ≤ t193))) else (some false))) else (some false)) else (some false))))) else (if a0_1 < 0 then (if a0_1 ≥ 0 then (some true) else (if t193 ≤ 0 then (some (decide (t195 ≤ t193))) else (some false))) else (if t193 ≥ 0 then (if t195 ≥ t193 then (if a0_1 ≥ 0 then (some true) else (if t193 ≤ 0 then (some (decide (t195 ≤ t193))) else (some false))) else (some false)) else (some false)))))) else (if a0_0 < 0 then (if t192 > 0 then (some false) else (if t194 > t192 then (some false) else (if a0_1 < 0 then (if a0_1 ≥ 0 then (some true) else (if t193 ≤ 0 then (some (decide (t195 ≤ t193))) else (some false))) else (if t193 ≥ 0 then (if t195 ≥ t193 then (if a0_1 ≥ 0 then (some true) else (if t193 ≤ 0 then (some (decide (t195 ≤ t193))) else (some false))) else (some false)) else (some false))))) else (if a0_1 < 0 then (if a0_1 ≥ 0 then (some true) else (if t193 ≤ 0 then (some (decide (t195 ≤ t193))) else (some false))) else (if t193 ≥ 0 then (if t195 ≥ t193 then (if a0_1 ≥ 0 then (some true) else (if t193 ≤ 0 then (some (decide (t195 ≤ t193))) else (some false))) else (some false)) else (some false))))) else (some false)) else (some false))) = some r := H
        have A35 := Aside0.mk A350
        clear A350
        replace H := Option.bind_eq_some_iff.mp H
        obtain ⟨⟨t196, t197⟩, A360, H⟩ := H
        replace H : (if t196 = 0 then (if t197 = 0 then (if a0_0 ≥ 0 then (if t192 < 0 then (some false) else (if t194 < t192 then (some false) else (if a0_0 < 0 then (if t192 > 0 then (some false) else (if t194 > t192 then (some false) else (if a0_1 < 0 then (if a0_1 ≥ 0 then (some true) else (if t193 ≤ 0 then (some (decide (t195 ≤ t193))) else (some false))) else (if t193 ≥ 0 then (if t195 ≥ t193 then (if a0_1 ≥ 0 then (some true) else (if t193 ≤ 0 then (some (decide (t195 ≤ t193))) else (some false))) else (some false)) else (some false))))) else (if a0_1 < 0 then (if a0_1 ≥ 0 then (some true) else (if t193 ≤ 0 then (some (decide (t195 ≤ t193))) else (some false))) else (if t193 ≥ 0 then (if t195 ≥ t193 then (if a0_1 ≥ 0 then (some true) else (if t193 ≤ 0 then (some (decide (t195 ≤ t193))) else (some false))) else (some false)) else (some false)))))) else (if a0_0 < 0 then (if t192 > 0 then (some false) else (if t194 > t192 then (some false) else (if a0_1 < 0 then (if a0_1 ≥ 0 then (some true) else (if t193 ≤ 0 then (some (decide (t195 ≤ t193))) else (some false))) else (if t193 ≥ 0 then (if t195 ≥ t193 then (if a0_1 ≥ 0 then (some true) else (if t193 ≤ 0 then (some (decide (t195 ≤ t193))) else (some false))) else (some false)) else (some false))))) else (if a0_1 < 0 then (if a0_1 ≥ 0 then (some true) else (if t193 ≤ 0 then (some (decide (t195 ≤ t193))) else (some false))) else (if t193 ≥ 0 then (if t195 ≥ t193 then (if a0_1 ≥ 0 then (some true) else (if t193 ≤ 0 then (some (decide (t195 ≤ t193))) else (some false))) else (some false)) else (some false))))) else (some false)) else (some false)) = some r := H
        have A36 := Aside0.mk A360
        clear A360
        by_cases c37 : t196 = 0
        · rw [if_pos c37] at H
          have c37b0 : (t196 == 0) = true := beq_iff_eq.mpr c37
          have c37b1 : (t196 != 0) = false := bne_eq_false_iff_eq.mpr c37
          clear c37
          by_cases c38 : t197 = 0
          · rw [if_pos c38] at H
            have c38b0 : (t197 == 0) = true := beq_iff_eq.mpr c38
            have c38b1 : (t197 != 0) = false := bne_eq_false_iff_eq.mpr c38
            clear c38
            by_cases c39 : a0_0 ≥ 0
            · rw [if_pos c39] at H
              have c39b0 : decide (0 ≤ a0_0) = true := decide_eq_true c39
              clear c39
              by_cases c40 : t192 < 0
              · rw [if_pos c40] at H
                have c40b0 : decide (t192 < 0) = true := decide_eq_true c40
                clear c40
                exact absurd ((Option.some.inj H).trans HR.out) (by decide)
              · rw [if_neg c40] at H
                have c40b0 : decide (t192 < 0) = false := decide_eq_false c40
                clear c40
                by_cases c41 : t194 < t192
                · rw [if_pos c41] at H
                  have c41b0 : decide (t194 < t192) = true := decide_eq_true c41
                  clear c41
                  exact absurd ((Option.some.inj H).trans HR.out) (by decide)
                · rw [if_neg c41] at H
                  have c41b0 : decide (t194 < t192) = false := decide_eq_false c41
                  clear c41
                  by_cases c42 : a0_0 < 0
                  · rw [if_pos c42] at H
                    have c42b0 : decide (a0_0 < 0) = true := decide_eq_true c42
                    clear c42
                    by_cases c43 : t192 > 0
                    · rw [if_pos c43] at H
                      have c43b0 : decide (0 < t192) = true := decide_eq_true c43
                      clear c43
                      exact absurd ((Option.some.inj H).trans HR.out) (by decide)
                    · rw [if_neg c43] at H
                      have c43b0 : decide (0 < t192) = false := decide_eq_false c43
                      clear c43
                      by_cases c44 : t194 > t192
                      · rw [if_pos c44] at H
                        have c44b0 : decide (t192 < t194) = true := decide_eq_true c44
                        clear c44
                        exact absurd ((Option.some.inj H).trans HR.out) (by decide)
                      · rw [if_neg c44] at H
                        have c44b0 : decide (t192 < t194) = false := decide_eq_false c44
                        clear c44
                        by_cases c45 : a0_1 < 0
                        · rw [if_pos c45] at H
                          have c45b0 : decide (a0_1 < 0) = true := decide_eq_true c45
                          clear c45
                          by_cases c46 : a0_1 ≥ 0
                          · rw [if_pos c46] at H
                            have c46b0 : decide (0 ≤ a0_1) = true := decide_eq_true c46
                            clear c46
                            obtain rfl := Option.some.inj H
                            have hcz47_0 : wc.cell? ⟨gb187, 0, none⟩ = some (.int .i32 a0_0) := (blk_cell BK187.out 0).trans rfl
                            have hcz47_1 : wc.cell? ⟨gb187, 1, none⟩ = some (.int .i32 a0_1) := (blk_cell BK187.out 1).trans rfl
                            have hfz47_0 := blk_frozen BK187.out 0
                            have hfz47_1 := blk_frozen BK187.out 1
                            go_wp2_with (first | ((with_reducible refine gate_callee (f := 15) rfl ?_); refine goesL_ (some 55) rfl rfl Try.func15 (by kernel_rfl) rfl #[.int .i64 a1, .int .i32 a3, .agg #[.int .i32 a0_0, .int .i32 a0_1]] rfl (by (try simp only [List.map_toArray, List.map_cons, List.map_nil]); first | done | rfl | (simp only [List.length_drop, List.length_take]; rfl)) ?_; (with_reducible refine (impulse_Change.calls a1 a3 a0_0 a0_1 t192 t193 _ A34.out).mono ?_); rintro e w48 ⟨rfl, hb⟩; refine ⟨_, rfl, ?_⟩; have n0_ := Aside0.mk (blk_below (g := gb187) (o := .cells #[.int .i32 a0_0, .int .i32 a0_1] 26 (0, 0)) (by (with_reducible repeat (first | refine blk_drewN ?_ _ | refine blk_drew ?_ | refine blk_alloc ?_ _)); exact BK187.out) hb); have n1_ := Aside0.mk (below_step (by repeat (first | (with_reducible first | exact HB.out | apply below_alloc | apply pw_below_drewN | apply below_drew1 | refine below_set ?_ GE187.out) | exact HB.out)) hb); clear BK187; clear HB; have BK187 := n0_; have HB := n1_; clear n0_ n1_; (try clear hb); (try clear hb2); (try clear hk); (try clear hi); have hcz49_0 : w48.cell? ⟨gb187, 0, none⟩ = some (.int .i32 a0_0) := (blk_cell BK187.out 0).trans rfl; have hcz49_1 : w48.cell? ⟨gb187, 1, none⟩ = some (.int .i32 a0_1) := (blk_cell BK187.out 1).trans rfl; have hfz49_0 := blk_frozen BK187.out 0; have hfz49_1 := blk_frozen BK187.out 1) | ((with_reducible refine gate_callee (f := 15) rfl ?_); refine goesL_ (some 62) rfl rfl Try.func15 (by kernel_rfl) rfl #[.int .i64 a2, .int .i32 a3, .agg #[.int .i32 a0_0, .int .i32 a0_1]] rfl (by (try simp only [List.map_toArray, List.map_cons, List.map_nil]); first | done | rfl | (simp only [List.length_drop, List.length_take]; rfl)) ?_; (with_reducible refine (impulse_Change.calls a2 a3 a0_0 a0_1 t194 t195 _ A35.out).mono ?_); rintro e w50 ⟨rfl, hb⟩; refine ⟨_, rfl, ?_⟩; have n0_ := Aside0.mk (blk_below (g := gb187) (o := .cells #[.int .i32 a0_0, .int .i32 a0_1] 26 (0, 0)) (by (with_reducible repeat (first | refine blk_drewN ?_ _ | refine blk_drew ?_ | refine blk_alloc ?_ _)); exact BK187.out) hb); have n1_ := Aside0.mk (below_step (by repeat (first | (with_reducible first | exact HB.out | apply below_alloc | apply pw_below_drewN | apply below_drew1 | refine below_set ?_ GE187.out) | exact HB.out)) hb); clear BK187; clear HB; have BK187 := n0_; have HB := n1_; clear n0_ n1_; (try clear hb); (try clear hb2); (try clear hk); (try clear hi); have hcz51_0 : w50.cell? ⟨gb187, 0, none⟩ = some (.int .i32 a0_0) := (blk_cell BK187.out 0).trans rfl; have hcz51_1 : w50.cell? ⟨gb187, 1, none⟩ = some (.int .i32 a0_1) := (blk_cell BK187.out 1).trans rfl; have hfz51_0 := blk_frozen BK187.out 0; have hfz51_1 := blk_frozen BK187.out 1) | ((with_reducible refine gate_callee (f := 15) rfl ?_); refine goesL_ (some 68) rfl rfl Try.func15 (by kernel_rfl) rfl #[.int .i64 0, .int .i32 a3, .agg #[.int .i32 a0_0, .int .i32 a0_1]] rfl (by (try simp only [List.map_toArray, List.map_cons, List.map_nil]); first | done | rfl | (simp only [List.length_drop, List.length_take]; rfl)) ?_; (with_reducible refine (impulse_Change.calls 0 a3 a0_0 a0_1 t196 t197 _ A36.out).mono ?_); rintro e w52 ⟨rfl, hb⟩; refine ⟨_, rfl, ?_⟩; have n0_ := Aside0.mk (blk_below (g := gb187) (o := .cells #[.int .i32 a0_0, .int .i32 a0_1] 26 (0, 0)) (by (with_reducible repeat (first | refine blk_drewN ?_ _ | refine blk_drew ?_ | refine blk_alloc ?_ _)); exact BK187.out) hb); have n1_ := Aside0.mk (below_step (by repeat (first | (with_reducible first | exact HB.out | apply below_alloc | apply pw_below_drewN | apply below_drew1 | refine below_set ?_ GE187.out) | exact HB.out)) hb); clear BK187; clear HB; have BK187 := n0_; have HB := n1_; clear n0_ n1_; (try clear hb); (try clear hb2); (try clear hk); (try clear hi); have hcz53_0 : w52.cell? ⟨gb187, 0, none⟩ = some (.int .i32 a0_0) := (blk_cell BK187.out 0).trans rfl; have hcz53_1 : w52.cell? ⟨gb187, 1, none⟩ = some (.int .i32 a0_1) := (blk_cell BK187.out 1).trans rfl; have hfz53_0 := blk_frozen BK187.out 0; have hfz53_1 := blk_frozen BK187.out 1))
                            go_ret
                            exact ⟨by first | rfl | (simp [errW_none, errW_some] <;> rfl) | (simp [*, errW_none, errW_some] <;> rfl), by repeat (first | (with_reducible first | exact HB.out | apply below_alloc | apply pw_below_drewN | apply below_drew1 | refine below_set ?_ GE187.out) | exact HB.out)⟩
                          · rw [if_neg c46] at H
                            have c46b0 : decide (0 ≤ a0_1) = false := decide_eq_false c46
                            clear c46
                            by_cases c54 : t193 ≤ 0
                            · rw [if_pos c54] at H
                              have c54b0 : decide (t193 ≤ 0) = true := decide_eq_true c54
                              clear c54
                              obtain rfl := Option.some.inj H
                              have hcz55_0 : wc.cell? ⟨gb187, 0, none⟩ = some (.int .i32 a0_0) := (blk_cell BK187.out 0).trans rfl
                              have hcz55_1 : wc.cell? ⟨gb187, 1, none⟩ = some (.int .i32 a0_1) := (blk_cell BK187.out 1).trans rfl
                              have hfz55_0 := blk_frozen BK187.out 0
                              have hfz55_1 := blk_frozen BK187.out 1
                              go_wp2_with (first | ((with_reducible refine gate_callee (f := 15) rfl ?_); refine goesL_ (some 55) rfl rfl Try.func15 (by kernel_rfl) rfl #[.int .i64 a1, .int .i32 a3, .agg #[.int .i32 a0_0, .int .i32 a0_1]] rfl (by (try simp only [List.map_toArray, List.map_cons, List.map_nil]); first | done | rfl | (simp only [List.length_drop, List.length_take]; rfl)) ?_; (with_reducible refine (impulse_Change.calls a1 a3 a0_0 a0_1 t192 t193 _ A34.out).mono ?_); rintro e w56 ⟨rfl, hb⟩; refine ⟨_, rfl, ?_⟩; have n0_ := Aside0.mk (blk_below (g := gb187) (o := .cells #[.int .i32 a0_0, .int .i32 a0_1] 26 (0, 0)) (by (with_reducible repeat (first | refine blk_drewN ?_ _ | refine blk_drew ?_ | refine blk_alloc ?_ _)); exact BK187.out) hb); have n1_ := Aside0.mk (below_step (by repeat (first | (with_reducible first | exact HB.out | apply below_alloc | apply pw_below_drewN | apply below_drew1 | refine below_set ?_ GE187.out) | exact HB.out)) hb); clear BK187; clear HB; have BK187 := n0_; have HB := n1_; clear n0_ n1_; (try clear hb); (try clear hb2); (try clear hk); (try clear hi); have hcz57_0 : w56.cell? ⟨gb187, 0, none⟩ = some (.int .i32 a0_0) := (blk_cell BK187.out 0).trans rfl; have hcz57_1 : w56.cell? ⟨gb187, 1, none⟩ = some (.int .i32 a0_1) := (blk_cell BK187.out 1).trans rfl; have hfz57_0 := blk_frozen BK187.out 0; have hfz57_1 := blk_frozen BK187.out 1) | ((with_reducible refine gate_callee (f := 15) rfl ?_); refine goesL_ (some 62) rfl rfl Try.func15 (by kernel_rfl) rfl #[.int .i64 a2, .int .i32 a3, .agg #[.int .i32 a0_0, .int .i32 a0_1]] rfl (by (try simp only [List.map_toArray, List.map_cons, List.map_nil]); first | done | rfl | (simp only [List.length_drop, List.length_take]; rfl)) ?_; (with_reducible refine (impulse_Change.calls a2 a3 a0_0 a0_1 t194 t195 _ A35.out).mono ?_); rintro e w58 ⟨rfl, hb⟩; refine ⟨_, rfl, ?_⟩; have n0_ := Aside0.mk (blk_below (g := gb187) (o := .cells #[.int .i32 a0_0, .int .i32 a0_1] 26 (0, 0)) (by (with_reducible repeat (first | refine blk_drewN ?_ _ | refine blk_drew ?_ | refine blk_alloc ?_ _)); exact BK187.out) hb); have n1_ := Aside0.mk (below_step (by repeat (first | (with_reducible first | exact HB.out | apply below_alloc | apply pw_below_drewN | apply below_drew1 | refine below_set ?_ GE187.out) | exact HB.out)) hb); clear BK187; clear HB; have BK187 := n0_; have HB := n1_; clear n0_ n1_; (try clear hb); (try clear hb2); (try clear hk); (try clear hi); have hcz59_0 : w58.cell? ⟨gb187, 0, none⟩ = some (.int .i32 a0_0) := (blk_cell BK187.out 0).trans rfl; have hcz59_1 : w58.cell? ⟨gb187, 1, none⟩ = some (.int .i32 a0_1) := (blk_cell BK187.out 1).trans rfl; have hfz59_0 := blk_frozen BK187.out 0; have hfz59_1 := blk_frozen BK187.out 1) | ((with_reducible refine gate_callee (f := 15) rfl ?_); refine goesL_ (some 68) rfl rfl Try.func15 (by kernel_rfl) rfl #[.int .i64 0, .int .i32 a3, .agg #[.int .i32 a0_0, .int .i32 a0_1]] rfl (by (try simp only [List.map_toArray, List.map_cons, List.map_nil]); first | done | rfl | (simp only [List.length_drop, List.length_take]; rfl)) ?_; (with_reducible refine (impulse_Change.calls 0 a3 a0_0 a0_1 t196 t197 _ A36.out).mono ?_); rintro e w60 ⟨rfl, hb⟩; refine ⟨_, rfl, ?_⟩; have n0_ := Aside0.mk (blk_below (g := gb187) (o := .cells #[.int .i32 a0_0, .int .i32 a0_1] 26 (0, 0)) (by (with_reducible repeat (first | refine blk_drewN ?_ _ | refine blk_drew ?_ | refine blk_alloc ?_ _)); exact BK187.out) hb); have n1_ := Aside0.mk (below_step (by repeat (first | (with_reducible first | exact HB.out | apply below_alloc | apply pw_below_drewN | apply below_drew1 | refine below_set ?_ GE187.out) | exact HB.out)) hb); clear BK187; clear HB; have BK187 := n0_; have HB := n1_; clear n0_ n1_; (try clear hb); (try clear hb2); (try clear hk); (try clear hi); have hcz61_0 : w60.cell? ⟨gb187, 0, none⟩ = some (.int .i32 a0_0) := (blk_cell BK187.out 0).trans rfl; have hcz61_1 : w60.cell? ⟨gb187, 1, none⟩ = some (.int .i32 a0_1) := (blk_cell BK187.out 1).trans rfl; have hfz61_0 := blk_frozen BK187.out 0; have hfz61_1 := blk_frozen BK187.out 1))
                              go_ret
                              exact ⟨by first | rfl | (simp [errW_none, errW_some] <;> rfl) | (simp [*, errW_none, errW_some] <;> rfl), by repeat (first | (with_reducible first | exact HB.out | apply below_alloc | apply pw_below_drewN | apply below_drew1 | refine below_set ?_ GE187.out) | exact HB.out)⟩
                            · rw [if_neg c54] at H
                              have c54b0 : decide (t193 ≤ 0) = false := decide_eq_false c54
                              clear c54
                              exact absurd ((Option.some.inj H).trans HR.out) (by decide)
                        · rw [if_neg c45] at H
                          have c45b0 : decide (a0_1 < 0) = false := decide_eq_false c45
                          clear c45
                          by_cases c62 : t193 ≥ 0
                          · rw [if_pos c62] at H
                            have c62b0 : decide (0 ≤ t193) = true := decide_eq_true c62
                            clear c62
                            by_cases c63 : t195 ≥ t193
                            · rw [if_pos c63] at H
                              have c63b0 : decide (t193 ≤ t195) = true := decide_eq_true c63
                              clear c63
                              by_cases c64 : a0_1 ≥ 0
                              · rw [if_pos c64] at H
                                have c64b0 : decide (0 ≤ a0_1) = true := decide_eq_true c64
                                clear c64
                                obtain rfl := Option.some.inj H
                                have hcz65_0 : wc.cell? ⟨gb187, 0, none⟩ = some (.int .i32 a0_0) := (blk_cell BK187.out 0).trans rfl
                                have hcz65_1 : wc.cell? ⟨gb187, 1, none⟩ = some (.int .i32 a0_1) := (blk_cell BK187.out 1).trans rfl
                                have hfz65_0 := blk_frozen BK187.out 0
                                have hfz65_1 := blk_frozen BK187.out 1
                                go_wp2_with (first | ((with_reducible refine gate_callee (f := 15) rfl ?_); refine goesL_ (some 55) rfl rfl Try.func15 (by kernel_rfl) rfl #[.int .i64 a1, .int .i32 a3, .agg #[.int .i32 a0_0, .int .i32 a0_1]] rfl (by (try simp only [List.map_toArray, List.map_cons, List.map_nil]); first | done | rfl | (simp only [List.length_drop, List.length_take]; rfl)) ?_; (with_reducible refine (impulse_Change.calls a1 a3 a0_0 a0_1 t192 t193 _ A34.out).mono ?_); rintro e w66 ⟨rfl, hb⟩; refine ⟨_, rfl, ?_⟩; have n0_ := Aside0.mk (blk_below (g := gb187) (o := .cells #[.int .i32 a0_0, .int .i32 a0_1] 26 (0, 0)) (by (with_reducible repeat (first | refine blk_drewN ?_ _ | refine blk_drew ?_ | refine blk_alloc ?_ _)); exact BK187.out) hb); have n1_ := Aside0.mk (below_step (by repeat (first | (with_reducible first | exact HB.out | apply below_alloc | apply pw_below_drewN | apply below_drew1 | refine below_set ?_ GE187.out) | exact HB.out)) hb); clear BK187; clear HB; have BK187 := n0_; have HB := n1_; clear n0_ n1_; (try clear hb); (try clear hb2); (try clear hk); (try clear hi); have hcz67_0 : w66.cell? ⟨gb187, 0, none⟩ = some (.int .i32 a0_0) := (blk_cell BK187.out 0).trans rfl; have hcz67_1 : w66.cell? ⟨gb187, 1, none⟩ = some (.int .i32 a0_1) := (blk_cell BK187.out 1).trans rfl; have hfz67_0 := blk_frozen BK187.out 0; have hfz67_1 := blk_frozen BK187.out 1) | ((with_reducible refine gate_callee (f := 15) rfl ?_); refine goesL_ (some 62) rfl rfl Try.func15 (by kernel_rfl) rfl #[.int .i64 a2, .int .i32 a3, .agg #[.int .i32 a0_0, .int .i32 a0_1]] rfl (by (try simp only [List.map_toArray, List.map_cons, List.map_nil]); first | done | rfl | (simp only [List.length_drop, List.length_take]; rfl)) ?_; (with_reducible refine (impulse_Change.calls a2 a3 a0_0 a0_1 t194 t195 _ A35.out).mono ?_); rintro e w68 ⟨rfl, hb⟩; refine ⟨_, rfl, ?_⟩; have n0_ := Aside0.mk (blk_below (g := gb187) (o := .cells #[.int .i32 a0_0, .int .i32 a0_1] 26 (0, 0)) (by (with_reducible repeat (first | refine blk_drewN ?_ _ | refine blk_drew ?_ | refine blk_alloc ?_ _)); exact BK187.out) hb); have n1_ := Aside0.mk (below_step (by repeat (first | (with_reducible first | exact HB.out | apply below_alloc | apply pw_below_drewN | apply below_drew1 | refine below_set ?_ GE187.out) | exact HB.out)) hb); clear BK187; clear HB; have BK187 := n0_; have HB := n1_; clear n0_ n1_; (try clear hb); (try clear hb2); (try clear hk); (try clear hi); have hcz69_0 : w68.cell? ⟨gb187, 0, none⟩ = some (.int .i32 a0_0) := (blk_cell BK187.out 0).trans rfl; have hcz69_1 : w68.cell? ⟨gb187, 1, none⟩ = some (.int .i32 a0_1) := (blk_cell BK187.out 1).trans rfl; have hfz69_0 := blk_frozen BK187.out 0; have hfz69_1 := blk_frozen BK187.out 1) | ((with_reducible refine gate_callee (f := 15) rfl ?_); refine goesL_ (some 68) rfl rfl Try.func15 (by kernel_rfl) rfl #[.int .i64 0, .int .i32 a3, .agg #[.int .i32 a0_0, .int .i32 a0_1]] rfl (by (try simp only [List.map_toArray, List.map_cons, List.map_nil]); first | done | rfl | (simp only [List.length_drop, List.length_take]; rfl)) ?_; (with_reducible refine (impulse_Change.calls 0 a3 a0_0 a0_1 t196 t197 _ A36.out).mono ?_); rintro e w70 ⟨rfl, hb⟩; refine ⟨_, rfl, ?_⟩; have n0_ := Aside0.mk (blk_below (g := gb187) (o := .cells #[.int .i32 a0_0, .int .i32 a0_1] 26 (0, 0)) (by (with_reducible repeat (first | refine blk_drewN ?_ _ | refine blk_drew ?_ | refine blk_alloc ?_ _)); exact BK187.out) hb); have n1_ := Aside0.mk (below_step (by repeat (first | (with_reducible first | exact HB.out | apply below_alloc | apply pw_below_drewN | apply below_drew1 | refine below_set ?_ GE187.out) | exact HB.out)) hb); clear BK187; clear HB; have BK187 := n0_; have HB := n1_; clear n0_ n1_; (try clear hb); (try clear hb2); (try clear hk); (try clear hi); have hcz71_0 : w70.cell? ⟨gb187, 0, none⟩ = some (.int .i32 a0_0) := (blk_cell BK187.out 0).trans rfl; have hcz71_1 : w70.cell? ⟨gb187, 1, none⟩ = some (.int .i32 a0_1) := (blk_cell BK187.out 1).trans rfl; have hfz71_0 := blk_frozen BK187.out 0; have hfz71_1 := blk_frozen BK187.out 1))
                                go_ret
                                exact ⟨by first | rfl | (simp [errW_none, errW_some] <;> rfl) | (simp [*, errW_none, errW_some] <;> rfl), by repeat (first | (with_reducible first | exact HB.out | apply below_alloc | apply pw_below_drewN | apply below_drew1 | refine below_set ?_ GE187.out) | exact HB.out)⟩
                              · rw [if_neg c64] at H
                                have c64b0 : decide (0 ≤ a0_1) = false := decide_eq_false c64
                                clear c64
                                by_cases c72 : t193 ≤ 0
                                · rw [if_pos c72] at H
                                  have c72b0 : decide (t193 ≤ 0) = true := decide_eq_true c72
                                  clear c72
                                  obtain rfl := Option.some.inj H
                                  have hcz73_0 : wc.cell? ⟨gb187, 0, none⟩ = some (.int .i32 a0_0) := (blk_cell BK187.out 0).trans rfl
                                  have hcz73_1 : wc.cell? ⟨gb187, 1, none⟩ = some (.int .i32 a0_1) := (blk_cell BK187.out 1).trans rfl
                                  have hfz73_0 := blk_frozen BK187.out 0
                                  have hfz73_1 := blk_frozen BK187.out 1
                                  go_wp2_with (first | ((with_reducible refine gate_callee (f := 15) rfl ?_); refine goesL_ (some 55) rfl rfl Try.func15 (by kernel_rfl) rfl #[.int .i64 a1, .int .i32 a3, .agg #[.int .i32 a0_0, .int .i32 a0_1]] rfl (by (try simp only [List.map_toArray, List.map_cons, List.map_nil]); first | done | rfl | (simp only [List.length_drop, List.length_take]; rfl)) ?_; (with_reducible refine (impulse_Change.calls a1 a3 a0_0 a0_1 t192 t193 _ A34.out).mono ?_); rintro e w74 ⟨rfl, hb⟩; refine ⟨_, rfl, ?_⟩; have n0_ := Aside0.mk (blk_below (g := gb187) (o := .cells #[.int .i32 a0_0, .int .i32 a0_1] 26 (0, 0)) (by (with_reducible repeat (first | refine blk_drewN ?_ _ | refine blk_drew ?_ | refine blk_alloc ?_ _)); exact BK187.out) hb); have n1_ := Aside0.mk (below_step (by repeat (first | (with_reducible first | exact HB.out | apply below_alloc | apply pw_below_drewN | apply below_drew1 | refine below_set ?_ GE187.out) | exact HB.out)) hb); clear BK187; clear HB; have BK187 := n0_; have HB := n1_; clear n0_ n1_; (try clear hb); (try clear hb2); (try clear hk); (try clear hi); have hcz75_0 : w74.cell? ⟨gb187, 0, none⟩ = some (.int .i32 a0_0) := (blk_cell BK187.out 0).trans rfl; have hcz75_1 : w74.cell? ⟨gb187, 1, none⟩ = some (.int .i32 a0_1) := (blk_cell BK187.out 1).trans rfl; have hfz75_0 := blk_frozen BK187.out 0; have hfz75_1 := blk_frozen BK187.out 1) | ((with_reducible refine gate_callee (f := 15) rfl ?_); refine goesL_ (some 62) rfl rfl Try.func15 (by kernel_rfl) rfl #[.int .i64 a2, .int .i32 a3, .agg #[.int .i32 a0_0, .int .i32 a0_1]] rfl (by (try simp only [List.map_toArray, List.map_cons, List.map_nil]); first | done | rfl | (simp only [List.length_drop, List.length_take]; rfl)) ?_; (with_reducible refine (impulse_Change.calls a2 a3 a0_0 a0_1 t194 t195 _ A35.out).mono ?_); rintro e w76 ⟨rfl, hb⟩; refine ⟨_, rfl, ?_⟩; have n0_ := Aside0.mk (blk_below (g := gb187) (o := .cells #[.int .i32 a0_0, .int .i32 a0_1] 26 (0, 0)) (by (with_reducible repeat (first | refine blk_drewN ?_ _ | refine blk_drew ?_ | refine blk_alloc ?_ _)); exact BK187.out) hb); have n1_ := Aside0.mk (below_step (by repeat (first | (with_reducible first | exact HB.out | apply below_alloc | apply pw_below_drewN | apply below_drew1 | refine below_set ?_ GE187.out) | exact HB.out)) hb); clear BK187; clear HB; have BK187 := n0_; have HB := n1_; clear n0_ n1_; (try clear hb); (try clear hb2); (try clear hk); (try clear hi); have hcz77_0 : w76.cell? ⟨gb187, 0, none⟩ = some (.int .i32 a0_0) := (blk_cell BK187.out 0).trans rfl; have hcz77_1 : w76.cell? ⟨gb187, 1, none⟩ = some (.int .i32 a0_1) := (blk_cell BK187.out 1).trans rfl; have hfz77_0 := blk_frozen BK187.out 0; have hfz77_1 := blk_frozen BK187.out 1) | ((with_reducible refine gate_callee (f := 15) rfl ?_); refine goesL_ (some 68) rfl rfl Try.func15 (by kernel_rfl) rfl #[.int .i64 0, .int .i32 a3, .agg #[.int .i32 a0_0, .int .i32 a0_1]] rfl (by (try simp only [List.map_toArray, List.map_cons, List.map_nil]); first | done | rfl | (simp only [List.length_drop, List.length_take]; rfl)) ?_; (with_reducible refine (impulse_Change.calls 0 a3 a0_0 a0_1 t196 t197 _ A36.out).mono ?_); rintro e w78 ⟨rfl, hb⟩; refine ⟨_, rfl, ?_⟩; have n0_ := Aside0.mk (blk_below (g := gb187) (o := .cells #[.int .i32 a0_0, .int .i32 a0_1] 26 (0, 0)) (by (with_reducible repeat (first | refine blk_drewN ?_ _ | refine blk_drew ?_ | refine blk_alloc ?_ _)); exact BK187.out) hb); have n1_ := Aside0.mk (below_step (by repeat (first | (with_reducible first | exact HB.out | apply below_alloc | apply pw_below_drewN | apply below_drew1 | refine below_set ?_ GE187.out) | exact HB.out)) hb); clear BK187; clear HB; have BK187 := n0_; have HB := n1_; clear n0_ n1_; (try clear hb); (try clear hb2); (try clear hk); (try clear hi); have hcz79_0 : w78.cell? ⟨gb187, 0, none⟩ = some (.int .i32 a0_0) := (blk_cell BK187.out 0).trans rfl; have hcz79_1 : w78.cell? ⟨gb187, 1, none⟩ = some (.int .i32 a0_1) := (blk_cell BK187.out 1).trans rfl; have hfz79_0 := blk_frozen BK187.out 0; have hfz79_1 := blk_frozen BK187.out 1))
                                  go_ret
                                  exact ⟨by first | rfl | (simp [errW_none, errW_some] <;> rfl) | (simp [*, errW_none, errW_some] <;> rfl), by repeat (first | (with_reducible first | exact HB.out | apply below_alloc | apply pw_below_drewN | apply below_drew1 | refine below_set ?_ GE187.out) | exact HB.out)⟩
                                · rw [if_neg c72] at H
                                  have c72b0 : decide (t193 ≤ 0) = false := decide_eq_false c72
                                  clear c72
                                  exact absurd ((Option.some.inj H).trans HR.out) (by decide)
                            · rw [if_neg c63] at H
                              have c63b0 : decide (t193 ≤ t195) = false := decide_eq_false c63
                              clear c63
                              exact absurd ((Option.some.inj H).trans HR.out) (by decide)
                          · rw [if_neg c62] at H
                            have c62b0 : decide (0 ≤ t193) = false := decide_eq_false c62
                            clear c62
                            exact absurd ((Option.some.inj H).trans HR.out) (by decide)
                  · rw [if_neg c42] at H
                    have c42b0 : decide (a0_0 < 0) = false := decide_eq_false c42
                    clear c42
                    by_cases c80 : a0_1 < 0
                    · rw [if_pos c80] at H
                      have c80b0 : decide (a0_1 < 0) = true := decide_eq_true c80
                      clear c80
                      by_cases c81 : a0_1 ≥ 0
                      · rw [if_pos c81] at H
                        have c81b0 : decide (0 ≤ a0_1) = true := decide_eq_true c81
                        clear c81
                        obtain rfl := Option.some.inj H
                        have hcz82_0 : wc.cell? ⟨gb187, 0, none⟩ = some (.int .i32 a0_0) := (blk_cell BK187.out 0).trans rfl
                        have hcz82_1 : wc.cell? ⟨gb187, 1, none⟩ = some (.int .i32 a0_1) := (blk_cell BK187.out 1).trans rfl
                        have hfz82_0 := blk_frozen BK187.out 0
                        have hfz82_1 := blk_frozen BK187.out 1
                        go_wp2_with (first | ((with_reducible refine gate_callee (f := 15) rfl ?_); refine goesL_ (some 55) rfl rfl Try.func15 (by kernel_rfl) rfl #[.int .i64 a1, .int .i32 a3, .agg #[.int .i32 a0_0, .int .i32 a0_1]] rfl (by (try simp only [List.map_toArray, List.map_cons, List.map_nil]); first | done | rfl | (simp only [List.length_drop, List.length_take]; rfl)) ?_; (with_reducible refine (impulse_Change.calls a1 a3 a0_0 a0_1 t192 t193 _ A34.out).mono ?_); rintro e w83 ⟨rfl, hb⟩; refine ⟨_, rfl, ?_⟩; have n0_ := Aside0.mk (blk_below (g := gb187) (o := .cells #[.int .i32 a0_0, .int .i32 a0_1] 26 (0, 0)) (by (with_reducible repeat (first | refine blk_drewN ?_ _ | refine blk_drew ?_ | refine blk_alloc ?_ _)); exact BK187.out) hb); have n1_ := Aside0.mk (below_step (by repeat (first | (with_reducible first | exact HB.out | apply below_alloc | apply pw_below_drewN | apply below_drew1 | refine below_set ?_ GE187.out) | exact HB.out)) hb); clear BK187; clear HB; have BK187 := n0_; have HB := n1_; clear n0_ n1_; (try clear hb); (try clear hb2); (try clear hk); (try clear hi); have hcz84_0 : w83.cell? ⟨gb187, 0, none⟩ = some (.int .i32 a0_0) := (blk_cell BK187.out 0).trans rfl; have hcz84_1 : w83.cell? ⟨gb187, 1, none⟩ = some (.int .i32 a0_1) := (blk_cell BK187.out 1).trans rfl; have hfz84_0 := blk_frozen BK187.out 0; have hfz84_1 := blk_frozen BK187.out 1) | ((with_reducible refine gate_callee (f := 15) rfl ?_); refine goesL_ (some 62) rfl rfl Try.func15 (by kernel_rfl) rfl #[.int .i64 a2, .int .i32 a3, .agg #[.int .i32 a0_0, .int .i32 a0_1]] rfl (by (try simp only [List.map_toArray, List.map_cons, List.map_nil]); first | done | rfl | (simp only [List.length_drop, List.length_take]; rfl)) ?_; (with_reducible refine (impulse_Change.calls a2 a3 a0_0 a0_1 t194 t195 _ A35.out).mono ?_); rintro e w85 ⟨rfl, hb⟩; refine ⟨_, rfl, ?_⟩; have n0_ := Aside0.mk (blk_below (g := gb187) (o := .cells #[.int .i32 a0_0, .int .i32 a0_1] 26 (0, 0)) (by (with_reducible repeat (first | refine blk_drewN ?_ _ | refine blk_drew ?_ | refine blk_alloc ?_ _)); exact BK187.out) hb); have n1_ := Aside0.mk (below_step (by repeat (first | (with_reducible first | exact HB.out | apply below_alloc | apply pw_below_drewN | apply below_drew1 | refine below_set ?_ GE187.out) | exact HB.out)) hb); clear BK187; clear HB; have BK187 := n0_; have HB := n1_; clear n0_ n1_; (try clear hb); (try clear hb2); (try clear hk); (try clear hi); have hcz86_0 : w85.cell? ⟨gb187, 0, none⟩ = some (.int .i32 a0_0) := (blk_cell BK187.out 0).trans rfl; have hcz86_1 : w85.cell? ⟨gb187, 1, none⟩ = some (.int .i32 a0_1) := (blk_cell BK187.out 1).trans rfl; have hfz86_0 := blk_frozen BK187.out 0; have hfz86_1 := blk_frozen BK187.out 1) | ((with_reducible refine gate_callee (f := 15) rfl ?_); refine goesL_ (some 68) rfl rfl Try.func15 (by kernel_rfl) rfl #[.int .i64 0, .int .i32 a3, .agg #[.int .i32 a0_0, .int .i32 a0_1]] rfl (by (try simp only [List.map_toArray, List.map_cons, List.map_nil]); first | done | rfl | (simp only [List.length_drop, List.length_take]; rfl)) ?_; (with_reducible refine (impulse_Change.calls 0 a3 a0_0 a0_1 t196 t197 _ A36.out).mono ?_); rintro e w87 ⟨rfl, hb⟩; refine ⟨_, rfl, ?_⟩; have n0_ := Aside0.mk (blk_below (g := gb187) (o := .cells #[.int .i32 a0_0, .int .i32 a0_1] 26 (0, 0)) (by (with_reducible repeat (first | refine blk_drewN ?_ _ | refine blk_drew ?_ | refine blk_alloc ?_ _)); exact BK187.out) hb); have n1_ := Aside0.mk (below_step (by repeat (first | (with_reducible first | exact HB.out | apply below_alloc | apply pw_below_drewN | apply below_drew1 | refine below_set ?_ GE187.out) | exact HB.out)) hb); clear BK187; clear HB; have BK187 := n0_; have HB := n1_; clear n0_ n1_; (try clear hb); (try clear hb2); (try clear hk); (try clear hi); have hcz88_0 : w87.cell? ⟨gb187, 0, none⟩ = some (.int .i32 a0_0) := (blk_cell BK187.out 0).trans rfl; have hcz88_1 : w87.cell? ⟨gb187, 1, none⟩ = some (.int .i32 a0_1) := (blk_cell BK187.out 1).trans rfl; have hfz88_0 := blk_frozen BK187.out 0; have hfz88_1 := blk_frozen BK187.out 1))
                        go_ret
                        exact ⟨by first | rfl | (simp [errW_none, errW_some] <;> rfl) | (simp [*, errW_none, errW_some] <;> rfl), by repeat (first | (with_reducible first | exact HB.out | apply below_alloc | apply pw_below_drewN | apply below_drew1 | refine below_set ?_ GE187.out) | exact HB.out)⟩
                      · rw [if_neg c81] at H
                        have c81b0 : decide (0 ≤ a0_1) = false := decide_eq_false c81
                        clear c81
                        by_cases c89 : t193 ≤ 0
                        · rw [if_pos c89] at H
                          have c89b0 : decide (t193 ≤ 0) = true := decide_eq_true c89
                          clear c89
                          obtain rfl := Option.some.inj H
                          have hcz90_0 : wc.cell? ⟨gb187, 0, none⟩ = some (.int .i32 a0_0) := (blk_cell BK187.out 0).trans rfl
                          have hcz90_1 : wc.cell? ⟨gb187, 1, none⟩ = some (.int .i32 a0_1) := (blk_cell BK187.out 1).trans rfl
                          have hfz90_0 := blk_frozen BK187.out 0
                          have hfz90_1 := blk_frozen BK187.out 1
                          go_wp2_with (first | ((with_reducible refine gate_callee (f := 15) rfl ?_); refine goesL_ (some 55) rfl rfl Try.func15 (by kernel_rfl) rfl #[.int .i64 a1, .int .i32 a3, .agg #[.int .i32 a0_0, .int .i32 a0_1]] rfl (by (try simp only [List.map_toArray, List.map_cons, List.map_nil]); first | done | rfl | (simp only [List.length_drop, List.length_take]; rfl)) ?_; (with_reducible refine (impulse_Change.calls a1 a3 a0_0 a0_1 t192 t193 _ A34.out).mono ?_); rintro e w91 ⟨rfl, hb⟩; refine ⟨_, rfl, ?_⟩; have n0_ := Aside0.mk (blk_below (g := gb187) (o := .cells #[.int .i32 a0_0, .int .i32 a0_1] 26 (0, 0)) (by (with_reducible repeat (first | refine blk_drewN ?_ _ | refine blk_drew ?_ | refine blk_alloc ?_ _)); exact BK187.out) hb); have n1_ := Aside0.mk (below_step (by repeat (first | (with_reducible first | exact HB.out | apply below_alloc | apply pw_below_drewN | apply below_drew1 | refine below_set ?_ GE187.out) | exact HB.out)) hb); clear BK187; clear HB; have BK187 := n0_; have HB := n1_; clear n0_ n1_; (try clear hb); (try clear hb2); (try clear hk); (try clear hi); have hcz92_0 : w91.cell? ⟨gb187, 0, none⟩ = some (.int .i32 a0_0) := (blk_cell BK187.out 0).trans rfl; have hcz92_1 : w91.cell? ⟨gb187, 1, none⟩ = some (.int .i32 a0_1) := (blk_cell BK187.out 1).trans rfl; have hfz92_0 := blk_frozen BK187.out 0; have hfz92_1 := blk_frozen BK187.out 1) | ((with_reducible refine gate_callee (f := 15) rfl ?_); refine goesL_ (some 62) rfl rfl Try.func15 (by kernel_rfl) rfl #[.int .i64 a2, .int .i32 a3, .agg #[.int .i32 a0_0, .int .i32 a0_1]] rfl (by (try simp only [List.map_toArray, List.map_cons, List.map_nil]); first | done | rfl | (simp only [List.length_drop, List.length_take]; rfl)) ?_; (with_reducible refine (impulse_Change.calls a2 a3 a0_0 a0_1 t194 t195 _ A35.out).mono ?_); rintro e w93 ⟨rfl, hb⟩; refine ⟨_, rfl, ?_⟩; have n0_ := Aside0.mk (blk_below (g := gb187) (o := .cells #[.int .i32 a0_0, .int .i32 a0_1] 26 (0, 0)) (by (with_reducible repeat (first | refine blk_drewN ?_ _ | refine blk_drew ?_ | refine blk_alloc ?_ _)); exact BK187.out) hb); have n1_ := Aside0.mk (below_step (by repeat (first | (with_reducible first | exact HB.out | apply below_alloc | apply pw_below_drewN | apply below_drew1 | refine below_set ?_ GE187.out) | exact HB.out)) hb); clear BK187; clear HB; have BK187 := n0_; have HB := n1_; clear n0_ n1_; (try clear hb); (try clear hb2); (try clear hk); (try clear hi); have hcz94_0 : w93.cell? ⟨gb187, 0, none⟩ = some (.int .i32 a0_0) := (blk_cell BK187.out 0).trans rfl; have hcz94_1 : w93.cell? ⟨gb187, 1, none⟩ = some (.int .i32 a0_1) := (blk_cell BK187.out 1).trans rfl; have hfz94_0 := blk_frozen BK187.out 0; have hfz94_1 := blk_frozen BK187.out 1) | ((with_reducible refine gate_callee (f := 15) rfl ?_); refine goesL_ (some 68) rfl rfl Try.func15 (by kernel_rfl) rfl #[.int .i64 0, .int .i32 a3, .agg #[.int .i32 a0_0, .int .i32 a0_1]] rfl (by (try simp only [List.map_toArray, List.map_cons, List.map_nil]); first | done | rfl | (simp only [List.length_drop, List.length_take]; rfl)) ?_; (with_reducible refine (impulse_Change.calls 0 a3 a0_0 a0_1 t196 t197 _ A36.out).mono ?_); rintro e w95 ⟨rfl, hb⟩; refine ⟨_, rfl, ?_⟩; have n0_ := Aside0.mk (blk_below (g := gb187) (o := .cells #[.int .i32 a0_0, .int .i32 a0_1] 26 (0, 0)) (by (with_reducible repeat (first | refine blk_drewN ?_ _ | refine blk_drew ?_ | refine blk_alloc ?_ _)); exact BK187.out) hb); have n1_ := Aside0.mk (below_step (by repeat (first | (with_reducible first | exact HB.out | apply below_alloc | apply pw_below_drewN | apply below_drew1 | refine below_set ?_ GE187.out) | exact HB.out)) hb); clear BK187; clear HB; have BK187 := n0_; have HB := n1_; clear n0_ n1_; (try clear hb); (try clear hb2); (try clear hk); (try clear hi); have hcz96_0 : w95.cell? ⟨gb187, 0, none⟩ = some (.int .i32 a0_0) := (blk_cell BK187.out 0).trans rfl; have hcz96_1 : w95.cell? ⟨gb187, 1, none⟩ = some (.int .i32 a0_1) := (blk_cell BK187.out 1).trans rfl; have hfz96_0 := blk_frozen BK187.out 0; have hfz96_1 := blk_frozen BK187.out 1))
                          go_ret
                          exact ⟨by first | rfl | (simp [errW_none, errW_some] <;> rfl) | (simp [*, errW_none, errW_some] <;> rfl), by repeat (first | (with_reducible first | exact HB.out | apply below_alloc | apply pw_below_drewN | apply below_drew1 | refine below_set ?_ GE187.out) | exact HB.out)⟩
                        · rw [if_neg c89] at H
                          have c89b0 : decide (t193 ≤ 0) = false := decide_eq_false c89
                          clear c89
                          exact absurd ((Option.some.inj H).trans HR.out) (by decide)
                    · rw [if_neg c80] at H
                      have c80b0 : decide (a0_1 < 0) = false := decide_eq_false c80
                      clear c80
                      by_cases c97 : t193 ≥ 0
                      · rw [if_pos c97] at H
                        have c97b0 : decide (0 ≤ t193) = true := decide_eq_true c97
                        clear c97
                        by_cases c98 : t195 ≥ t193
                        · rw [if_pos c98] at H
                          have c98b0 : decide (t193 ≤ t195) = true := decide_eq_true c98
                          clear c98
                          by_cases c99 : a0_1 ≥ 0
                          · rw [if_pos c99] at H
                            have c99b0 : decide (0 ≤ a0_1) = true := decide_eq_true c99
                            clear c99
                            obtain rfl := Option.some.inj H
                            have hcz100_0 : wc.cell? ⟨gb187, 0, none⟩ = some (.int .i32 a0_0) := (blk_cell BK187.out 0).trans rfl
                            have hcz100_1 : wc.cell? ⟨gb187, 1, none⟩ = some (.int .i32 a0_1) := (blk_cell BK187.out 1).trans rfl
                            have hfz100_0 := blk_frozen BK187.out 0
                            have hfz100_1 := blk_frozen BK187.out 1
                            go_wp2_with (first | ((with_reducible refine gate_callee (f := 15) rfl ?_); refine goesL_ (some 55) rfl rfl Try.func15 (by kernel_rfl) rfl #[.int .i64 a1, .int .i32 a3, .agg #[.int .i32 a0_0, .int .i32 a0_1]] rfl (by (try simp only [List.map_toArray, List.map_cons, List.map_nil]); first | done | rfl | (simp only [List.length_drop, List.length_take]; rfl)) ?_; (with_reducible refine (impulse_Change.calls a1 a3 a0_0 a0_1 t192 t193 _ A34.out).mono ?_); rintro e w101 ⟨rfl, hb⟩; refine ⟨_, rfl, ?_⟩; have n0_ := Aside0.mk (blk_below (g := gb187) (o := .cells #[.int .i32 a0_0, .int .i32 a0_1] 26 (0, 0)) (by (with_reducible repeat (first | refine blk_drewN ?_ _ | refine blk_drew ?_ | refine blk_alloc ?_ _)); exact BK187.out) hb); have n1_ := Aside0.mk (below_step (by repeat (first | (with_reducible first | exact HB.out | apply below_alloc | apply pw_below_drewN | apply below_drew1 | refine below_set ?_ GE187.out) | exact HB.out)) hb); clear BK187; clear HB; have BK187 := n0_; have HB := n1_; clear n0_ n1_; (try clear hb); (try clear hb2); (try clear hk); (try clear hi); have hcz102_0 : w101.cell? ⟨gb187, 0, none⟩ = some (.int .i32 a0_0) := (blk_cell BK187.out 0).trans rfl; have hcz102_1 : w101.cell? ⟨gb187, 1, none⟩ = some (.int .i32 a0_1) := (blk_cell BK187.out 1).trans rfl; have hfz102_0 := blk_frozen BK187.out 0; have hfz102_1 := blk_frozen BK187.out 1) | ((with_reducible refine gate_callee (f := 15) rfl ?_); refine goesL_ (some 62) rfl rfl Try.func15 (by kernel_rfl) rfl #[.int .i64 a2, .int .i32 a3, .agg #[.int .i32 a0_0, .int .i32 a0_1]] rfl (by (try simp only [List.map_toArray, List.map_cons, List.map_nil]); first | done | rfl | (simp only [List.length_drop, List.length_take]; rfl)) ?_; (with_reducible refine (impulse_Change.calls a2 a3 a0_0 a0_1 t194 t195 _ A35.out).mono ?_); rintro e w103 ⟨rfl, hb⟩; refine ⟨_, rfl, ?_⟩; have n0_ := Aside0.mk (blk_below (g := gb187) (o := .cells #[.int .i32 a0_0, .int .i32 a0_1] 26 (0, 0)) (by (with_reducible repeat (first | refine blk_drewN ?_ _ | refine blk_drew ?_ | refine blk_alloc ?_ _)); exact BK187.out) hb); have n1_ := Aside0.mk (below_step (by repeat (first | (with_reducible first | exact HB.out | apply below_alloc | apply pw_below_drewN | apply below_drew1 | refine below_set ?_ GE187.out) | exact HB.out)) hb); clear BK187; clear HB; have BK187 := n0_; have HB := n1_; clear n0_ n1_; (try clear hb); (try clear hb2); (try clear hk); (try clear hi); have hcz104_0 : w103.cell? ⟨gb187, 0, none⟩ = some (.int .i32 a0_0) := (blk_cell BK187.out 0).trans rfl; have hcz104_1 : w103.cell? ⟨gb187, 1, none⟩ = some (.int .i32 a0_1) := (blk_cell BK187.out 1).trans rfl; have hfz104_0 := blk_frozen BK187.out 0; have hfz104_1 := blk_frozen BK187.out 1) | ((with_reducible refine gate_callee (f := 15) rfl ?_); refine goesL_ (some 68) rfl rfl Try.func15 (by kernel_rfl) rfl #[.int .i64 0, .int .i32 a3, .agg #[.int .i32 a0_0, .int .i32 a0_1]] rfl (by (try simp only [List.map_toArray, List.map_cons, List.map_nil]); first | done | rfl | (simp only [List.length_drop, List.length_take]; rfl)) ?_; (with_reducible refine (impulse_Change.calls 0 a3 a0_0 a0_1 t196 t197 _ A36.out).mono ?_); rintro e w105 ⟨rfl, hb⟩; refine ⟨_, rfl, ?_⟩; have n0_ := Aside0.mk (blk_below (g := gb187) (o := .cells #[.int .i32 a0_0, .int .i32 a0_1] 26 (0, 0)) (by (with_reducible repeat (first | refine blk_drewN ?_ _ | refine blk_drew ?_ | refine blk_alloc ?_ _)); exact BK187.out) hb); have n1_ := Aside0.mk (below_step (by repeat (first | (with_reducible first | exact HB.out | apply below_alloc | apply pw_below_drewN | apply below_drew1 | refine below_set ?_ GE187.out) | exact HB.out)) hb); clear BK187; clear HB; have BK187 := n0_; have HB := n1_; clear n0_ n1_; (try clear hb); (try clear hb2); (try clear hk); (try clear hi); have hcz106_0 : w105.cell? ⟨gb187, 0, none⟩ = some (.int .i32 a0_0) := (blk_cell BK187.out 0).trans rfl; have hcz106_1 : w105.cell? ⟨gb187, 1, none⟩ = some (.int .i32 a0_1) := (blk_cell BK187.out 1).trans rfl; have hfz106_0 := blk_frozen BK187.out 0; have hfz106_1 := blk_frozen BK187.out 1))
                            go_ret
                            exact ⟨by first | rfl | (simp [errW_none, errW_some] <;> rfl) | (simp [*, errW_none, errW_some] <;> rfl), by repeat (first | (with_reducible first | exact HB.out | apply below_alloc | apply pw_below_drewN | apply below_drew1 | refine below_set ?_ GE187.out) | exact HB.out)⟩
                          · rw [if_neg c99] at H
                            have c99b0 : decide (0 ≤ a0_1) = false := decide_eq_false c99
                            clear c99
                            by_cases c107 : t193 ≤ 0
                            · rw [if_pos c107] at H
                              have c107b0 : decide (t193 ≤ 0) = true := decide_eq_true c107
                              clear c107
                              obtain rfl := Option.some.inj H
                              have hcz108_0 : wc.cell? ⟨gb187, 0, none⟩ = some (.int .i32 a0_0) := (blk_cell BK187.out 0).trans rfl
                              have hcz108_1 : wc.cell? ⟨gb187, 1, none⟩ = some (.int .i32 a0_1) := (blk_cell BK187.out 1).trans rfl
                              have hfz108_0 := blk_frozen BK187.out 0
                              have hfz108_1 := blk_frozen BK187.out 1
                              go_wp2_with (first | ((with_reducible refine gate_callee (f := 15) rfl ?_); refine goesL_ (some 55) rfl rfl Try.func15 (by kernel_rfl) rfl #[.int .i64 a1, .int .i32 a3, .agg #[.int .i32 a0_0, .int .i32 a0_1]] rfl (by (try simp only [List.map_toArray, List.map_cons, List.map_nil]); first | done | rfl | (simp only [List.length_drop, List.length_take]; rfl)) ?_; (with_reducible refine (impulse_Change.calls a1 a3 a0_0 a0_1 t192 t193 _ A34.out).mono ?_); rintro e w109 ⟨rfl, hb⟩; refine ⟨_, rfl, ?_⟩; have n0_ := Aside0.mk (blk_below (g := gb187) (o := .cells #[.int .i32 a0_0, .int .i32 a0_1] 26 (0, 0)) (by (with_reducible repeat (first | refine blk_drewN ?_ _ | refine blk_drew ?_ | refine blk_alloc ?_ _)); exact BK187.out) hb); have n1_ := Aside0.mk (below_step (by repeat (first | (with_reducible first | exact HB.out | apply below_alloc | apply pw_below_drewN | apply below_drew1 | refine below_set ?_ GE187.out) | exact HB.out)) hb); clear BK187; clear HB; have BK187 := n0_; have HB := n1_; clear n0_ n1_; (try clear hb); (try clear hb2); (try clear hk); (try clear hi); have hcz110_0 : w109.cell? ⟨gb187, 0, none⟩ = some (.int .i32 a0_0) := (blk_cell BK187.out 0).trans rfl; have hcz110_1 : w109.cell? ⟨gb187, 1, none⟩ = some (.int .i32 a0_1) := (blk_cell BK187.out 1).trans rfl; have hfz110_0 := blk_frozen BK187.out 0; have hfz110_1 := blk_frozen BK187.out 1) | ((with_reducible refine gate_callee (f := 15) rfl ?_); refine goesL_ (some 62) rfl rfl Try.func15 (by kernel_rfl) rfl #[.int .i64 a2, .int .i32 a3, .agg #[.int .i32 a0_0, .int .i32 a0_1]] rfl (by (try simp only [List.map_toArray, List.map_cons, List.map_nil]); first | done | rfl | (simp only [List.length_drop, List.length_take]; rfl)) ?_; (with_reducible refine (impulse_Change.calls a2 a3 a0_0 a0_1 t194 t195 _ A35.out).mono ?_); rintro e w111 ⟨rfl, hb⟩; refine ⟨_, rfl, ?_⟩; have n0_ := Aside0.mk (blk_below (g := gb187) (o := .cells #[.int .i32 a0_0, .int .i32 a0_1] 26 (0, 0)) (by (with_reducible repeat (first | refine blk_drewN ?_ _ | refine blk_drew ?_ | refine blk_alloc ?_ _)); exact BK187.out) hb); have n1_ := Aside0.mk (below_step (by repeat (first | (with_reducible first | exact HB.out | apply below_alloc | apply pw_below_drewN | apply below_drew1 | refine below_set ?_ GE187.out) | exact HB.out)) hb); clear BK187; clear HB; have BK187 := n0_; have HB := n1_; clear n0_ n1_; (try clear hb); (try clear hb2); (try clear hk); (try clear hi); have hcz112_0 : w111.cell? ⟨gb187, 0, none⟩ = some (.int .i32 a0_0) := (blk_cell BK187.out 0).trans rfl; have hcz112_1 : w111.cell? ⟨gb187, 1, none⟩ = some (.int .i32 a0_1) := (blk_cell BK187.out 1).trans rfl; have hfz112_0 := blk_frozen BK187.out 0; have hfz112_1 := blk_frozen BK187.out 1) | ((with_reducible refine gate_callee (f := 15) rfl ?_); refine goesL_ (some 68) rfl rfl Try.func15 (by kernel_rfl) rfl #[.int .i64 0, .int .i32 a3, .agg #[.int .i32 a0_0, .int .i32 a0_1]] rfl (by (try simp only [List.map_toArray, List.map_cons, List.map_nil]); first | done | rfl | (simp only [List.length_drop, List.length_take]; rfl)) ?_; (with_reducible refine (impulse_Change.calls 0 a3 a0_0 a0_1 t196 t197 _ A36.out).mono ?_); rintro e w113 ⟨rfl, hb⟩; refine ⟨_, rfl, ?_⟩; have n0_ := Aside0.mk (blk_below (g := gb187) (o := .cells #[.int .i32 a0_0, .int .i32 a0_1] 26 (0, 0)) (by (with_reducible repeat (first | refine blk_drewN ?_ _ | refine blk_drew ?_ | refine blk_alloc ?_ _)); exact BK187.out) hb); have n1_ := Aside0.mk (below_step (by repeat (first | (with_reducible first | exact HB.out | apply below_alloc | apply pw_below_drewN | apply below_drew1 | refine below_set ?_ GE187.out) | exact HB.out)) hb); clear BK187; clear HB; have BK187 := n0_; have HB := n1_; clear n0_ n1_; (try clear hb); (try clear hb2); (try clear hk); (try clear hi); have hcz114_0 : w113.cell? ⟨gb187, 0, none⟩ = some (.int .i32 a0_0) := (blk_cell BK187.out 0).trans rfl; have hcz114_1 : w113.cell? ⟨gb187, 1, none⟩ = some (.int .i32 a0_1) := (blk_cell BK187.out 1).trans rfl; have hfz114_0 := blk_frozen BK187.out 0; have hfz114_1 := blk_frozen BK187.out 1))
                              go_ret
                              exact ⟨by first | rfl | (simp [errW_none, errW_some] <;> rfl) | (simp [*, errW_none, errW_some] <;> rfl), by repeat (first | (with_reducible first | exact HB.out | apply below_alloc | apply pw_below_drewN | apply below_drew1 | refine below_set ?_ GE187.out) | exact HB.out)⟩
                            · rw [if_neg c107] at H
                              have c107b0 : decide (t193 ≤ 0) = false := decide_eq_false c107
                              clear c107
                              exact absurd ((Option.some.inj H).trans HR.out) (by decide)
                        · rw [if_neg c98] at H
                          have c98b0 : decide (t193 ≤ t195) = false := decide_eq_false c98
                          clear c98
                          exact absurd ((Option.some.inj H).trans HR.out) (by decide)
                      · rw [if_neg c97] at H
                        have c97b0 : decide (0 ≤ t193) = false := decide_eq_false c97
                        clear c97
                        exact absurd ((Option.some.inj H).trans HR.out) (by decide)
            · rw [if_neg c39] at H
              have c39b0 : decide (0 ≤ a0_0) = false := decide_eq_false c39
              clear c39
              by_cases c115 : a0_0 < 0
              · rw [if_pos c115] at H
                have c115b0 : decide (a0_0 < 0) = true := decide_eq_true c115
                clear c115
                by_cases c116 : t192 > 0
                · rw [if_pos c116] at H
                  have c116b0 : decide (0 < t192) = true := decide_eq_true c116
                  clear c116
                  exact absurd ((Option.some.inj H).trans HR.out) (by decide)
                · rw [if_neg c116] at H
                  have c116b0 : decide (0 < t192) = false := decide_eq_false c116
                  clear c116
                  by_cases c117 : t194 > t192
                  · rw [if_pos c117] at H
                    have c117b0 : decide (t192 < t194) = true := decide_eq_true c117
                    clear c117
                    exact absurd ((Option.some.inj H).trans HR.out) (by decide)
                  · rw [if_neg c117] at H
                    have c117b0 : decide (t192 < t194) = false := decide_eq_false c117
                    clear c117
                    by_cases c118 : a0_1 < 0
                    · rw [if_pos c118] at H
                      have c118b0 : decide (a0_1 < 0) = true := decide_eq_true c118
                      clear c118
                      by_cases c119 : a0_1 ≥ 0
                      · rw [if_pos c119] at H
                        have c119b0 : decide (0 ≤ a0_1) = true := decide_eq_true c119
                        clear c119
                        obtain rfl := Option.some.inj H
                        have hcz120_0 : wc.cell? ⟨gb187, 0, none⟩ = some (.int .i32 a0_0) := (blk_cell BK187.out 0).trans rfl
                        have hcz120_1 : wc.cell? ⟨gb187, 1, none⟩ = some (.int .i32 a0_1) := (blk_cell BK187.out 1).trans rfl
                        have hfz120_0 := blk_frozen BK187.out 0
                        have hfz120_1 := blk_frozen BK187.out 1
                        go_wp2_with (first | ((with_reducible refine gate_callee (f := 15) rfl ?_); refine goesL_ (some 55) rfl rfl Try.func15 (by kernel_rfl) rfl #[.int .i64 a1, .int .i32 a3, .agg #[.int .i32 a0_0, .int .i32 a0_1]] rfl (by (try simp only [List.map_toArray, List.map_cons, List.map_nil]); first | done | rfl | (simp only [List.length_drop, List.length_take]; rfl)) ?_; (with_reducible refine (impulse_Change.calls a1 a3 a0_0 a0_1 t192 t193 _ A34.out).mono ?_); rintro e w121 ⟨rfl, hb⟩; refine ⟨_, rfl, ?_⟩; have n0_ := Aside0.mk (blk_below (g := gb187) (o := .cells #[.int .i32 a0_0, .int .i32 a0_1] 26 (0, 0)) (by (with_reducible repeat (first | refine blk_drewN ?_ _ | refine blk_drew ?_ | refine blk_alloc ?_ _)); exact BK187.out) hb); have n1_ := Aside0.mk (below_step (by repeat (first | (with_reducible first | exact HB.out | apply below_alloc | apply pw_below_drewN | apply below_drew1 | refine below_set ?_ GE187.out) | exact HB.out)) hb); clear BK187; clear HB; have BK187 := n0_; have HB := n1_; clear n0_ n1_; (try clear hb); (try clear hb2); (try clear hk); (try clear hi); have hcz122_0 : w121.cell? ⟨gb187, 0, none⟩ = some (.int .i32 a0_0) := (blk_cell BK187.out 0).trans rfl; have hcz122_1 : w121.cell? ⟨gb187, 1, none⟩ = some (.int .i32 a0_1) := (blk_cell BK187.out 1).trans rfl; have hfz122_0 := blk_frozen BK187.out 0; have hfz122_1 := blk_frozen BK187.out 1) | ((with_reducible refine gate_callee (f := 15) rfl ?_); refine goesL_ (some 62) rfl rfl Try.func15 (by kernel_rfl) rfl #[.int .i64 a2, .int .i32 a3, .agg #[.int .i32 a0_0, .int .i32 a0_1]] rfl (by (try simp only [List.map_toArray, List.map_cons, List.map_nil]); first | done | rfl | (simp only [List.length_drop, List.length_take]; rfl)) ?_; (with_reducible refine (impulse_Change.calls a2 a3 a0_0 a0_1 t194 t195 _ A35.out).mono ?_); rintro e w123 ⟨rfl, hb⟩; refine ⟨_, rfl, ?_⟩; have n0_ := Aside0.mk (blk_below (g := gb187) (o := .cells #[.int .i32 a0_0, .int .i32 a0_1] 26 (0, 0)) (by (with_reducible repeat (first | refine blk_drewN ?_ _ | refine blk_drew ?_ | refine blk_alloc ?_ _)); exact BK187.out) hb); have n1_ := Aside0.mk (below_step (by repeat (first | (with_reducible first | exact HB.out | apply below_alloc | apply pw_below_drewN | apply below_drew1 | refine below_set ?_ GE187.out) | exact HB.out)) hb); clear BK187; clear HB; have BK187 := n0_; have HB := n1_; clear n0_ n1_; (try clear hb); (try clear hb2); (try clear hk); (try clear hi); have hcz124_0 : w123.cell? ⟨gb187, 0, none⟩ = some (.int .i32 a0_0) := (blk_cell BK187.out 0).trans rfl; have hcz124_1 : w123.cell? ⟨gb187, 1, none⟩ = some (.int .i32 a0_1) := (blk_cell BK187.out 1).trans rfl; have hfz124_0 := blk_frozen BK187.out 0; have hfz124_1 := blk_frozen BK187.out 1) | ((with_reducible refine gate_callee (f := 15) rfl ?_); refine goesL_ (some 68) rfl rfl Try.func15 (by kernel_rfl) rfl #[.int .i64 0, .int .i32 a3, .agg #[.int .i32 a0_0, .int .i32 a0_1]] rfl (by (try simp only [List.map_toArray, List.map_cons, List.map_nil]); first | done | rfl | (simp only [List.length_drop, List.length_take]; rfl)) ?_; (with_reducible refine (impulse_Change.calls 0 a3 a0_0 a0_1 t196 t197 _ A36.out).mono ?_); rintro e w125 ⟨rfl, hb⟩; refine ⟨_, rfl, ?_⟩; have n0_ := Aside0.mk (blk_below (g := gb187) (o := .cells #[.int .i32 a0_0, .int .i32 a0_1] 26 (0, 0)) (by (with_reducible repeat (first | refine blk_drewN ?_ _ | refine blk_drew ?_ | refine blk_alloc ?_ _)); exact BK187.out) hb); have n1_ := Aside0.mk (below_step (by repeat (first | (with_reducible first | exact HB.out | apply below_alloc | apply pw_below_drewN | apply below_drew1 | refine below_set ?_ GE187.out) | exact HB.out)) hb); clear BK187; clear HB; have BK187 := n0_; have HB := n1_; clear n0_ n1_; (try clear hb); (try clear hb2); (try clear hk); (try clear hi); have hcz126_0 : w125.cell? ⟨gb187, 0, none⟩ = some (.int .i32 a0_0) := (blk_cell BK187.out 0).trans rfl; have hcz126_1 : w125.cell? ⟨gb187, 1, none⟩ = some (.int .i32 a0_1) := (blk_cell BK187.out 1).trans rfl; have hfz126_0 := blk_frozen BK187.out 0; have hfz126_1 := blk_frozen BK187.out 1))
                        go_ret
                        exact ⟨by first | rfl | (simp [errW_none, errW_some] <;> rfl) | (simp [*, errW_none, errW_some] <;> rfl), by repeat (first | (with_reducible first | exact HB.out | apply below_alloc | apply pw_below_drewN | apply below_drew1 | refine below_set ?_ GE187.out) | exact HB.out)⟩
                      · rw [if_neg c119] at H
                        have c119b0 : decide (0 ≤ a0_1) = false := decide_eq_false c119
                        clear c119
                        by_cases c127 : t193 ≤ 0
                        · rw [if_pos c127] at H
                          have c127b0 : decide (t193 ≤ 0) = true := decide_eq_true c127
                          clear c127
                          obtain rfl := Option.some.inj H
                          have hcz128_0 : wc.cell? ⟨gb187, 0, none⟩ = some (.int .i32 a0_0) := (blk_cell BK187.out 0).trans rfl
                          have hcz128_1 : wc.cell? ⟨gb187, 1, none⟩ = some (.int .i32 a0_1) := (blk_cell BK187.out 1).trans rfl
                          have hfz128_0 := blk_frozen BK187.out 0
                          have hfz128_1 := blk_frozen BK187.out 1
                          go_wp2_with (first | ((with_reducible refine gate_callee (f := 15) rfl ?_); refine goesL_ (some 55) rfl rfl Try.func15 (by kernel_rfl) rfl #[.int .i64 a1, .int .i32 a3, .agg #[.int .i32 a0_0, .int .i32 a0_1]] rfl (by (try simp only [List.map_toArray, List.map_cons, List.map_nil]); first | done | rfl | (simp only [List.length_drop, List.length_take]; rfl)) ?_; (with_reducible refine (impulse_Change.calls a1 a3 a0_0 a0_1 t192 t193 _ A34.out).mono ?_); rintro e w129 ⟨rfl, hb⟩; refine ⟨_, rfl, ?_⟩; have n0_ := Aside0.mk (blk_below (g := gb187) (o := .cells #[.int .i32 a0_0, .int .i32 a0_1] 26 (0, 0)) (by (with_reducible repeat (first | refine blk_drewN ?_ _ | refine blk_drew ?_ | refine blk_alloc ?_ _)); exact BK187.out) hb); have n1_ := Aside0.mk (below_step (by repeat (first | (with_reducible first | exact HB.out | apply below_alloc | apply pw_below_drewN | apply below_drew1 | refine below_set ?_ GE187.out) | exact HB.out)) hb); clear BK187; clear HB; have BK187 := n0_; have HB := n1_; clear n0_ n1_; (try clear hb); (try clear hb2); (try clear hk); (try clear hi); have hcz130_0 : w129.cell? ⟨gb187, 0, none⟩ = some (.int .i32 a0_0) := (blk_cell BK187.out 0).trans rfl; have hcz130_1 : w129.cell? ⟨gb187, 1, none⟩ = some (.int .i32 a0_1) := (blk_cell BK187.out 1).trans rfl; have hfz130_0 := blk_frozen BK187.out 0; have hfz130_1 := blk_frozen BK187.out 1) | ((with_reducible refine gate_callee (f := 15) rfl ?_); refine goesL_ (some 62) rfl rfl Try.func15 (by kernel_rfl) rfl #[.int .i64 a2, .int .i32 a3, .agg #[.int .i32 a0_0, .int .i32 a0_1]] rfl (by (try simp only [List.map_toArray, List.map_cons, List.map_nil]); first | done | rfl | (simp only [List.length_drop, List.length_take]; rfl)) ?_; (with_reducible refine (impulse_Change.calls a2 a3 a0_0 a0_1 t194 t195 _ A35.out).mono ?_); rintro e w131 ⟨rfl, hb⟩; refine ⟨_, rfl, ?_⟩; have n0_ := Aside0.mk (blk_below (g := gb187) (o := .cells #[.int .i32 a0_0, .int .i32 a0_1] 26 (0, 0)) (by (with_reducible repeat (first | refine blk_drewN ?_ _ | refine blk_drew ?_ | refine blk_alloc ?_ _)); exact BK187.out) hb); have n1_ := Aside0.mk (below_step (by repeat (first | (with_reducible first | exact HB.out | apply below_alloc | apply pw_below_drewN | apply below_drew1 | refine below_set ?_ GE187.out) | exact HB.out)) hb); clear BK187; clear HB; have BK187 := n0_; have HB := n1_; clear n0_ n1_; (try clear hb); (try clear hb2); (try clear hk); (try clear hi); have hcz132_0 : w131.cell? ⟨gb187, 0, none⟩ = some (.int .i32 a0_0) := (blk_cell BK187.out 0).trans rfl; have hcz132_1 : w131.cell? ⟨gb187, 1, none⟩ = some (.int .i32 a0_1) := (blk_cell BK187.out 1).trans rfl; have hfz132_0 := blk_frozen BK187.out 0; have hfz132_1 := blk_frozen BK187.out 1) | ((with_reducible refine gate_callee (f := 15) rfl ?_); refine goesL_ (some 68) rfl rfl Try.func15 (by kernel_rfl) rfl #[.int .i64 0, .int .i32 a3, .agg #[.int .i32 a0_0, .int .i32 a0_1]] rfl (by (try simp only [List.map_toArray, List.map_cons, List.map_nil]); first | done | rfl | (simp only [List.length_drop, List.length_take]; rfl)) ?_; (with_reducible refine (impulse_Change.calls 0 a3 a0_0 a0_1 t196 t197 _ A36.out).mono ?_); rintro e w133 ⟨rfl, hb⟩; refine ⟨_, rfl, ?_⟩; have n0_ := Aside0.mk (blk_below (g := gb187) (o := .cells #[.int .i32 a0_0, .int .i32 a0_1] 26 (0, 0)) (by (with_reducible repeat (first | refine blk_drewN ?_ _ | refine blk_drew ?_ | refine blk_alloc ?_ _)); exact BK187.out) hb); have n1_ := Aside0.mk (below_step (by repeat (first | (with_reducible first | exact HB.out | apply below_alloc | apply pw_below_drewN | apply below_drew1 | refine below_set ?_ GE187.out) | exact HB.out)) hb); clear BK187; clear HB; have BK187 := n0_; have HB := n1_; clear n0_ n1_; (try clear hb); (try clear hb2); (try clear hk); (try clear hi); have hcz134_0 : w133.cell? ⟨gb187, 0, none⟩ = some (.int .i32 a0_0) := (blk_cell BK187.out 0).trans rfl; have hcz134_1 : w133.cell? ⟨gb187, 1, none⟩ = some (.int .i32 a0_1) := (blk_cell BK187.out 1).trans rfl; have hfz134_0 := blk_frozen BK187.out 0; have hfz134_1 := blk_frozen BK187.out 1))
                          go_ret
                          exact ⟨by first | rfl | (simp [errW_none, errW_some] <;> rfl) | (simp [*, errW_none, errW_some] <;> rfl), by repeat (first | (with_reducible first | exact HB.out | apply below_alloc | apply pw_below_drewN | apply below_drew1 | refine below_set ?_ GE187.out) | exact HB.out)⟩
                        · rw [if_neg c127] at H
                          have c127b0 : decide (t193 ≤ 0) = false := decide_eq_false c127
                          clear c127
                          exact absurd ((Option.some.inj H).trans HR.out) (by decide)
                    · rw [if_neg c118] at H
                      have c118b0 : decide (a0_1 < 0) = false := decide_eq_false c118
                      clear c118
                      by_cases c135 : t193 ≥ 0
                      · rw [if_pos c135] at H
                        have c135b0 : decide (0 ≤ t193) = true := decide_eq_true c135
                        clear c135
                        by_cases c136 : t195 ≥ t193
                        · rw [if_pos c136] at H
                          have c136b0 : decide (t193 ≤ t195) = true := decide_eq_true c136
                          clear c136
                          by_cases c137 : a0_1 ≥ 0
                          · rw [if_pos c137] at H
                            have c137b0 : decide (0 ≤ a0_1) = true := decide_eq_true c137
                            clear c137
                            obtain rfl := Option.some.inj H
                            have hcz138_0 : wc.cell? ⟨gb187, 0, none⟩ = some (.int .i32 a0_0) := (blk_cell BK187.out 0).trans rfl
                            have hcz138_1 : wc.cell? ⟨gb187, 1, none⟩ = some (.int .i32 a0_1) := (blk_cell BK187.out 1).trans rfl
                            have hfz138_0 := blk_frozen BK187.out 0
                            have hfz138_1 := blk_frozen BK187.out 1
                            go_wp2_with (first | ((with_reducible refine gate_callee (f := 15) rfl ?_); refine goesL_ (some 55) rfl rfl Try.func15 (by kernel_rfl) rfl #[.int .i64 a1, .int .i32 a3, .agg #[.int .i32 a0_0, .int .i32 a0_1]] rfl (by (try simp only [List.map_toArray, List.map_cons, List.map_nil]); first | done | rfl | (simp only [List.length_drop, List.length_take]; rfl)) ?_; (with_reducible refine (impulse_Change.calls a1 a3 a0_0 a0_1 t192 t193 _ A34.out).mono ?_); rintro e w139 ⟨rfl, hb⟩; refine ⟨_, rfl, ?_⟩; have n0_ := Aside0.mk (blk_below (g := gb187) (o := .cells #[.int .i32 a0_0, .int .i32 a0_1] 26 (0, 0)) (by (with_reducible repeat (first | refine blk_drewN ?_ _ | refine blk_drew ?_ | refine blk_alloc ?_ _)); exact BK187.out) hb); have n1_ := Aside0.mk (below_step (by repeat (first | (with_reducible first | exact HB.out | apply below_alloc | apply pw_below_drewN | apply below_drew1 | refine below_set ?_ GE187.out) | exact HB.out)) hb); clear BK187; clear HB; have BK187 := n0_; have HB := n1_; clear n0_ n1_; (try clear hb); (try clear hb2); (try clear hk); (try clear hi); have hcz140_0 : w139.cell? ⟨gb187, 0, none⟩ = some (.int .i32 a0_0) := (blk_cell BK187.out 0).trans rfl; have hcz140_1 : w139.cell? ⟨gb187, 1, none⟩ = some (.int .i32 a0_1) := (blk_cell BK187.out 1).trans rfl; have hfz140_0 := blk_frozen BK187.out 0; have hfz140_1 := blk_frozen BK187.out 1) | ((with_reducible refine gate_callee (f := 15) rfl ?_); refine goesL_ (some 62) rfl rfl Try.func15 (by kernel_rfl) rfl #[.int .i64 a2, .int .i32 a3, .agg #[.int .i32 a0_0, .int .i32 a0_1]] rfl (by (try simp only [List.map_toArray, List.map_cons, List.map_nil]); first | done | rfl | (simp only [List.length_drop, List.length_take]; rfl)) ?_; (with_reducible refine (impulse_Change.calls a2 a3 a0_0 a0_1 t194 t195 _ A35.out).mono ?_); rintro e w141 ⟨rfl, hb⟩; refine ⟨_, rfl, ?_⟩; have n0_ := Aside0.mk (blk_below (g := gb187) (o := .cells #[.int .i32 a0_0, .int .i32 a0_1] 26 (0, 0)) (by (with_reducible repeat (first | refine blk_drewN ?_ _ | refine blk_drew ?_ | refine blk_alloc ?_ _)); exact BK187.out) hb); have n1_ := Aside0.mk (below_step (by repeat (first | (with_reducible first | exact HB.out | apply below_alloc | apply pw_below_drewN | apply below_drew1 | refine below_set ?_ GE187.out) | exact HB.out)) hb); clear BK187; clear HB; have BK187 := n0_; have HB := n1_; clear n0_ n1_; (try clear hb); (try clear hb2); (try clear hk); (try clear hi); have hcz142_0 : w141.cell? ⟨gb187, 0, none⟩ = some (.int .i32 a0_0) := (blk_cell BK187.out 0).trans rfl; have hcz142_1 : w141.cell? ⟨gb187, 1, none⟩ = some (.int .i32 a0_1) := (blk_cell BK187.out 1).trans rfl; have hfz142_0 := blk_frozen BK187.out 0; have hfz142_1 := blk_frozen BK187.out 1) | ((with_reducible refine gate_callee (f := 15) rfl ?_); refine goesL_ (some 68) rfl rfl Try.func15 (by kernel_rfl) rfl #[.int .i64 0, .int .i32 a3, .agg #[.int .i32 a0_0, .int .i32 a0_1]] rfl (by (try simp only [List.map_toArray, List.map_cons, List.map_nil]); first | done | rfl | (simp only [List.length_drop, List.length_take]; rfl)) ?_; (with_reducible refine (impulse_Change.calls 0 a3 a0_0 a0_1 t196 t197 _ A36.out).mono ?_); rintro e w143 ⟨rfl, hb⟩; refine ⟨_, rfl, ?_⟩; have n0_ := Aside0.mk (blk_below (g := gb187) (o := .cells #[.int .i32 a0_0, .int .i32 a0_1] 26 (0, 0)) (by (with_reducible repeat (first | refine blk_drewN ?_ _ | refine blk_drew ?_ | refine blk_alloc ?_ _)); exact BK187.out) hb); have n1_ := Aside0.mk (below_step (by repeat (first | (with_reducible first | exact HB.out | apply below_alloc | apply pw_below_drewN | apply below_drew1 | refine below_set ?_ GE187.out) | exact HB.out)) hb); clear BK187; clear HB; have BK187 := n0_; have HB := n1_; clear n0_ n1_; (try clear hb); (try clear hb2); (try clear hk); (try clear hi); have hcz144_0 : w143.cell? ⟨gb187, 0, none⟩ = some (.int .i32 a0_0) := (blk_cell BK187.out 0).trans rfl; have hcz144_1 : w143.cell? ⟨gb187, 1, none⟩ = some (.int .i32 a0_1) := (blk_cell BK187.out 1).trans rfl; have hfz144_0 := blk_frozen BK187.out 0; have hfz144_1 := blk_frozen BK187.out 1))
                            go_ret
                            exact ⟨by first | rfl | (simp [errW_none, errW_some] <;> rfl) | (simp [*, errW_none, errW_some] <;> rfl), by repeat (first | (with_reducible first | exact HB.out | apply below_alloc | apply pw_below_drewN | apply below_drew1 | refine below_set ?_ GE187.out) | exact HB.out)⟩
                          · rw [if_neg c137] at H
                            have c137b0 : decide (0 ≤ a0_1) = false := decide_eq_false c137
                            clear c137
                            by_cases c145 : t193 ≤ 0
                            · rw [if_pos c145] at H
                              have c145b0 : decide (t193 ≤ 0) = true := decide_eq_true c145
                              clear c145
                              obtain rfl := Option.some.inj H
                              have hcz146_0 : wc.cell? ⟨gb187, 0, none⟩ = some (.int .i32 a0_0) := (blk_cell BK187.out 0).trans rfl
                              have hcz146_1 : wc.cell? ⟨gb187, 1, none⟩ = some (.int .i32 a0_1) := (blk_cell BK187.out 1).trans rfl
                              have hfz146_0 := blk_frozen BK187.out 0
                              have hfz146_1 := blk_frozen BK187.out 1
                              go_wp2_with (first | ((with_reducible refine gate_callee (f := 15) rfl ?_); refine goesL_ (some 55) rfl rfl Try.func15 (by kernel_rfl) rfl #[.int .i64 a1, .int .i32 a3, .agg #[.int .i32 a0_0, .int .i32 a0_1]] rfl (by (try simp only [List.map_toArray, List.map_cons, List.map_nil]); first | done | rfl | (simp only [List.length_drop, List.length_take]; rfl)) ?_; (with_reducible refine (impulse_Change.calls a1 a3 a0_0 a0_1 t192 t193 _ A34.out).mono ?_); rintro e w147 ⟨rfl, hb⟩; refine ⟨_, rfl, ?_⟩; have n0_ := Aside0.mk (blk_below (g := gb187) (o := .cells #[.int .i32 a0_0, .int .i32 a0_1] 26 (0, 0)) (by (with_reducible repeat (first | refine blk_drewN ?_ _ | refine blk_drew ?_ | refine blk_alloc ?_ _)); exact BK187.out) hb); have n1_ := Aside0.mk (below_step (by repeat (first | (with_reducible first | exact HB.out | apply below_alloc | apply pw_below_drewN | apply below_drew1 | refine below_set ?_ GE187.out) | exact HB.out)) hb); clear BK187; clear HB; have BK187 := n0_; have HB := n1_; clear n0_ n1_; (try clear hb); (try clear hb2); (try clear hk); (try clear hi); have hcz148_0 : w147.cell? ⟨gb187, 0, none⟩ = some (.int .i32 a0_0) := (blk_cell BK187.out 0).trans rfl; have hcz148_1 : w147.cell? ⟨gb187, 1, none⟩ = some (.int .i32 a0_1) := (blk_cell BK187.out 1).trans rfl; have hfz148_0 := blk_frozen BK187.out 0; have hfz148_1 := blk_frozen BK187.out 1) | ((with_reducible refine gate_callee (f := 15) rfl ?_); refine goesL_ (some 62) rfl rfl Try.func15 (by kernel_rfl) rfl #[.int .i64 a2, .int .i32 a3, .agg #[.int .i32 a0_0, .int .i32 a0_1]] rfl (by (try simp only [List.map_toArray, List.map_cons, List.map_nil]); first | done | rfl | (simp only [List.length_drop, List.length_take]; rfl)) ?_; (with_reducible refine (impulse_Change.calls a2 a3 a0_0 a0_1 t194 t195 _ A35.out).mono ?_); rintro e w149 ⟨rfl, hb⟩; refine ⟨_, rfl, ?_⟩; have n0_ := Aside0.mk (blk_below (g := gb187) (o := .cells #[.int .i32 a0_0, .int .i32 a0_1] 26 (0, 0)) (by (with_reducible repeat (first | refine blk_drewN ?_ _ | refine blk_drew ?_ | refine blk_alloc ?_ _)); exact BK187.out) hb); have n1_ := Aside0.mk (below_step (by repeat (first | (with_reducible first | exact HB.out | apply below_alloc | apply pw_below_drewN | apply below_drew1 | refine below_set ?_ GE187.out) | exact HB.out)) hb); clear BK187; clear HB; have BK187 := n0_; have HB := n1_; clear n0_ n1_; (try clear hb); (try clear hb2); (try clear hk); (try clear hi); have hcz150_0 : w149.cell? ⟨gb187, 0, none⟩ = some (.int .i32 a0_0) := (blk_cell BK187.out 0).trans rfl; have hcz150_1 : w149.cell? ⟨gb187, 1, none⟩ = some (.int .i32 a0_1) := (blk_cell BK187.out 1).trans rfl; have hfz150_0 := blk_frozen BK187.out 0; have hfz150_1 := blk_frozen BK187.out 1) | ((with_reducible refine gate_callee (f := 15) rfl ?_); refine goesL_ (some 68) rfl rfl Try.func15 (by kernel_rfl) rfl #[.int .i64 0, .int .i32 a3, .agg #[.int .i32 a0_0, .int .i32 a0_1]] rfl (by (try simp only [List.map_toArray, List.map_cons, List.map_nil]); first | done | rfl | (simp only [List.length_drop, List.length_take]; rfl)) ?_; (with_reducible refine (impulse_Change.calls 0 a3 a0_0 a0_1 t196 t197 _ A36.out).mono ?_); rintro e w151 ⟨rfl, hb⟩; refine ⟨_, rfl, ?_⟩; have n0_ := Aside0.mk (blk_below (g := gb187) (o := .cells #[.int .i32 a0_0, .int .i32 a0_1] 26 (0, 0)) (by (with_reducible repeat (first | refine blk_drewN ?_ _ | refine blk_drew ?_ | refine blk_alloc ?_ _)); exact BK187.out) hb); have n1_ := Aside0.mk (below_step (by repeat (first | (with_reducible first | exact HB.out | apply below_alloc | apply pw_below_drewN | apply below_drew1 | refine below_set ?_ GE187.out) | exact HB.out)) hb); clear BK187; clear HB; have BK187 := n0_; have HB := n1_; clear n0_ n1_; (try clear hb); (try clear hb2); (try clear hk); (try clear hi); have hcz152_0 : w151.cell? ⟨gb187, 0, none⟩ = some (.int .i32 a0_0) := (blk_cell BK187.out 0).trans rfl; have hcz152_1 : w151.cell? ⟨gb187, 1, none⟩ = some (.int .i32 a0_1) := (blk_cell BK187.out 1).trans rfl; have hfz152_0 := blk_frozen BK187.out 0; have hfz152_1 := blk_frozen BK187.out 1))
                              go_ret
                              exact ⟨by first | rfl | (simp [errW_none, errW_some] <;> rfl) | (simp [*, errW_none, errW_some] <;> rfl), by repeat (first | (with_reducible first | exact HB.out | apply below_alloc | apply pw_below_drewN | apply below_drew1 | refine below_set ?_ GE187.out) | exact HB.out)⟩
                            · rw [if_neg c145] at H
                              have c145b0 : decide (t193 ≤ 0) = false := decide_eq_false c145
                              clear c145
                              exact absurd ((Option.some.inj H).trans HR.out) (by decide)
                        · rw [if_neg c136] at H
                          have c136b0 : decide (t193 ≤ t195) = false := decide_eq_false c136
                          clear c136
                          exact absurd ((Option.some.inj H).trans HR.out) (by decide)
                      · rw [if_neg c135] at H
                        have c135b0 : decide (0 ≤ t193) = false := decide_eq_false c135
                        clear c135
                        exact absurd ((Option.some.inj H).trans HR.out) (by decide)
              · rw [if_neg c115] at H
                have c115b0 : decide (a0_0 < 0) = false := decide_eq_false c115
                clear c115
                by_cases c153 : a0_1 < 0
                · rw [if_pos c153] at H
                  have c153b0 : decide (a0_1 < 0) = true := decide_eq_true c153
                  clear c153
                  by_cases c154 : a0_1 ≥ 0
                  · rw [if_pos c154] at H
                    have c154b0 : decide (0 ≤ a0_1) = true := decide_eq_true c154
                    clear c154
                    obtain rfl := Option.some.inj H
                    have hcz155_0 : wc.cell? ⟨gb187, 0, none⟩ = some (.int .i32 a0_0) := (blk_cell BK187.out 0).trans rfl
                    have hcz155_1 : wc.cell? ⟨gb187, 1, none⟩ = some (.int .i32 a0_1) := (blk_cell BK187.out 1).trans rfl
                    have hfz155_0 := blk_frozen BK187.out 0
                    have hfz155_1 := blk_frozen BK187.out 1
                    go_wp2_with (first | ((with_reducible refine gate_callee (f := 15) rfl ?_); refine goesL_ (some 55) rfl rfl Try.func15 (by kernel_rfl) rfl #[.int .i64 a1, .int .i32 a3, .agg #[.int .i32 a0_0, .int .i32 a0_1]] rfl (by (try simp only [List.map_toArray, List.map_cons, List.map_nil]); first | done | rfl | (simp only [List.length_drop, List.length_take]; rfl)) ?_; (with_reducible refine (impulse_Change.calls a1 a3 a0_0 a0_1 t192 t193 _ A34.out).mono ?_); rintro e w156 ⟨rfl, hb⟩; refine ⟨_, rfl, ?_⟩; have n0_ := Aside0.mk (blk_below (g := gb187) (o := .cells #[.int .i32 a0_0, .int .i32 a0_1] 26 (0, 0)) (by (with_reducible repeat (first | refine blk_drewN ?_ _ | refine blk_drew ?_ | refine blk_alloc ?_ _)); exact BK187.out) hb); have n1_ := Aside0.mk (below_step (by repeat (first | (with_reducible first | exact HB.out | apply below_alloc | apply pw_below_drewN | apply below_drew1 | refine below_set ?_ GE187.out) | exact HB.out)) hb); clear BK187; clear HB; have BK187 := n0_; have HB := n1_; clear n0_ n1_; (try clear hb); (try clear hb2); (try clear hk); (try clear hi); have hcz157_0 : w156.cell? ⟨gb187, 0, none⟩ = some (.int .i32 a0_0) := (blk_cell BK187.out 0).trans rfl; have hcz157_1 : w156.cell? ⟨gb187, 1, none⟩ = some (.int .i32 a0_1) := (blk_cell BK187.out 1).trans rfl; have hfz157_0 := blk_frozen BK187.out 0; have hfz157_1 := blk_frozen BK187.out 1) | ((with_reducible refine gate_callee (f := 15) rfl ?_); refine goesL_ (some 62) rfl rfl Try.func15 (by kernel_rfl) rfl #[.int .i64 a2, .int .i32 a3, .agg #[.int .i32 a0_0, .int .i32 a0_1]] rfl (by (try simp only [List.map_toArray, List.map_cons, List.map_nil]); first | done | rfl | (simp only [List.length_drop, List.length_take]; rfl)) ?_; (with_reducible refine (impulse_Change.calls a2 a3 a0_0 a0_1 t194 t195 _ A35.out).mono ?_); rintro e w158 ⟨rfl, hb⟩; refine ⟨_, rfl, ?_⟩; have n0_ := Aside0.mk (blk_below (g := gb187) (o := .cells #[.int .i32 a0_0, .int .i32 a0_1] 26 (0, 0)) (by (with_reducible repeat (first | refine blk_drewN ?_ _ | refine blk_drew ?_ | refine blk_alloc ?_ _)); exact BK187.out) hb); have n1_ := Aside0.mk (below_step (by repeat (first | (with_reducible first | exact HB.out | apply below_alloc | apply pw_below_drewN | apply below_drew1 | refine below_set ?_ GE187.out) | exact HB.out)) hb); clear BK187; clear HB; have BK187 := n0_; have HB := n1_; clear n0_ n1_; (try clear hb); (try clear hb2); (try clear hk); (try clear hi); have hcz159_0 : w158.cell? ⟨gb187, 0, none⟩ = some (.int .i32 a0_0) := (blk_cell BK187.out 0).trans rfl; have hcz159_1 : w158.cell? ⟨gb187, 1, none⟩ = some (.int .i32 a0_1) := (blk_cell BK187.out 1).trans rfl; have hfz159_0 := blk_frozen BK187.out 0; have hfz159_1 := blk_frozen BK187.out 1) | ((with_reducible refine gate_callee (f := 15) rfl ?_); refine goesL_ (some 68) rfl rfl Try.func15 (by kernel_rfl) rfl #[.int .i64 0, .int .i32 a3, .agg #[.int .i32 a0_0, .int .i32 a0_1]] rfl (by (try simp only [List.map_toArray, List.map_cons, List.map_nil]); first | done | rfl | (simp only [List.length_drop, List.length_take]; rfl)) ?_; (with_reducible refine (impulse_Change.calls 0 a3 a0_0 a0_1 t196 t197 _ A36.out).mono ?_); rintro e w160 ⟨rfl, hb⟩; refine ⟨_, rfl, ?_⟩; have n0_ := Aside0.mk (blk_below (g := gb187) (o := .cells #[.int .i32 a0_0, .int .i32 a0_1] 26 (0, 0)) (by (with_reducible repeat (first | refine blk_drewN ?_ _ | refine blk_drew ?_ | refine blk_alloc ?_ _)); exact BK187.out) hb); have n1_ := Aside0.mk (below_step (by repeat (first | (with_reducible first | exact HB.out | apply below_alloc | apply pw_below_drewN | apply below_drew1 | refine below_set ?_ GE187.out) | exact HB.out)) hb); clear BK187; clear HB; have BK187 := n0_; have HB := n1_; clear n0_ n1_; (try clear hb); (try clear hb2); (try clear hk); (try clear hi); have hcz161_0 : w160.cell? ⟨gb187, 0, none⟩ = some (.int .i32 a0_0) := (blk_cell BK187.out 0).trans rfl; have hcz161_1 : w160.cell? ⟨gb187, 1, none⟩ = some (.int .i32 a0_1) := (blk_cell BK187.out 1).trans rfl; have hfz161_0 := blk_frozen BK187.out 0; have hfz161_1 := blk_frozen BK187.out 1))
                    go_ret
                    exact ⟨by first | rfl | (simp [errW_none, errW_some] <;> rfl) | (simp [*, errW_none, errW_some] <;> rfl), by repeat (first | (with_reducible first | exact HB.out | apply below_alloc | apply pw_below_drewN | apply below_drew1 | refine below_set ?_ GE187.out) | exact HB.out)⟩
                  · rw [if_neg c154] at H
                    have c154b0 : decide (0 ≤ a0_1) = false := decide_eq_false c154
                    clear c154
                    by_cases c162 : t193 ≤ 0
                    · rw [if_pos c162] at H
                      have c162b0 : decide (t193 ≤ 0) = true := decide_eq_true c162
                      clear c162
                      obtain rfl := Option.some.inj H
                      have hcz163_0 : wc.cell? ⟨gb187, 0, none⟩ = some (.int .i32 a0_0) := (blk_cell BK187.out 0).trans rfl
                      have hcz163_1 : wc.cell? ⟨gb187, 1, none⟩ = some (.int .i32 a0_1) := (blk_cell BK187.out 1).trans rfl
                      have hfz163_0 := blk_frozen BK187.out 0
                      have hfz163_1 := blk_frozen BK187.out 1
                      go_wp2_with (first | ((with_reducible refine gate_callee (f := 15) rfl ?_); refine goesL_ (some 55) rfl rfl Try.func15 (by kernel_rfl) rfl #[.int .i64 a1, .int .i32 a3, .agg #[.int .i32 a0_0, .int .i32 a0_1]] rfl (by (try simp only [List.map_toArray, List.map_cons, List.map_nil]); first | done | rfl | (simp only [List.length_drop, List.length_take]; rfl)) ?_; (with_reducible refine (impulse_Change.calls a1 a3 a0_0 a0_1 t192 t193 _ A34.out).mono ?_); rintro e w164 ⟨rfl, hb⟩; refine ⟨_, rfl, ?_⟩; have n0_ := Aside0.mk (blk_below (g := gb187) (o := .cells #[.int .i32 a0_0, .int .i32 a0_1] 26 (0, 0)) (by (with_reducible repeat (first | refine blk_drewN ?_ _ | refine blk_drew ?_ | refine blk_alloc ?_ _)); exact BK187.out) hb); have n1_ := Aside0.mk (below_step (by repeat (first | (with_reducible first | exact HB.out | apply below_alloc | apply pw_below_drewN | apply below_drew1 | refine below_set ?_ GE187.out) | exact HB.out)) hb); clear BK187; clear HB; have BK187 := n0_; have HB := n1_; clear n0_ n1_; (try clear hb); (try clear hb2); (try clear hk); (try clear hi); have hcz165_0 : w164.cell? ⟨gb187, 0, none⟩ = some (.int .i32 a0_0) := (blk_cell BK187.out 0).trans rfl; have hcz165_1 : w164.cell? ⟨gb187, 1, none⟩ = some (.int .i32 a0_1) := (blk_cell BK187.out 1).trans rfl; have hfz165_0 := blk_frozen BK187.out 0; have hfz165_1 := blk_frozen BK187.out 1) | ((with_reducible refine gate_callee (f := 15) rfl ?_); refine goesL_ (some 62) rfl rfl Try.func15 (by kernel_rfl) rfl #[.int .i64 a2, .int .i32 a3, .agg #[.int .i32 a0_0, .int .i32 a0_1]] rfl (by (try simp only [List.map_toArray, List.map_cons, List.map_nil]); first | done | rfl | (simp only [List.length_drop, List.length_take]; rfl)) ?_; (with_reducible refine (impulse_Change.calls a2 a3 a0_0 a0_1 t194 t195 _ A35.out).mono ?_); rintro e w166 ⟨rfl, hb⟩; refine ⟨_, rfl, ?_⟩; have n0_ := Aside0.mk (blk_below (g := gb187) (o := .cells #[.int .i32 a0_0, .int .i32 a0_1] 26 (0, 0)) (by (with_reducible repeat (first | refine blk_drewN ?_ _ | refine blk_drew ?_ | refine blk_alloc ?_ _)); exact BK187.out) hb); have n1_ := Aside0.mk (below_step (by repeat (first | (with_reducible first | exact HB.out | apply below_alloc | apply pw_below_drewN | apply below_drew1 | refine below_set ?_ GE187.out) | exact HB.out)) hb); clear BK187; clear HB; have BK187 := n0_; have HB := n1_; clear n0_ n1_; (try clear hb); (try clear hb2); (try clear hk); (try clear hi); have hcz167_0 : w166.cell? ⟨gb187, 0, none⟩ = some (.int .i32 a0_0) := (blk_cell BK187.out 0).trans rfl; have hcz167_1 : w166.cell? ⟨gb187, 1, none⟩ = some (.int .i32 a0_1) := (blk_cell BK187.out 1).trans rfl; have hfz167_0 := blk_frozen BK187.out 0; have hfz167_1 := blk_frozen BK187.out 1) | ((with_reducible refine gate_callee (f := 15) rfl ?_); refine goesL_ (some 68) rfl rfl Try.func15 (by kernel_rfl) rfl #[.int .i64 0, .int .i32 a3, .agg #[.int .i32 a0_0, .int .i32 a0_1]] rfl (by (try simp only [List.map_toArray, List.map_cons, List.map_nil]); first | done | rfl | (simp only [List.length_drop, List.length_take]; rfl)) ?_; (with_reducible refine (impulse_Change.calls 0 a3 a0_0 a0_1 t196 t197 _ A36.out).mono ?_); rintro e w168 ⟨rfl, hb⟩; refine ⟨_, rfl, ?_⟩; have n0_ := Aside0.mk (blk_below (g := gb187) (o := .cells #[.int .i32 a0_0, .int .i32 a0_1] 26 (0, 0)) (by (with_reducible repeat (first | refine blk_drewN ?_ _ | refine blk_drew ?_ | refine blk_alloc ?_ _)); exact BK187.out) hb); have n1_ := Aside0.mk (below_step (by repeat (first | (with_reducible first | exact HB.out | apply below_alloc | apply pw_below_drewN | apply below_drew1 | refine below_set ?_ GE187.out) | exact HB.out)) hb); clear BK187; clear HB; have BK187 := n0_; have HB := n1_; clear n0_ n1_; (try clear hb); (try clear hb2); (try clear hk); (try clear hi); have hcz169_0 : w168.cell? ⟨gb187, 0, none⟩ = some (.int .i32 a0_0) := (blk_cell BK187.out 0).trans rfl; have hcz169_1 : w168.cell? ⟨gb187, 1, none⟩ = some (.int .i32 a0_1) := (blk_cell BK187.out 1).trans rfl; have hfz169_0 := blk_frozen BK187.out 0; have hfz169_1 := blk_frozen BK187.out 1))
                      go_ret
                      exact ⟨by first | rfl | (simp [errW_none, errW_some] <;> rfl) | (simp [*, errW_none, errW_some] <;> rfl), by repeat (first | (with_reducible first | exact HB.out | apply below_alloc | apply pw_below_drewN | apply below_drew1 | refine below_set ?_ GE187.out) | exact HB.out)⟩
                    · rw [if_neg c162] at H
                      have c162b0 : decide (t193 ≤ 0) = false := decide_eq_false c162
                      clear c162
                      exact absurd ((Option.some.inj H).trans HR.out) (by decide)
                · rw [if_neg c153] at H
                  have c153b0 : decide (a0_1 < 0) = false := decide_eq_false c153
                  clear c153
                  by_cases c170 : t193 ≥ 0
                  · rw [if_pos c170] at H
                    have c170b0 : decide (0 ≤ t193) = true := decide_eq_true c170
                    clear c170
                    by_cases c171 : t195 ≥ t193
                    · rw [if_pos c171] at H
                      have c171b0 : decide (t193 ≤ t195) = true := decide_eq_true c171
                      clear c171
                      by_cases c172 : a0_1 ≥ 0
                      · rw [if_pos c172] at H
                        have c172b0 : decide (0 ≤ a0_1) = true := decide_eq_true c172
                        clear c172
                        obtain rfl := Option.some.inj H
                        have hcz173_0 : wc.cell? ⟨gb187, 0, none⟩ = some (.int .i32 a0_0) := (blk_cell BK187.out 0).trans rfl
                        have hcz173_1 : wc.cell? ⟨gb187, 1, none⟩ = some (.int .i32 a0_1) := (blk_cell BK187.out 1).trans rfl
                        have hfz173_0 := blk_frozen BK187.out 0
                        have hfz173_1 := blk_frozen BK187.out 1
                        go_wp2_with (first | ((with_reducible refine gate_callee (f := 15) rfl ?_); refine goesL_ (some 55) rfl rfl Try.func15 (by kernel_rfl) rfl #[.int .i64 a1, .int .i32 a3, .agg #[.int .i32 a0_0, .int .i32 a0_1]] rfl (by (try simp only [List.map_toArray, List.map_cons, List.map_nil]); first | done | rfl | (simp only [List.length_drop, List.length_take]; rfl)) ?_; (with_reducible refine (impulse_Change.calls a1 a3 a0_0 a0_1 t192 t193 _ A34.out).mono ?_); rintro e w174 ⟨rfl, hb⟩; refine ⟨_, rfl, ?_⟩; have n0_ := Aside0.mk (blk_below (g := gb187) (o := .cells #[.int .i32 a0_0, .int .i32 a0_1] 26 (0, 0)) (by (with_reducible repeat (first | refine blk_drewN ?_ _ | refine blk_drew ?_ | refine blk_alloc ?_ _)); exact BK187.out) hb); have n1_ := Aside0.mk (below_step (by repeat (first | (with_reducible first | exact HB.out | apply below_alloc | apply pw_below_drewN | apply below_drew1 | refine below_set ?_ GE187.out) | exact HB.out)) hb); clear BK187; clear HB; have BK187 := n0_; have HB := n1_; clear n0_ n1_; (try clear hb); (try clear hb2); (try clear hk); (try clear hi); have hcz175_0 : w174.cell? ⟨gb187, 0, none⟩ = some (.int .i32 a0_0) := (blk_cell BK187.out 0).trans rfl; have hcz175_1 : w174.cell? ⟨gb187, 1, none⟩ = some (.int .i32 a0_1) := (blk_cell BK187.out 1).trans rfl; have hfz175_0 := blk_frozen BK187.out 0; have hfz175_1 := blk_frozen BK187.out 1) | ((with_reducible refine gate_callee (f := 15) rfl ?_); refine goesL_ (some 62) rfl rfl Try.func15 (by kernel_rfl) rfl #[.int .i64 a2, .int .i32 a3, .agg #[.int .i32 a0_0, .int .i32 a0_1]] rfl (by (try simp only [List.map_toArray, List.map_cons, List.map_nil]); first | done | rfl | (simp only [List.length_drop, List.length_take]; rfl)) ?_; (with_reducible refine (impulse_Change.calls a2 a3 a0_0 a0_1 t194 t195 _ A35.out).mono ?_); rintro e w176 ⟨rfl, hb⟩; refine ⟨_, rfl, ?_⟩; have n0_ := Aside0.mk (blk_below (g := gb187) (o := .cells #[.int .i32 a0_0, .int .i32 a0_1] 26 (0, 0)) (by (with_reducible repeat (first | refine blk_drewN ?_ _ | refine blk_drew ?_ | refine blk_alloc ?_ _)); exact BK187.out) hb); have n1_ := Aside0.mk (below_step (by repeat (first | (with_reducible first | exact HB.out | apply below_alloc | apply pw_below_drewN | apply below_drew1 | refine below_set ?_ GE187.out) | exact HB.out)) hb); clear BK187; clear HB; have BK187 := n0_; have HB := n1_; clear n0_ n1_; (try clear hb); (try clear hb2); (try clear hk); (try clear hi); have hcz177_0 : w176.cell? ⟨gb187, 0, none⟩ = some (.int .i32 a0_0) := (blk_cell BK187.out 0).trans rfl; have hcz177_1 : w176.cell? ⟨gb187, 1, none⟩ = some (.int .i32 a0_1) := (blk_cell BK187.out 1).trans rfl; have hfz177_0 := blk_frozen BK187.out 0; have hfz177_1 := blk_frozen BK187.out 1) | ((with_reducible refine gate_callee (f := 15) rfl ?_); refine goesL_ (some 68) rfl rfl Try.func15 (by kernel_rfl) rfl #[.int .i64 0, .int .i32 a3, .agg #[.int .i32 a0_0, .int .i32 a0_1]] rfl (by (try simp only [List.map_toArray, List.map_cons, List.map_nil]); first | done | rfl | (simp only [List.length_drop, List.length_take]; rfl)) ?_; (with_reducible refine (impulse_Change.calls 0 a3 a0_0 a0_1 t196 t197 _ A36.out).mono ?_); rintro e w178 ⟨rfl, hb⟩; refine ⟨_, rfl, ?_⟩; have n0_ := Aside0.mk (blk_below (g := gb187) (o := .cells #[.int .i32 a0_0, .int .i32 a0_1] 26 (0, 0)) (by (with_reducible repeat (first | refine blk_drewN ?_ _ | refine blk_drew ?_ | refine blk_alloc ?_ _)); exact BK187.out) hb); have n1_ := Aside0.mk (below_step (by repeat (first | (with_reducible first | exact HB.out | apply below_alloc | apply pw_below_drewN | apply below_drew1 | refine below_set ?_ GE187.out) | exact HB.out)) hb); clear BK187; clear HB; have BK187 := n0_; have HB := n1_; clear n0_ n1_; (try clear hb); (try clear hb2); (try clear hk); (try clear hi); have hcz179_0 : w178.cell? ⟨gb187, 0, none⟩ = some (.int .i32 a0_0) := (blk_cell BK187.out 0).trans rfl; have hcz179_1 : w178.cell? ⟨gb187, 1, none⟩ = some (.int .i32 a0_1) := (blk_cell BK187.out 1).trans rfl; have hfz179_0 := blk_frozen BK187.out 0; have hfz179_1 := blk_frozen BK187.out 1))
                        go_ret
                        exact ⟨by first | rfl | (simp [errW_none, errW_some] <;> rfl) | (simp [*, errW_none, errW_some] <;> rfl), by repeat (first | (with_reducible first | exact HB.out | apply below_alloc | apply pw_below_drewN | apply below_drew1 | refine below_set ?_ GE187.out) | exact HB.out)⟩
                      · rw [if_neg c172] at H
                        have c172b0 : decide (0 ≤ a0_1) = false := decide_eq_false c172
                        clear c172
                        by_cases c180 : t193 ≤ 0
                        · rw [if_pos c180] at H
                          have c180b0 : decide (t193 ≤ 0) = true := decide_eq_true c180
                          clear c180
                          obtain rfl := Option.some.inj H
                          have hcz181_0 : wc.cell? ⟨gb187, 0, none⟩ = some (.int .i32 a0_0) := (blk_cell BK187.out 0).trans rfl
                          have hcz181_1 : wc.cell? ⟨gb187, 1, none⟩ = some (.int .i32 a0_1) := (blk_cell BK187.out 1).trans rfl
                          have hfz181_0 := blk_frozen BK187.out 0
                          have hfz181_1 := blk_frozen BK187.out 1
                          go_wp2_with (first | ((with_reducible refine gate_callee (f := 15) rfl ?_); refine goesL_ (some 55) rfl rfl Try.func15 (by kernel_rfl) rfl #[.int .i64 a1, .int .i32 a3, .agg #[.int .i32 a0_0, .int .i32 a0_1]] rfl (by (try simp only [List.map_toArray, List.map_cons, List.map_nil]); first | done | rfl | (simp only [List.length_drop, List.length_take]; rfl)) ?_; (with_reducible refine (impulse_Change.calls a1 a3 a0_0 a0_1 t192 t193 _ A34.out).mono ?_); rintro e w182 ⟨rfl, hb⟩; refine ⟨_, rfl, ?_⟩; have n0_ := Aside0.mk (blk_below (g := gb187) (o := .cells #[.int .i32 a0_0, .int .i32 a0_1] 26 (0, 0)) (by (with_reducible repeat (first | refine blk_drewN ?_ _ | refine blk_drew ?_ | refine blk_alloc ?_ _)); exact BK187.out) hb); have n1_ := Aside0.mk (below_step (by repeat (first | (with_reducible first | exact HB.out | apply below_alloc | apply pw_below_drewN | apply below_drew1 | refine below_set ?_ GE187.out) | exact HB.out)) hb); clear BK187; clear HB; have BK187 := n0_; have HB := n1_; clear n0_ n1_; (try clear hb); (try clear hb2); (try clear hk); (try clear hi); have hcz183_0 : w182.cell? ⟨gb187, 0, none⟩ = some (.int .i32 a0_0) := (blk_cell BK187.out 0).trans rfl; have hcz183_1 : w182.cell? ⟨gb187, 1, none⟩ = some (.int .i32 a0_1) := (blk_cell BK187.out 1).trans rfl; have hfz183_0 := blk_frozen BK187.out 0; have hfz183_1 := blk_frozen BK187.out 1) | ((with_reducible refine gate_callee (f := 15) rfl ?_); refine goesL_ (some 62) rfl rfl Try.func15 (by kernel_rfl) rfl #[.int .i64 a2, .int .i32 a3, .agg #[.int .i32 a0_0, .int .i32 a0_1]] rfl (by (try simp only [List.map_toArray, List.map_cons, List.map_nil]); first | done | rfl | (simp only [List.length_drop, List.length_take]; rfl)) ?_; (with_reducible refine (impulse_Change.calls a2 a3 a0_0 a0_1 t194 t195 _ A35.out).mono ?_); rintro e w184 ⟨rfl, hb⟩; refine ⟨_, rfl, ?_⟩; have n0_ := Aside0.mk (blk_below (g := gb187) (o := .cells #[.int .i32 a0_0, .int .i32 a0_1] 26 (0, 0)) (by (with_reducible repeat (first | refine blk_drewN ?_ _ | refine blk_drew ?_ | refine blk_alloc ?_ _)); exact BK187.out) hb); have n1_ := Aside0.mk (below_step (by repeat (first | (with_reducible first | exact HB.out | apply below_alloc | apply pw_below_drewN | apply below_drew1 | refine below_set ?_ GE187.out) | exact HB.out)) hb); clear BK187; clear HB; have BK187 := n0_; have HB := n1_; clear n0_ n1_; (try clear hb); (try clear hb2); (try clear hk); (try clear hi); have hcz185_0 : w184.cell? ⟨gb187, 0, none⟩ = some (.int .i32 a0_0) := (blk_cell BK187.out 0).trans rfl; have hcz185_1 : w184.cell? ⟨gb187, 1, none⟩ = some (.int .i32 a0_1) := (blk_cell BK187.out 1).trans rfl; have hfz185_0 := blk_frozen BK187.out 0; have hfz185_1 := blk_frozen BK187.out 1) | ((with_reducible refine gate_callee (f := 15) rfl ?_); refine goesL_ (some 68) rfl rfl Try.func15 (by kernel_rfl) rfl #[.int .i64 0, .int .i32 a3, .agg #[.int .i32 a0_0, .int .i32 a0_1]] rfl (by (try simp only [List.map_toArray, List.map_cons, List.map_nil]); first | done | rfl | (simp only [List.length_drop, List.length_take]; rfl)) ?_; (with_reducible refine (impulse_Change.calls 0 a3 a0_0 a0_1 t196 t197 _ A36.out).mono ?_); rintro e w186 ⟨rfl, hb⟩; refine ⟨_, rfl, ?_⟩; have n0_ := Aside0.mk (blk_below (g := gb187) (o := .cells #[.int .i32 a0_0, .int .i32 a0_1] 26 (0, 0)) (by (with_reducible repeat (first | refine blk_drewN ?_ _ | refine blk_drew ?_ | refine blk_alloc ?_ _)); exact BK187.out) hb); have n1_ := Aside0.mk (below_step (by repeat (first | (with_reducible first | exact HB.out | apply below_alloc | apply pw_below_drewN | apply below_drew1 | refine below_set ?_ GE187.out) | exact HB.out)) hb); clear BK187; clear HB; have BK187 := n0_; have HB := n1_; clear n0_ n1_; (try clear hb); (try clear hb2); (try clear hk); (try clear hi); have hcz187_0 : w186.cell? ⟨gb187, 0, none⟩ = some (.int .i32 a0_0) := (blk_cell BK187.out 0).trans rfl; have hcz187_1 : w186.cell? ⟨gb187, 1, none⟩ = some (.int .i32 a0_1) := (blk_cell BK187.out 1).trans rfl; have hfz187_0 := blk_frozen BK187.out 0; have hfz187_1 := blk_frozen BK187.out 1))
                          go_ret
                          exact ⟨by first | rfl | (simp [errW_none, errW_some] <;> rfl) | (simp [*, errW_none, errW_some] <;> rfl), by repeat (first | (with_reducible first | exact HB.out | apply below_alloc | apply pw_below_drewN | apply below_drew1 | refine below_set ?_ GE187.out) | exact HB.out)⟩
                        · rw [if_neg c180] at H
                          have c180b0 : decide (t193 ≤ 0) = false := decide_eq_false c180
                          clear c180
                          exact absurd ((Option.some.inj H).trans HR.out) (by decide)
                    · rw [if_neg c171] at H
                      have c171b0 : decide (t193 ≤ t195) = false := decide_eq_false c171
                      clear c171
                      exact absurd ((Option.some.inj H).trans HR.out) (by decide)
                  · rw [if_neg c170] at H
                    have c170b0 : decide (0 ≤ t193) = false := decide_eq_false c170
                    clear c170
                    exact absurd ((Option.some.inj H).trans HR.out) (by decide)
          · rw [if_neg c38] at H
            have c38b0 : (t197 == 0) = false := beq_eq_false_iff_ne.mpr c38
            have c38b1 : (t197 != 0) = true := bne_iff_ne.mpr c38
            exact absurd ((Option.some.inj H).trans HR.out) (by decide)
        · rw [if_neg c37] at H
          have c37b0 : (t196 == 0) = false := beq_eq_false_iff_ne.mpr c37
          have c37b1 : (t196 != 0) = true := bne_iff_ne.mpr c37
          exact absurd ((Option.some.inj H).trans HR.out) (by decide)

/-- THE ONE PURE STATEMENT of billiardlaw16_ImpulseScales: yours. -/
def billiardlaw16_ImpulseScales.Pure : Prop := ∀ (a0_0 : Int) (a0_1 : Int) (a1 : Int) (a2 : Int) (a3 : Int), (Lit.int .i32 a0_0).wf = true → (Lit.int .i32 a0_1).wf = true → (Lit.int .i64 a1).wf = true → (Lit.int .i64 a2).wf = true → (Lit.int .i32 a3).wf = true → ∃ k, billiardlaw16_ImpulseScales.f k a0_0 a0_1 a1 a2 a3 = some true
theorem billiardlaw16_ImpulseScales.walk (P : billiardlaw16_ImpulseScales.Pure) (a0_0 : Int) (a0_1 : Int) (a1 : Int) (a2 : Int) (a3 : Int) (w : World) (w0_0 : (Lit.int .i32 a0_0).wf = true) (w0_1 : (Lit.int .i32 a0_1).wf = true) (w1 : (Lit.int .i64 a1).wf = true) (w2 : (Lit.int .i64 a2).wf = true) (w3 : (Lit.int .i32 a3).wf = true) :
    Calls Try.prog 5 #[.agg #[.int .i32 a0_0, .int .i32 a0_1], .int .i64 a1, .int .i64 a2, .int .i32 a3] w fun e w' => e = .returned (.bool true) ∧ Below w.heap.size w w' := by
  obtain ⟨k, h⟩ := P a0_0 a0_1 a1 a2 a3 w0_0 w0_1 w1 w2 w3
  refine (billiardlaw16_ImpulseScales.calls k a0_0 a0_1 a1 a2 a3 true w h rfl).mono ?_
  rintro e w' ⟨rfl, hd⟩
  exact ⟨rfl, hd⟩

end Go.Proofs.Ytihgddcaljaojaa.Q
