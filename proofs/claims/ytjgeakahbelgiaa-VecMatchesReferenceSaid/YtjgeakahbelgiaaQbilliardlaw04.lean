-- PRINTED by print.py (a twelfth state) out of the translation. Not trusted: Lean checks it.
import Derived.Test.YtjgeakahbelgiaaQ0
import Derived.Test.YtjgeakahbelgiaaQE0
import Derived.Test.YtjgeakahbelgiaaQvec
namespace Go.Proofs.Ytjgeakahbelgiaa.Q
open Go.RowKit Go.Proofs.YtjgeakahbelgiaaW.PrintWords Go.Proofs.YtjgeakahbelgiaaW.PrintLast Go.Proofs.YtjgeakahbelgiaaW.PrintMore
attribute [local go_sem] max2_int min2_int max_two min_two max_three min_three max_four min_four   -- for this text's walks alone
set_option linter.unusedVariables false
set_option linter.unusedSimpArgs false

attribute [local go_sem high] eqA25
/-! ### billiardlaw04_awake: function 8 -/
def billiardlaw04_awake.f (k : Nat)  : Option (Bool) := (vec_Diff.f (-2147483648) 0 2147483647 1).bind fun bt120 => ((vec_Length.f k 3 4).bind fun t122 => (if t122 = 5 then ((vec_Unit.f k 3 4).bind fun bt123 => (if (bt123.1 == 39321 && (bt123.2 == 52428)) = true then ((vec_Unit.f k 0 0).bind fun bt125 => (if (bt125.1 == 65536 && (bt125.2 == 0)) = true then ((vec_Dot.f 3 4 3 4).bind fun t127 => (if t127 = 25 then ((vec_Cross.f 3 4 1 0).bind fun t128 => (if t128 = (-4) then ((vec_Perp.f 3 4).bind fun bt129 => (if (bt129.1 == (-4) && (bt129.2 == 3)) = true then (if bt120.1 = 4294967295 then (some (bt120.2 == 1)) else (some false)) else (some false))) else (some false))) else (some false))) else (some false))) else (some false))) else (some false)))
theorem billiardlaw04_awake.mono : ∀ k, LeO (billiardlaw04_awake.f k ) (billiardlaw04_awake.f (k + 1) ) := by
  intro  k
  unfold billiardlaw04_awake.f
  repeat' first
      | (with_reducible exact vec_Length.mono _ _ _)
      | (with_reducible exact vec_Unit.mono _ _ _)
      | (with_reducible exact LeO.refl _)
      | (with_reducible exact LeO.none _)
      | (with_reducible refine LeO.ite ?_ ?_)
      | (with_reducible refine LeO.bind ?_ (fun _ => ?_))
      | exact vec_Length.mono _ _ _
      | exact vec_Unit.mono _ _ _
      | exact LeO.none _
      | refine LeO.ite ?_ ?_
      | refine LeO.bind ?_ (fun _ => ?_)
theorem billiardlaw04_awake.only {k : Nat} {r : Bool} (h : billiardlaw04_awake.f k = some r) : r = true := by
  have e : billiardlaw04_awake.f 300 = some true := by decide +kernel
  have h1 := at_rounds billiardlaw04_awake.mono (Nat.le_add_right k 300) h
  have h2 := at_rounds billiardlaw04_awake.mono (Nat.le_add_left 300 k) e
  exact Option.some.inj (h1.symm.trans h2)
set_option maxHeartbeats 8000000 in
set_option maxRecDepth 100000 in
theorem billiardlaw04_awake.calls (k : Nat)  (r : Bool) (w : World) (h : billiardlaw04_awake.f k  = some r) :
    Calls Try.prog 8 #[] w fun e w' => e = .returned (.bool r) ∧ Below w.heap.size w w' := by
  have HR := Aside0.mk (billiardlaw04_awake.only h)
  have hu25 := Try.underlying25
  have HB := Aside0.mk (Below.refl w.heap.size w)
  have H : ((vec_Diff.f (-2147483648) 0 2147483647 1).bind fun bt120 => ((vec_Length.f k 3 4).bind fun t122 => (if t122 = 5 then ((vec_Unit.f k 3 4).bind fun bt123 => (if (bt123.1 == 39321 && (bt123.2 == 52428)) = true then ((vec_Unit.f k 0 0).bind fun bt125 => (if (bt125.1 == 65536 && (bt125.2 == 0)) = true then ((vec_Dot.f 3 4 3 4).bind fun t127 => (if t127 = 25 then ((vec_Cross.f 3 4 1 0).bind fun t128 => (if t128 = (-4) then ((vec_Perp.f 3 4).bind fun bt129 => (if (bt129.1 == (-4) && (bt129.2 == 3)) = true then (if bt120.1 = 4294967295 then (some (bt120.2 == 1)) else (some false)) else (some false))) else (some false))) else (some false))) else (some false))) else (some false))) else (some false)))) = some r := h
  clear h
  replace H := Option.bind_eq_some_iff.mp H
  obtain ⟨⟨t120, t121⟩, A10, H⟩ := H
  replace H : ((vec_Length.f k 3 4).bind fun t122 => (if t122 = 5 then ((vec_Unit.f k 3 4).bind fun bt123 => (if (bt123.1 == 39321 && (bt123.2 == 52428)) = true then ((vec_Unit.f k 0 0).bind fun bt125 => (if (bt125.1 == 65536 && (bt125.2 == 0)) = true then ((vec_Dot.f 3 4 3 4).bind fun t127 => (if t127 = 25 then ((vec_Cross.f 3 4 1 0).bind fun t128 => (if t128 = (-4) then ((vec_Perp.f 3 4).bind fun bt129 => (if (bt129.1 == (-4) && (bt129.2 == 3)) = true then (if t120 = 4294967295 then (some (t121 == 1)) else (some false)) else (some false))) else (some false))) else (some false))) else (some false))) else (some false))) else (some false))) = some r := H
  have A1 := Aside0.mk A10
  clear A10
  replace H := Option.bind_eq_some_iff.mp H
  obtain ⟨t122, A20, H⟩ := H
  replace H : (if t122 = 5 then ((vec_Unit.f k 3 4).bind fun bt123 => (if (bt123.1 == 39321 && (bt123.2 == 52428)) = true then ((vec_Unit.f k 0 0).bind fun bt125 => (if (bt125.1 == 65536 && (bt125.2 == 0)) = true then ((vec_Dot.f 3 4 3 4).bind fun t127 => (if t127 = 25 then ((vec_Cross.f 3 4 1 0).bind fun t128 => (if t128 = (-4) then ((vec_Perp.f 3 4).bind fun bt129 => (if (bt129.1 == (-4) && (bt129.2 == 3)) = true then (if t120 = 4294967295 then (some (t121 == 1)) else (some false)) else (some false))) else (some false))) else (some false))) else (some false))) else (some false))) else (some false)) = some r := H
  have A2 := Aside0.mk A20
  clear A20
  by_cases c3 : t122 = 5
  · rw [if_pos c3] at H
    have c3b0 : (t122 == 5) = true := beq_iff_eq.mpr c3
    have c3b1 : (t122 != 5) = false := bne_eq_false_iff_eq.mpr c3
    clear c3
    replace H := Option.bind_eq_some_iff.mp H
    obtain ⟨⟨t123, t124⟩, A40, H⟩ := H
    replace H : (if (t123 == 39321 && (t124 == 52428)) = true then ((vec_Unit.f k 0 0).bind fun bt125 => (if (bt125.1 == 65536 && (bt125.2 == 0)) = true then ((vec_Dot.f 3 4 3 4).bind fun t127 => (if t127 = 25 then ((vec_Cross.f 3 4 1 0).bind fun t128 => (if t128 = (-4) then ((vec_Perp.f 3 4).bind fun bt129 => (if (bt129.1 == (-4) && (bt129.2 == 3)) = true then (if t120 = 4294967295 then (some (t121 == 1)) else (some false)) else (some false))) else (some false))) else (some false))) else (some false))) else (some false)) = some r := H
    have A4 := Aside0.mk A40
    clear A40
    by_cases c5 : (t123 == 39321 && (t124 == 52428)) = true
    · rw [if_pos c5] at H
      have c5b0 : (t123 == 39321 && (t124 == 52428)) = true := c5
      (try (have c5b1 : decide (t123 = 39321 && (t124 == 52428)) = true := by simpa using c5))
      (try (have c5b2 : (t123 == 39321 && (t124 == 52428)) = true := by simpa using c5))
      clear c5
      replace H := Option.bind_eq_some_iff.mp H
      obtain ⟨⟨t125, t126⟩, A60, H⟩ := H
      replace H : (if (t125 == 65536 && (t126 == 0)) = true then ((vec_Dot.f 3 4 3 4).bind fun t127 => (if t127 = 25 then ((vec_Cross.f 3 4 1 0).bind fun t128 => (if t128 = (-4) then ((vec_Perp.f 3 4).bind fun bt129 => (if (bt129.1 == (-4) && (bt129.2 == 3)) = true then (if t120 = 4294967295 then (some (t121 == 1)) else (some false)) else (some false))) else (some false))) else (some false))) else (some false)) = some r := H
      have A6 := Aside0.mk A60
      clear A60
      by_cases c7 : (t125 == 65536 && (t126 == 0)) = true
      · rw [if_pos c7] at H
        have c7b0 : (t125 == 65536 && (t126 == 0)) = true := c7
        (try (have c7b1 : decide (t125 = 65536 && (t126 == 0)) = true := by simpa using c7))
        (try (have c7b2 : (t125 == 65536 && (t126 == 0)) = true := by simpa using c7))
        clear c7
        replace H := Option.bind_eq_some_iff.mp H
        obtain ⟨t127, A80, H⟩ := H
        replace H : (if t127 = 25 then ((vec_Cross.f 3 4 1 0).bind fun t128 => (if t128 = (-4) then ((vec_Perp.f 3 4).bind fun bt129 => (if (bt129.1 == (-4) && (bt129.2 == 3)) = true then (if t120 = 4294967295 then (some (t121 == 1)) else (some false)) else (some false))) else (some false))) else (some false)) = some r := H
        have A8 := Aside0.mk A80
        clear A80
        by_cases c9 : t127 = 25
        · rw [if_pos c9] at H
          have c9b0 : (t127 == 25) = true := beq_iff_eq.mpr c9
          have c9b1 : (t127 != 25) = false := bne_eq_false_iff_eq.mpr c9
          clear c9
          replace H := Option.bind_eq_some_iff.mp H
          obtain ⟨t128, A100, H⟩ := H
          replace H : (if t128 = (-4) then ((vec_Perp.f 3 4).bind fun bt129 => (if (bt129.1 == (-4) && (bt129.2 == 3)) = true then (if t120 = 4294967295 then (some (t121 == 1)) else (some false)) else (some false))) else (some false)) = some r := H
          have A10 := Aside0.mk A100
          clear A100
          by_cases c11 : t128 = (-4)
          · rw [if_pos c11] at H
            have c11b0 : (t128 == (-4)) = true := beq_iff_eq.mpr c11
            have c11b1 : (t128 != (-4)) = false := bne_eq_false_iff_eq.mpr c11
            clear c11
            replace H := Option.bind_eq_some_iff.mp H
            obtain ⟨⟨t129, t130⟩, A120, H⟩ := H
            replace H : (if (t129 == (-4) && (t130 == 3)) = true then (if t120 = 4294967295 then (some (t121 == 1)) else (some false)) else (some false)) = some r := H
            have A12 := Aside0.mk A120
            clear A120
            by_cases c13 : (t129 == (-4) && (t130 == 3)) = true
            · rw [if_pos c13] at H
              have c13b0 : (t129 == (-4) && (t130 == 3)) = true := c13
              (try (have c13b1 : decide (t129 = (-4) && (t130 == 3)) = true := by simpa using c13))
              (try (have c13b2 : (t129 == (-4) && (t130 == 3)) = true := by simpa using c13))
              clear c13
              by_cases c14 : t120 = 4294967295
              · rw [if_pos c14] at H
                have c14b0 : (t120 == 4294967295) = true := beq_iff_eq.mpr c14
                have c14b1 : (t120 != 4294967295) = false := bne_eq_false_iff_eq.mpr c14
                clear c14
                obtain rfl := Option.some.inj H
                go_enter Try.func8, Try.ntmps8
                go_wp2_with (first | ((with_reducible refine gate_dst (N := 1) rfl ?_); refine box_event ?hg (N := 1) ?hd (cs := #[.int .i32 0, .int .i32 0]) (t := 25) ?hr ?_; (case hd => rfl); (case hg => rfl); (case hr => first | (go_simp; done) | (go_simp; rfl)); intro gb119 hg w15 hbox hb; have n0_ := Aside0.mk (below_step (by repeat (first | (with_reducible first | exact HB.out | apply below_alloc | apply pw_below_drewN | apply below_drew1) | exact HB.out)) hb); have n1_ := Aside0.mk (hbox); have n2_ := Aside0.mk ((by rw [hg]; exact (below_size (by repeat (first | (with_reducible first | exact HB.out | apply below_alloc | apply pw_below_drewN | apply below_drew1) | exact HB.out))) : w.heap.size ≤ gb119)); have n3_ := Aside0.mk ((by rw [hg]; exact (below_size (by repeat (first | (with_reducible first | exact HB.out | apply below_alloc | apply pw_below_drewN | apply below_drew1) | exact HB.out))) : w.heap.size ≤ gb119)); clear HB; have HB := n0_; have BK119 := n1_; have GW119 := n2_; have GE119 := n3_; clear n0_ n1_ n2_ n3_; clear hb hbox hg; have hcz16_0 : w15.cell? ⟨gb119, 0, none⟩ = some (.int .i32 0) := (blk_cell BK119.out 0).trans rfl; have hcz16_1 : w15.cell? ⟨gb119, 1, none⟩ = some (.int .i32 0) := (blk_cell BK119.out 1).trans rfl; have hfz16_0 := blk_frozen BK119.out 0; have hfz16_1 := blk_frozen BK119.out 1) | ((with_reducible refine gate_callee (f := 24) rfl ?_); refine goesL_ (some 8) rfl rfl Try.func24 (by kernel_rfl) rfl #[.agg #[.int .i32 (-2147483648), .int .i32 0], .agg #[.int .i32 2147483647, .int .i32 1]] rfl (by (try simp only [List.map_toArray, List.map_cons, List.map_nil]); first | done | rfl | (simp only [List.length_drop, List.length_take]; rfl)) ?_; (with_reducible refine (vec_Diff.calls (-2147483648) 0 2147483647 1 t120 t121 _ A1.out).mono ?_); rintro e w17 ⟨rfl, hb⟩; refine ⟨_, rfl, ?_⟩; have n0_ := Aside0.mk (blk_below (g := gb119) (o := .cells #[.int .i32 3, .int .i32 4] 25 (0, 0)) (by (with_reducible repeat (first | refine blk_drewN ?_ _ | refine blk_drew ?_ | refine blk_alloc ?_ _)); refine blk_put (cs := #[.int .i32 3, .int .i32 0]) ?_ 1 _ rfl; (with_reducible repeat (first | refine blk_drewN ?_ _ | refine blk_drew ?_ | refine blk_alloc ?_ _)); refine blk_put (cs := #[.int .i32 0, .int .i32 0]) ?_ 0 _ rfl; (with_reducible repeat (first | refine blk_drewN ?_ _ | refine blk_drew ?_ | refine blk_alloc ?_ _)); exact BK119.out) hb); have n1_ := Aside0.mk (below_step (by repeat (first | (with_reducible first | exact HB.out | apply below_alloc | apply pw_below_drewN | apply below_drew1 | refine below_set ?_ GE119.out) | exact HB.out)) hb); clear BK119; clear HB; have BK119 := n0_; have HB := n1_; clear n0_ n1_; (try clear hb); (try clear hb2); (try clear hk); (try clear hi)) | ((with_reducible refine gate_callee (f := 11) rfl ?_); refine goesL_ (some 11) rfl rfl Try.func11 (by kernel_rfl) rfl #[.int .i64 3, .int .i64 4] rfl (by (try simp only [List.map_toArray, List.map_cons, List.map_nil]); first | done | rfl | (simp only [List.length_drop, List.length_take]; rfl)) ?_; (with_reducible refine (vec_Length.calls k 3 4 t122 _ A2.out).mono ?_); rintro e w' ⟨rfl, ⟨nd, rfl⟩⟩; refine ⟨_, rfl, ?_⟩) | (go_at_call 10; (with_reducible refine (vec_Unit.calls k 3 4 t123 t124 _ A4.out).mono ?_); rintro e w18 ⟨rfl, hb⟩; have n0_ := Aside0.mk (blk_below (g := gb119) (o := .cells #[.int .i32 3, .int .i32 4] 25 (0, 0)) (by (with_reducible repeat (first | refine blk_drewN ?_ _ | refine blk_drew ?_ | refine blk_alloc ?_ _)); exact BK119.out) hb); have n1_ := Aside0.mk (below_step (by repeat (first | (with_reducible first | exact HB.out | apply below_alloc | apply pw_below_drewN | apply below_drew1 | refine below_set ?_ GE119.out) | exact HB.out)) hb); clear BK119; clear HB; have BK119 := n0_; have HB := n1_; clear n0_ n1_; (try clear hb); (try clear hb2); (try clear hk); (try clear hi)) | (go_at_call 10; (with_reducible refine (vec_Unit.calls k 0 0 t125 t126 _ A6.out).mono ?_); rintro e w19 ⟨rfl, hb⟩; have n0_ := Aside0.mk (blk_below (g := gb119) (o := .cells #[.int .i32 3, .int .i32 4] 25 (0, 0)) (by (with_reducible repeat (first | refine blk_drewN ?_ _ | refine blk_drew ?_ | refine blk_alloc ?_ _)); exact BK119.out) hb); have n1_ := Aside0.mk (below_step (by repeat (first | (with_reducible first | exact HB.out | apply below_alloc | apply pw_below_drewN | apply below_drew1 | refine below_set ?_ GE119.out) | exact HB.out)) hb); clear BK119; clear HB; have BK119 := n0_; have HB := n1_; clear n0_ n1_; (try clear hb); (try clear hb2); (try clear hk); (try clear hi); have hcz20_0 : w19.cell? ⟨gb119, 0, none⟩ = some (.int .i32 3) := (blk_cell BK119.out 0).trans rfl; have hcz20_1 : w19.cell? ⟨gb119, 1, none⟩ = some (.int .i32 4) := (blk_cell BK119.out 1).trans rfl; have hfz20_0 := blk_frozen BK119.out 0; have hfz20_1 := blk_frozen BK119.out 1) | (go_at_call 13; (with_reducible refine (vec_Dot.calls 3 4 3 4 t127 _ A8.out).mono ?_); rintro e w21 ⟨rfl, hb⟩; have n0_ := Aside0.mk (blk_below (g := gb119) (o := .cells #[.int .i32 3, .int .i32 4] 25 (0, 0)) (by (with_reducible repeat (first | refine blk_drewN ?_ _ | refine blk_drew ?_ | refine blk_alloc ?_ _)); exact BK119.out) hb); have n1_ := Aside0.mk (below_step (by repeat (first | (with_reducible first | exact HB.out | apply below_alloc | apply pw_below_drewN | apply below_drew1 | refine below_set ?_ GE119.out) | exact HB.out)) hb); clear BK119; clear HB; have BK119 := n0_; have HB := n1_; clear n0_ n1_; (try clear hb); (try clear hb2); (try clear hk); (try clear hi); have hcz22_0 : w21.cell? ⟨gb119, 0, none⟩ = some (.int .i32 3) := (blk_cell BK119.out 0).trans rfl; have hcz22_1 : w21.cell? ⟨gb119, 1, none⟩ = some (.int .i32 4) := (blk_cell BK119.out 1).trans rfl; have hfz22_0 := blk_frozen BK119.out 0; have hfz22_1 := blk_frozen BK119.out 1) | (go_at_call 14; (with_reducible refine (vec_Cross.calls 3 4 1 0 t128 _ A10.out).mono ?_); rintro e w23 ⟨rfl, hb⟩; have n0_ := Aside0.mk (blk_below (g := gb119) (o := .cells #[.int .i32 3, .int .i32 4] 25 (0, 0)) (by (with_reducible repeat (first | refine blk_drewN ?_ _ | refine blk_drew ?_ | refine blk_alloc ?_ _)); exact BK119.out) hb); have n1_ := Aside0.mk (below_step (by repeat (first | (with_reducible first | exact HB.out | apply below_alloc | apply pw_below_drewN | apply below_drew1 | refine below_set ?_ GE119.out) | exact HB.out)) hb); clear BK119; clear HB; have BK119 := n0_; have HB := n1_; clear n0_ n1_; (try clear hb); (try clear hb2); (try clear hk); (try clear hi); have hcz24_0 : w23.cell? ⟨gb119, 0, none⟩ = some (.int .i32 3) := (blk_cell BK119.out 0).trans rfl; have hcz24_1 : w23.cell? ⟨gb119, 1, none⟩ = some (.int .i32 4) := (blk_cell BK119.out 1).trans rfl; have hfz24_0 := blk_frozen BK119.out 0; have hfz24_1 := blk_frozen BK119.out 1) | (go_at_call 15; (with_reducible refine (vec_Perp.calls 3 4 t129 t130 _ A12.out).mono ?_); rintro e w25 ⟨rfl, hb⟩; have n0_ := Aside0.mk (blk_below (g := gb119) (o := .cells #[.int .i32 3, .int .i32 4] 25 (0, 0)) (by (with_reducible repeat (first | refine blk_drewN ?_ _ | refine blk_drew ?_ | refine blk_alloc ?_ _)); exact BK119.out) hb); have n1_ := Aside0.mk (below_step (by repeat (first | (with_reducible first | exact HB.out | apply below_alloc | apply pw_below_drewN | apply below_drew1 | refine below_set ?_ GE119.out) | exact HB.out)) hb); clear BK119; clear HB; have BK119 := n0_; have HB := n1_; clear n0_ n1_; (try clear hb); (try clear hb2); (try clear hk); (try clear hi)))
                go_ret
                exact ⟨by first | rfl | (simp [errW_none, errW_some] <;> rfl) | (simp [*, errW_none, errW_some] <;> rfl), by repeat (first | (with_reducible first | exact HB.out | apply below_alloc | apply pw_below_drewN | apply below_drew1 | refine below_set ?_ GE119.out) | exact HB.out)⟩
              · rw [if_neg c14] at H
                have c14b0 : (t120 == 4294967295) = false := beq_eq_false_iff_ne.mpr c14
                have c14b1 : (t120 != 4294967295) = true := bne_iff_ne.mpr c14
                exact absurd ((Option.some.inj H).trans HR.out) (by decide)
            · rw [if_neg c13] at H
              have c13b0 : (t129 == (-4) && (t130 == 3)) = false := by simpa using c13
              (try (have c13b1 : decide (t129 = (-4) && (t130 == 3)) = false := by simpa using c13))
              (try (have c13b2 : (t129 == (-4) && (t130 == 3)) = false := by simpa using c13))
              (try (have c13b3 : ¬ (t129 = (-4) && (t130 == 3)) := by simpa using c13))
              clear c13
              exact absurd ((Option.some.inj H).trans HR.out) (by decide)
          · rw [if_neg c11] at H
            have c11b0 : (t128 == (-4)) = false := beq_eq_false_iff_ne.mpr c11
            have c11b1 : (t128 != (-4)) = true := bne_iff_ne.mpr c11
            exact absurd ((Option.some.inj H).trans HR.out) (by decide)
        · rw [if_neg c9] at H
          have c9b0 : (t127 == 25) = false := beq_eq_false_iff_ne.mpr c9
          have c9b1 : (t127 != 25) = true := bne_iff_ne.mpr c9
          exact absurd ((Option.some.inj H).trans HR.out) (by decide)
      · rw [if_neg c7] at H
        have c7b0 : (t125 == 65536 && (t126 == 0)) = false := by simpa using c7
        (try (have c7b1 : decide (t125 = 65536 && (t126 == 0)) = false := by simpa using c7))
        (try (have c7b2 : (t125 == 65536 && (t126 == 0)) = false := by simpa using c7))
        (try (have c7b3 : ¬ (t125 = 65536 && (t126 == 0)) := by simpa using c7))
        clear c7
        exact absurd ((Option.some.inj H).trans HR.out) (by decide)
    · rw [if_neg c5] at H
      have c5b0 : (t123 == 39321 && (t124 == 52428)) = false := by simpa using c5
      (try (have c5b1 : decide (t123 = 39321 && (t124 == 52428)) = false := by simpa using c5))
      (try (have c5b2 : (t123 == 39321 && (t124 == 52428)) = false := by simpa using c5))
      (try (have c5b3 : ¬ (t123 = 39321 && (t124 == 52428)) := by simpa using c5))
      clear c5
      exact absurd ((Option.some.inj H).trans HR.out) (by decide)
  · rw [if_neg c3] at H
    have c3b0 : (t122 == 5) = false := beq_eq_false_iff_ne.mpr c3
    have c3b1 : (t122 != 5) = true := bne_iff_ne.mpr c3
    exact absurd ((Option.some.inj H).trans HR.out) (by decide)

end Go.Proofs.Ytjgeakahbelgiaa.Q
