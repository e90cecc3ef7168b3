-- PRINTED by print.py (a twelfth state) out of the translation. Not trusted: Lean checks it.
import Derived.Test.YtddooigcnbpliaaQ0
import Derived.Test.YtddooigcnbpliaaQbilliardlaw13
import Derived.Test.YtddooigcnbpliaaQbilliardref12
import Derived.Test.YtddooigcnbpliaaQbilliardref13
import Derived.Test.YtddooigcnbpliaaQsegment
namespace Go.Proofs.Ytddooigcnbpliaa.Q
open Go.RowKit Go.Proofs.YtddooigcnbpliaaW.PrintWords Go.Proofs.YtddooigcnbpliaaW.PrintLast Go.Proofs.YtddooigcnbpliaaW.PrintMore
attribute [local go_sem] max2_int min2_int max_two min_two max_three min_three max_four min_four   -- for this text's walks alone
set_option linter.unusedVariables false
set_option linter.unusedSimpArgs false

/-! ### billiardlaw13_SegmentPoints: function 7 -/
def billiardlaw13_SegmentPoints.j0 : Nat → Bool → Int → Int → Int → Int → Int → Int → Option (Bool)
  | 0, _, _, _, _, _, _, _ => none
  | k + 1, x20, x296000, x296001, x297000, x297001, x298000, x298001 => if x20 = true then ((billiardlaw13_awake.f).bind fun t300 => (some t300)) else ((segment_DistSq.f x296000 x296001 x296000 x296001 x297000 x297001 x298000 x298001).bind fun t301 => ((segment_DistSq.f x297000 x297001 x298000 x298001 x296000 x296001 x296000 x296001).bind fun t302 => ((billiardref12_DistSq.f x297000 x297001 x298000 x298001 x296000 x296001).bind fun t303 => ((billiardref13_DistSq.f x296000 x296001 x297000 x297001).bind fun t304 => ((billiardref13_DistSq.f x296000 x296001 x298000 x298001).bind fun t305 => (if t301 = t302 then (some (t301 == (mn t303 (mn t304 t305)))) else (some false)))))))
def billiardlaw13_SegmentPoints.f (k : Nat) (a0_0 : Int) (a0_1 : Int) (a1_0 : Int) (a1_1 : Int) (a2_0 : Int) (a2_1 : Int) : Option (Bool) := (billiardlaw13_awake.f).bind fun t298 => (if t298 = true then ((billiardref13_Right.f a0_0 a0_1 a0_0 a0_1 a1_0 a1_1 a2_0 a2_1).bind fun t299 => (billiardlaw13_SegmentPoints.j0 k (!t299) a0_0 a0_1 a1_0 a1_1 a2_0 a2_1)) else (billiardlaw13_SegmentPoints.j0 k true a0_0 a0_1 a1_0 a1_1 a2_0 a2_1))
theorem billiardlaw13_SegmentPoints.mono_l : ∀ k, (∀ y0 y1 y2 y3 y4 y5 y6, LeO (billiardlaw13_SegmentPoints.j0 k y0 y1 y2 y3 y4 y5 y6) (billiardlaw13_SegmentPoints.j0 (k + 1) y0 y1 y2 y3 y4 y5 y6))
  | 0 => fun _ _ _ _ _ _ _ r h => by simp [billiardlaw13_SegmentPoints.j0] at h
  | k + 1 => by
    have ih0 := billiardlaw13_SegmentPoints.mono_l k
    · intro y0 y1 y2 y3 y4 y5 y6
      unfold billiardlaw13_SegmentPoints.j0
      repeat' first
      | (with_reducible exact ih0 _ _ _ _ _ _ _)
      | (with_reducible exact LeO.refl _)
      | (with_reducible exact LeO.none _)
      | (with_reducible refine LeO.ite ?_ ?_)
      | (with_reducible refine LeO.bind ?_ (fun _ => ?_))
      | exact ih0 _ _ _ _ _ _ _
      | exact LeO.none _
      | refine LeO.ite ?_ ?_
      | refine LeO.bind ?_ (fun _ => ?_)
theorem billiardlaw13_SegmentPoints.mono : ∀ a0 a1 a2 a3 a4 a5 k, LeO (billiardlaw13_SegmentPoints.f k a0 a1 a2 a3 a4 a5) (billiardlaw13_SegmentPoints.f (k + 1) a0 a1 a2 a3 a4 a5) := by
  intro a0 a1 a2 a3 a4 a5 k
  have ih0 := billiardlaw13_SegmentPoints.mono_l k
  unfold billiardlaw13_SegmentPoints.f
  repeat' first
      | (with_reducible exact ih0 _ _ _ _ _ _ _)
      | (with_reducible exact LeO.refl _)
      | (with_reducible exact LeO.none _)
      | (with_reducible refine LeO.ite ?_ ?_)
      | (with_reducible refine LeO.bind ?_ (fun _ => ?_))
      | exact ih0 _ _ _ _ _ _ _
      | exact LeO.none _
      | refine LeO.ite ?_ ?_
      | refine LeO.bind ?_ (fun _ => ?_)
def billiardlaw13_SegmentPoints.T6 : Bool × List (List Nat × List Nat) := (true, [([], []), ([], []), ([0, 1], [0, 1]), ([2], [2]), ([], []), ([], []), ([4, 5], [4, 5]), ([6, 3], [6]), ([3, 7], [3, 7]), ([8, 7, 0, 1, 2, 3, 4, 5, 6, 7, 8], [8])])
def billiardlaw13_SegmentPoints.B6 : List Nat := [0, 0, 3, 7, 0, 0, 48, 127, 255, 511]
theorem billiardlaw13_SegmentPoints.tab6 : rtab .any (opsOf Try.f7 6) = billiardlaw13_SegmentPoints.T6 := by kernel_rfl
theorem billiardlaw13_SegmentPoints.bits6 : waitsOk billiardlaw13_SegmentPoints.T6.2 billiardlaw13_SegmentPoints.B6 = true := by kernel_rfl
set_option maxHeartbeats 8000000 in
set_option maxRecDepth 100000 in
theorem billiardlaw13_SegmentPoints.calls (k : Nat) (a0_0 : Int) (a0_1 : Int) (a1_0 : Int) (a1_1 : Int) (a2_0 : Int) (a2_1 : Int) (r : Bool) (w : World) (h : billiardlaw13_SegmentPoints.f k a0_0 a0_1 a1_0 a1_1 a2_0 a2_1 = some r) :
    Calls Try.prog 7 #[.agg #[.int .i32 a0_0, .int .i32 a0_1], .agg #[.int .i32 a1_0, .int .i32 a1_1], .agg #[.int .i32 a2_0, .int .i32 a2_1]] w fun e w' => e = .returned (.bool r) ∧ Below w.heap.size w w' := by
  have hu23 := Try.underlying23
  have hu29 := Try.underlying29
  have HB := Aside0.mk (Below.refl w.heap.size w)
  have H : ((billiardlaw13_awake.f).bind fun t298 => (if t298 = true then ((billiardref13_Right.f a0_0 a0_1 a0_0 a0_1 a1_0 a1_1 a2_0 a2_1).bind fun t299 => (billiardlaw13_SegmentPoints.j0 k (!t299) a0_0 a0_1 a1_0 a1_1 a2_0 a2_1)) else (billiardlaw13_SegmentPoints.j0 k true a0_0 a0_1 a1_0 a1_1 a2_0 a2_1))) = some r := h
  clear h
  have HC4 := Aside0.mk H
  clear H
  go_enter Try.func7, Try.ntmps7
  go_upto_region 1 with (first | ((with_reducible refine gate_dst (N := 3) rfl ?_); (try (refine gate_guard (by rfl) ?_; dsimp only)); refine box_event ?hg (N := 3) ?hd (cs := #[.int .i32 a0_0, .int .i32 a0_1]) (t := 23) ?hr ?_; (case hd => rfl); (case hg => rfl); (case hr => first | (go_simp; done) | (go_simp; rfl)); intro gb295 hg w5 hbox hb; have n0_ := Aside0.mk (below_step (by repeat (first | (with_reducible first | exact HB.out | apply below_alloc | apply pw_below_drewN | apply below_drew1) | exact HB.out)) hb); have n1_ := Aside0.mk (hbox); have n2_ := Aside0.mk ((by rw [hg]; exact (below_size (by repeat (first | (with_reducible first | exact HB.out | apply below_alloc | apply pw_below_drewN | apply below_drew1) | exact HB.out))) : w.heap.size ≤ gb295)); have n3_ := Aside0.mk ((by rw [hg]; exact (below_size (by repeat (first | (with_reducible first | exact HB.out | apply below_alloc | apply pw_below_drewN | apply below_drew1) | exact HB.out))) : w.heap.size ≤ gb295)); clear HB; have HB := n0_; have BK295 := n1_; have GW295 := n2_; have GE295 := n3_; clear n0_ n1_ n2_ n3_; clear hb hbox hg) | ((with_reducible refine gate_dst (N := 4) rfl ?_); (try (refine gate_guard (by rfl) ?_; dsimp only)); refine box_event ?hg (N := 4) ?hd (cs := #[.int .i32 a1_0, .int .i32 a1_1]) (t := 23) ?hr ?_; (case hd => rfl); (case hg => rfl); (case hr => first | (go_simp; done) | (go_simp; rfl)); intro gb296 hg w6 hbox hb; have n0_ := Aside0.mk (blk_below (g := gb295) (o := .cells #[.int .i32 a0_0, .int .i32 a0_1] 23 (0, 0)) (by (with_reducible repeat (first | refine blk_drewN ?_ _ | refine blk_drew ?_ | refine blk_alloc ?_ _)); exact BK295.out) hb); have n1_ := Aside0.mk (below_step (by repeat (first | (with_reducible first | exact HB.out | apply below_alloc | apply pw_below_drewN | apply below_drew1 | refine below_set ?_ GE295.out) | exact HB.out)) hb); have n2_ := Aside0.mk (hbox); have n3_ := Aside0.mk ((by rw [hg]; exact (below_size (by repeat (first | (with_reducible first | exact HB.out | apply below_alloc | apply pw_below_drewN | apply below_drew1 | refine below_set ?_ GE295.out) | exact HB.out))) : w.heap.size ≤ gb296)); have n4_ := Aside0.mk ((by rw [hg]; exact (below_size (by repeat (first | (with_reducible first | exact HB.out | apply below_alloc | apply pw_below_drewN | apply below_drew1 | refine below_set ?_ GE295.out) | exact HB.out))) : w.heap.size ≤ gb296)); have n5_ := Aside0.mk ((by rw [hg]; exact Nat.ne_of_lt (blk_lt (g := gb295) (o := .cells #[.int .i32 a0_0, .int .i32 a0_1] 23 (0, 0)) (by (with_reducible repeat (first | refine blk_drewN ?_ _ | refine blk_drew ?_ | refine blk_alloc ?_ _)); exact BK295.out)) : gb295 ≠ gb296)); have n6_ := Aside0.mk ((by rw [hg]; exact Nat.ne_of_gt (blk_lt (g := gb295) (o := .cells #[.int .i32 a0_0, .int .i32 a0_1] 23 (0, 0)) (by (with_reducible repeat (first | refine blk_drewN ?_ _ | refine blk_drew ?_ | refine blk_alloc ?_ _)); exact BK295.out)) : gb296 ≠ gb295)); clear BK295; clear HB; have BK295 := n0_; have HB := n1_; have BK296 := n2_; have GW296 := n3_; have GE296 := n4_; have NB295_296 := n5_; have NB296_295 := n6_; clear n0_ n1_ n2_ n3_ n4_ n5_ n6_; clear hb hbox hg) | ((with_reducible refine gate_dst (N := 5) rfl ?_); (try (refine gate_guard (by rfl) ?_; dsimp only)); refine box_event ?hg (N := 5) ?hd (cs := #[.int .i32 a2_0, .int .i32 a2_1]) (t := 23) ?hr ?_; (case hd => rfl); (case hg => rfl); (case hr => first | (go_simp; done) | (go_simp; rfl)); intro gb297 hg w7 hbox hb; have n0_ := Aside0.mk (blk_below (g := gb295) (o := .cells #[.int .i32 a0_0, .int .i32 a0_1] 23 (0, 0)) (by (with_reducible repeat (first | refine blk_drewN ?_ _ | refine blk_drew ?_ | refine blk_alloc ?_ _)); exact BK295.out) hb); have n1_ := Aside0.mk (blk_below (g := gb296) (o := .cells #[.int .i32 a1_0, .int .i32 a1_1] 23 (0, 0)) (by (with_reducible repeat (first | refine blk_drewN ?_ _ | refine blk_drew ?_ | refine blk_alloc ?_ _)); exact BK296.out) hb); have n2_ := Aside0.mk (below_step (by repeat (first | (with_reducible first | exact HB.out | apply below_alloc | apply pw_below_drewN | apply below_drew1 | refine below_set ?_ GE295.out | refine below_set ?_ GE296.out) | exact HB.out)) hb); have n3_ := Aside0.mk (hbox); have n4_ := Aside0.mk ((by rw [hg]; exact (below_size (by repeat (first | (with_reducible first | exact HB.out | apply below_alloc | apply pw_below_drewN | apply below_drew1 | refine below_set ?_ GE295.out | refine below_set ?_ GE296.out) | exact HB.out))) : w.heap.size ≤ gb297)); have n5_ := Aside0.mk ((by rw [hg]; exact (below_size (by repeat (first | (with_reducible first | exact HB.out | apply below_alloc | apply pw_below_drewN | apply below_drew1 | refine below_set ?_ GE295.out | refine below_set ?_ GE296.out) | exact HB.out))) : w.heap.size ≤ gb297)); have n6_ := Aside0.mk ((by rw [hg]; exact Nat.ne_of_lt (blk_lt (g := gb295) (o := .cells #[.int .i32 a0_0, .int .i32 a0_1] 23 (0, 0)) (by (with_reducible repeat (first | refine blk_drewN ?_ _ | refine blk_drew ?_ | refine blk_alloc ?_ _)); exact BK295.out)) : gb295 ≠ gb297)); have n7_ := Aside0.mk ((by rw [hg]; exact Nat.ne_of_gt (blk_lt (g := gb295) (o := .cells #[.int .i32 a0_0, .int .i32 a0_1] 23 (0, 0)) (by (with_reducible repeat (first | refine blk_drewN ?_ _ | refine blk_drew ?_ | refine blk_alloc ?_ _)); exact BK295.out)) : gb297 ≠ gb295)); have n8_ := Aside0.mk ((by rw [hg]; exact Nat.ne_of_lt (blk_lt (g := gb296) (o := .cells #[.int .i32 a1_0, .int .i32 a1_1] 23 (0, 0)) (by (with_reducible repeat (first | refine blk_drewN ?_ _ | refine blk_drew ?_ | refine blk_alloc ?_ _)); exact BK296.out)) : gb296 ≠ gb297)); have n9_ := Aside0.mk ((by rw [hg]; exact Nat.ne_of_gt (blk_lt (g := gb296) (o := .cells #[.int .i32 a1_0, .int .i32 a1_1] 23 (0, 0)) (by (with_reducible repeat (first | refine blk_drewN ?_ _ | refine blk_drew ?_ | refine blk_alloc ?_ _)); exact BK296.out)) : gb297 ≠ gb296)); clear BK295; clear BK296; clear HB; have BK295 := n0_; have BK296 := n1_; have HB := n2_; have BK297 := n3_; have GW297 := n4_; have GE297 := n5_; have NB295_297 := n6_; have NB297_295 := n7_; have NB296_297 := n8_; have NB297_296 := n9_; clear n0_ n1_ n2_ n3_ n4_ n5_ n6_ n7_ n8_ n9_; clear hb hbox hg))
  (try simp only [Act.put, List.setIfInBounds_toArray, List.set_cons_zero, List.set_cons_succ])
  go_cut [20] (fun v20 wc => ∃ (kq : Nat) (x20_3 : Bool), v20 = .bool x20_3 ∧ Aside0 (billiardlaw13_SegmentPoints.j0 kq x20_3 a0_0 a0_1 a1_0 a1_1 a2_0 a2_1 = some r) ∧ Aside0 (kq ≤ k) ∧ Aside0 (wc.heap[gb295]? = some (.cells #[.int .i32 a0_0, .int .i32 a0_1] 23 (0, 0))) ∧ Aside0 (wc.heap[gb296]? = some (.cells #[.int .i32 a1_0, .int .i32 a1_1] 23 (0, 0))) ∧ Aside0 (wc.heap[gb297]? = some (.cells #[.int .i32 a2_0, .int .i32 a2_1] 23 (0, 0))) ∧ Aside0 (Below w.heap.size w wc))
  case first =>
    have H := HC4.out
    clear HC4
    replace H := Option.bind_eq_some_iff.mp H
    obtain ⟨t298, A80, H⟩ := H
    replace H : (if t298 = true then ((billiardref13_Right.f a0_0 a0_1 a0_0 a0_1 a1_0 a1_1 a2_0 a2_1).bind fun t299 => (billiardlaw13_SegmentPoints.j0 k (!t299) a0_0 a0_1 a1_0 a1_1 a2_0 a2_1)) else (billiardlaw13_SegmentPoints.j0 k true a0_0 a0_1 a1_0 a1_1 a2_0 a2_1)) = some r := H
    have A8 := Aside0.mk A80
    clear A80
    by_cases c9 : t298 = true
    · subst c9
      have H1 : ((billiardref13_Right.f a0_0 a0_1 a0_0 a0_1 a1_0 a1_1 a2_0 a2_1).bind fun t299 => (billiardlaw13_SegmentPoints.j0 k (!t299) a0_0 a0_1 a1_0 a1_1 a2_0 a2_1)) = some r := by rw [if_pos rfl] at H; exact H
      clear H
      have H := H1
      clear H1
      replace H := Option.bind_eq_some_iff.mp H
      obtain ⟨t299, A100, H⟩ := H
      replace H : (billiardlaw13_SegmentPoints.j0 k (!t299) a0_0 a0_1 a1_0 a1_1 a2_0 a2_1) = some r := H
      have A10 := Aside0.mk A100
      clear A100
      have H' := Aside0.mk H
      clear H
      go_wp2_with (first | ((with_reducible refine gate_callee (f := 8) rfl ?_); refine goesL_ (some 11) rfl rfl Try.func8 (by kernel_rfl) rfl #[] rfl (by (try simp only [List.map_toArray, List.map_cons, List.map_nil]); first | done | rfl | (simp only [List.length_drop, List.length_take]; rfl)) ?_; (with_reducible refine (billiardlaw13_awake.calls  true _ A8.out).mono ?_); rintro e w11 ⟨rfl, hb⟩; refine ⟨_, rfl, ?_⟩; have n0_ := Aside0.mk (blk_below (g := gb295) (o := .cells #[.int .i32 a0_0, .int .i32 a0_1] 23 (0, 0)) (by (with_reducible repeat (first | refine blk_drewN ?_ _ | refine blk_drew ?_ | refine blk_alloc ?_ _)); exact BK295.out) hb); have n1_ := Aside0.mk (blk_below (g := gb296) (o := .cells #[.int .i32 a1_0, .int .i32 a1_1] 23 (0, 0)) (by (with_reducible repeat (first | refine blk_drewN ?_ _ | refine blk_drew ?_ | refine blk_alloc ?_ _)); exact BK296.out) hb); have n2_ := Aside0.mk (blk_below (g := gb297) (o := .cells #[.int .i32 a2_0, .int .i32 a2_1] 23 (0, 0)) (by (with_reducible repeat (first | refine blk_drewN ?_ _ | refine blk_drew ?_ | refine blk_alloc ?_ _)); exact BK297.out) hb); have n3_ := Aside0.mk (below_step (by repeat (first | (with_reducible first | exact HB.out | apply below_alloc | apply pw_below_drewN | apply below_drew1 | refine below_set ?_ GE295.out | refine below_set ?_ GE296.out | refine below_set ?_ GE297.out) | exact HB.out)) hb); clear BK295; clear BK296; clear BK297; clear HB; have BK295 := n0_; have BK296 := n1_; have BK297 := n2_; have HB := n3_; clear n0_ n1_ n2_ n3_; (try clear hb); (try clear hb2); (try clear hk); (try clear hi); have hnb12 := NB295_296.out; have hnc12 := NB296_295.out; have hnb13 := NB295_297.out; have hnc13 := NB297_295.out; have hcz14_0 : w11.cell? ⟨gb295, 0, none⟩ = some (.int .i32 a0_0) := (blk_cell BK295.out 0).trans rfl; have hcz14_1 : w11.cell? ⟨gb295, 1, none⟩ = some (.int .i32 a0_1) := (blk_cell BK295.out 1).trans rfl; have hfz14_0 := blk_frozen BK295.out 0; have hfz14_1 := blk_frozen BK295.out 1; have hnb15 := NB296_297.out; have hnc15 := NB297_296.out; have hcz16_0 : w11.cell? ⟨gb296, 0, none⟩ = some (.int .i32 a1_0) := (blk_cell BK296.out 0).trans rfl; have hcz16_1 : w11.cell? ⟨gb296, 1, none⟩ = some (.int .i32 a1_1) := (blk_cell BK296.out 1).trans rfl; have hfz16_0 := blk_frozen BK296.out 0; have hfz16_1 := blk_frozen BK296.out 1; have hcz17_0 : w11.cell? ⟨gb297, 0, none⟩ = some (.int .i32 a2_0) := (blk_cell BK297.out 0).trans rfl; have hcz17_1 : w11.cell? ⟨gb297, 1, none⟩ = some (.int .i32 a2_1) := (blk_cell BK297.out 1).trans rfl; have hfz17_0 := blk_frozen BK297.out 0; have hfz17_1 := blk_frozen BK297.out 1) | (go_at_call 9; (with_reducible refine (billiardref13_Right.calls a0_0 a0_1 a0_0 a0_1 a1_0 a1_1 a2_0 a2_1 t299 _ A10.out).mono ?_); rintro e w18 ⟨rfl, hb⟩; have n0_ := Aside0.mk (blk_below (g := gb295) (o := .cells #[.int .i32 a0_0, .int .i32 a0_1] 23 (0, 0)) (by (with_reducible repeat (first | refine blk_drewN ?_ _ | refine blk_drew ?_ | refine blk_alloc ?_ _)); exact BK295.out) hb); have n1_ := Aside0.mk (blk_below (g := gb296) (o := .cells #[.int .i32 a1_0, .int .i32 a1_1] 23 (0, 0)) (by (with_reducible repeat (first | refine blk_drewN ?_ _ | refine blk_drew ?_ | refine blk_alloc ?_ _)); exact BK296.out) hb); have n2_ := Aside0.mk (blk_below (g := gb297) (o := .cells #[.int .i32 a2_0, .int .i32 a2_1] 23 (0, 0)) (by (with_reducible repeat (first | refine blk_drewN ?_ _ | refine blk_drew ?_ | refine blk_alloc ?_ _)); exact BK297.out) hb); have n3_ := Aside0.mk (below_step (by repeat (first | (with_reducible first | exact HB.out | apply below_alloc | apply pw_below_drewN | apply below_drew1 | refine below_set ?_ GE295.out | refine below_set ?_ GE296.out | refine below_set ?_ GE297.out) | exact HB.out)) hb); clear BK295; clear BK296; clear BK297; clear HB; have BK295 := n0_; have BK296 := n1_; have BK297 := n2_; have HB := n3_; clear n0_ n1_ n2_ n3_; (try clear hb); (try clear hb2); (try clear hk); (try clear hi)))
      go_meet
      case rel => exact ⟨_, (!t299), (by first | rfl | (simp; done) | (simp [*]; done)), H', ⟨by first | omega | exact Nat.le_refl _⟩, ⟨by (with_reducible repeat (first | refine blk_drewN ?_ _ | refine blk_drew ?_ | refine blk_alloc ?_ _)); exact BK295.out⟩, ⟨by (with_reducible repeat (first | refine blk_drewN ?_ _ | refine blk_drew ?_ | refine blk_alloc ?_ _)); exact BK296.out⟩, ⟨by (with_reducible repeat (first | refine blk_drewN ?_ _ | refine blk_drew ?_ | refine blk_alloc ?_ _)); exact BK297.out⟩, ⟨by repeat (first | (with_reducible first | exact HB.out | apply below_alloc | apply pw_below_drewN | apply below_drew1 | refine below_set ?_ GE295.out | refine below_set ?_ GE296.out | refine below_set ?_ GE297.out) | exact HB.out)⟩⟩
    · replace c9 := Bool.eq_false_iff.mpr c9
      subst c9
      have H1 : (billiardlaw13_SegmentPoints.j0 k true a0_0 a0_1 a1_0 a1_1 a2_0 a2_1) = some r := by rw [if_neg (show ¬ (false = true) by decide)] at H; exact H
      clear H
      have H := H1
      clear H1
      have H' := Aside0.mk H
      clear H
      go_wp2_with (first | ((with_reducible refine gate_callee (f := 8) rfl ?_); refine goesL_ (some 11) rfl rfl Try.func8 (by kernel_rfl) rfl #[] rfl (by (try simp only [List.map_toArray, List.map_cons, List.map_nil]); first | done | rfl | (simp only [List.length_drop, List.length_take]; rfl)) ?_; (with_reducible refine (billiardlaw13_awake.calls  false _ A8.out).mono ?_); rintro e w19 ⟨rfl, hb⟩; refine ⟨_, rfl, ?_⟩; have n0_ := Aside0.mk (blk_below (g := gb295) (o := .cells #[.int .i32 a0_0, .int .i32 a0_1] 23 (0, 0)) (by (with_reducible repeat (first | refine blk_drewN ?_ _ | refine blk_drew ?_ | refine blk_alloc ?_ _)); exact BK295.out) hb); have n1_ := Aside0.mk (blk_below (g := gb296) (o := .cells #[.int .i32 a1_0, .int .i32 a1_1] 23 (0, 0)) (by (with_reducible repeat (first | refine blk_drewN ?_ _ | refine blk_drew ?_ | refine blk_alloc ?_ _)); exact BK296.out) hb); have n2_ := Aside0.mk (blk_below (g := gb297) (o := .cells #[.int .i32 a2_0, .int .i32 a2_1] 23 (0, 0)) (by (with_reducible repeat (first | refine blk_drewN ?_ _ | refine blk_drew ?_ | refine blk_alloc ?_ _)); exact BK297.out) hb); have n3_ := Aside0.mk (below_step (by repeat (first | (with_reducible first | exact HB.out | apply below_alloc | apply pw_below_drewN | apply below_drew1 | refine below_set ?_ GE295.out | refine below_set ?_ GE296.out | refine below_set ?_ GE297.out) | exact HB.out)) hb); clear BK295; clear BK296; clear BK297; clear HB; have BK295 := n0_; have BK296 := n1_; have BK297 := n2_; have HB := n3_; clear n0_ n1_ n2_ n3_; (try clear hb); (try clear hb2); (try clear hk); (try clear hi)))
      go_meet
      case rel => exact ⟨_, (true), (by first | rfl | (simp; done) | (simp [*]; done)), H', ⟨by first | omega | exact Nat.le_refl _⟩, ⟨by (with_reducible repeat (first | refine blk_drewN ?_ _ | refine blk_drew ?_ | refine blk_alloc ?_ _)); exact BK295.out⟩, ⟨by (with_reducible repeat (first | refine blk_drewN ?_ _ | refine blk_drew ?_ | refine blk_alloc ?_ _)); exact BK296.out⟩, ⟨by (with_reducible repeat (first | refine blk_drewN ?_ _ | refine blk_drew ?_ | refine blk_alloc ?_ _)); exact BK297.out⟩, ⟨by repeat (first | (with_reducible first | exact HB.out | apply below_alloc | apply pw_below_drewN | apply below_drew1 | refine below_set ?_ GE295.out | refine below_set ?_ GE296.out | refine below_set ?_ GE297.out) | exact HB.out)⟩⟩
  case rest =>
    clear HC4
    try clear c1
    try clear p2
    try clear c7
    try clear c8
    try clear c9
    try clear c12
    try clear c13
    try clear c15
    try clear hcz14_0
    try clear hcz14_1
    try clear hcz16_0
    try clear hcz16_1
    try clear hcz17_0
    try clear hcz17_1
    try clear hfz14_0
    try clear hfz14_1
    try clear hfz16_0
    try clear hfz16_1
    try clear hfz17_0
    try clear hfz17_1
    obtain ⟨kq, x20_3, rfl, HA, HJ3, BK295, BK296, BK297, HB⟩ := hcut
    cases kq with
    | zero => exact absurd HA.out (by simp [billiardlaw13_SegmentPoints.j0])
    | succ kj3 =>
      have H := HA.out
      clear HA
      simp only [billiardlaw13_SegmentPoints.j0] at H
      by_cases c20 : x20_3 = true
      · subst c20
        have H1 : ((billiardlaw13_awake.f).bind fun t300 => (some t300)) = some r := by rw [if_pos rfl] at H; exact H
        clear H
        have H := H1
        clear H1
        replace H := Option.bind_eq_some_iff.mp H
        obtain ⟨t300, A210, H⟩ := H
        replace H : (some t300) = some r := H
        have A21 := Aside0.mk A210
        clear A210
        obtain rfl := Option.some.inj H
        go_wp2_with (first | ((with_reducible refine gate_callee (f := 8) rfl ?_); refine goesL_ (some 21) rfl rfl Try.func8 (by kernel_rfl) rfl #[] rfl (by (try simp only [List.map_toArray, List.map_cons, List.map_nil]); first | done | rfl | (simp only [List.length_drop, List.length_take]; rfl)) ?_; (with_reducible refine (billiardlaw13_awake.calls  t300 _ A21.out).mono ?_); rintro e w22 ⟨rfl, hb⟩; refine ⟨_, rfl, ?_⟩; have n0_ := Aside0.mk (blk_below (g := gb295) (o := .cells #[.int .i32 a0_0, .int .i32 a0_1] 23 (0, 0)) (by (with_reducible repeat (first | refine blk_drewN ?_ _ | refine blk_drew ?_ | refine blk_alloc ?_ _)); exact BK295.out) hb); have n1_ := Aside0.mk (blk_below (g := gb296) (o := .cells #[.int .i32 a1_0, .int .i32 a1_1] 23 (0, 0)) (by (with_reducible repeat (first | refine blk_drewN ?_ _ | refine blk_drew ?_ | refine blk_alloc ?_ _)); exact BK296.out) hb); have n2_ := Aside0.mk (blk_below (g := gb297) (o := .cells #[.int .i32 a2_0, .int .i32 a2_1] 23 (0, 0)) (by (with_reducible repeat (first | refine blk_drewN ?_ _ | refine blk_drew ?_ | refine blk_alloc ?_ _)); exact BK297.out) hb); have n3_ := Aside0.mk (below_step (by repeat (first | (with_reducible first | exact HB.out | apply below_alloc | apply pw_below_drewN | apply below_drew1 | refine below_set ?_ GE295.out | refine below_set ?_ GE296.out | refine below_set ?_ GE297.out) | exact HB.out)) hb); clear BK295; clear BK296; clear BK297; clear HB; have BK295 := n0_; have BK296 := n1_; have BK297 := n2_; have HB := n3_; clear n0_ n1_ n2_ n3_; (try clear hb); (try clear hb2); (try clear hk); (try clear hi)))
        go_ret
        exact ⟨by first | rfl | (simp [errW_none, errW_some] <;> rfl) | (simp [*, errW_none, errW_some] <;> rfl), by repeat (first | (with_reducible first | exact HB.out | apply below_alloc | apply pw_below_drewN | apply below_drew1 | refine below_set ?_ GE295.out | refine below_set ?_ GE296.out | refine below_set ?_ GE297.out) | exact HB.out)⟩
      · replace c20 := Bool.eq_false_iff.mpr c20
        subst c20
        have H1 : ((segment_DistSq.f a0_0 a0_1 a0_0 a0_1 a1_0 a1_1 a2_0 a2_1).bind fun t301 => ((segment_DistSq.f a1_0 a1_1 a2_0 a2_1 a0_0 a0_1 a0_0 a0_1).bind fun t302 => ((billiardref12_DistSq.f a1_0 a1_1 a2_0 a2_1 a0_0 a0_1).bind fun t303 => ((billiardref13_DistSq.f a0_0 a0_1 a1_0 a1_1).bind fun t304 => ((billiardref13_DistSq.f a0_0 a0_1 a2_0 a2_1).bind fun t305 => (if t301 = t302 then (some (t301 == (mn t303 (mn t304 t305)))) else (some false))))))) = some r := by rw [if_neg (show ¬ (false = true) by decide)] at H; exact H
        clear H
        have H := H1
        clear H1
        replace H := Option.bind_eq_some_iff.mp H
        obtain ⟨t301, A230, H⟩ := H
        replace H : ((segment_DistSq.f a1_0 a1_1 a2_0 a2_1 a0_0 a0_1 a0_0 a0_1).bind fun t302 => ((billiardref12_DistSq.f a1_0 a1_1 a2_0 a2_1 a0_0 a0_1).bind fun t303 => ((billiardref13_DistSq.f a0_0 a0_1 a1_0 a1_1).bind fun t304 => ((billiardref13_DistSq.f a0_0 a0_1 a2_0 a2_1).bind fun t305 => (if t301 = t302 then (some (t301 == (mn t303 (mn t304 t305)))) else (some false)))))) = some r := H
        have A23 := Aside0.mk A230
        clear A230
        replace H := Option.bind_eq_some_iff.mp H
        obtain ⟨t302, A240, H⟩ := H
        replace H : ((billiardref12_DistSq.f a1_0 a1_1 a2_0 a2_1 a0_0 a0_1).bind fun t303 => ((billiardref13_DistSq.f a0_0 a0_1 a1_0 a1_1).bind fun t304 => ((billiardref13_DistSq.f a0_0 a0_1 a2_0 a2_1).bind fun t305 => (if t301 = t302 then (some (t301 == (mn t303 (mn t304 t305)))) else (some false))))) = some r := H
        have A24 := Aside0.mk A240
        clear A240
        replace H := Option.bind_eq_some_iff.mp H
        obtain ⟨t303, A250, H⟩ := H
        replace H : ((billiardref13_DistSq.f a0_0 a0_1 a1_0 a1_1).bind fun t304 => ((billiardref13_DistSq.f a0_0 a0_1 a2_0 a2_1).bind fun t305 => (if t301 = t302 then (some (t301 == (mn t303 (mn t304 t305)))) else (some false)))) = some r := H
        have A25 := Aside0.mk A250
        clear A250
        replace H := Option.bind_eq_some_iff.mp H
        obtain ⟨t304, A260, H⟩ := H
        replace H : ((billiardref13_DistSq.f a0_0 a0_1 a2_0 a2_1).bind fun t305 => (if t301 = t302 then (some (t301 == (mn t303 (mn t304 t305)))) else (some false))) = some r := H
        have A26 := Aside0.mk A260
        clear A260
        replace H := Option.bind_eq_some_iff.mp H
        obtain ⟨t305, A270, H⟩ := H
        replace H : (if t301 = t302 then (some (t301 == (mn t303 (mn t304 t305)))) else (some false)) = some r := H
        have A27 := Aside0.mk A270
        clear A270
        obtain ⟨ji28, hji28⟩ : ∃ j_ : Int, (mn t304 t305) = j_ := ⟨_, rfl⟩
        replace H : (if t301 = t302 then (some (t301 == (mn t303 (ji28)))) else (some false)) = some r := by first | (rw [hji28] at H; exact H) | (simp only [hji28] at H ⊢; exact H)
        (try rw [hji28] at A23)
        (try rw [hji28] at A24)
        (try rw [hji28] at A25)
        (try rw [hji28] at A26)
        (try rw [hji28] at A27)
        have hji28_ : (if t305 < t304 then t305 else t304) = ji28 := hji28
        by_cases c29 : t301 = t302
        · rw [if_pos c29] at H
          have c29b0 : (t301 == t302) = true := beq_iff_eq.mpr c29
          have c29b1 : (t301 != t302) = false := bne_eq_false_iff_eq.mpr c29
          clear c29
          obtain ⟨ji30, hji30⟩ : ∃ j_ : Int, (mn t303 (ji28)) = j_ := ⟨_, rfl⟩
          replace H : (some (t301 == (ji30))) = some r := by first | (rw [hji30] at H; exact H) | (simp only [hji30] at H ⊢; exact H)
          (try rw [hji30] at A23)
          (try rw [hji30] at A24)
          (try rw [hji30] at A25)
          (try rw [hji30] at A26)
          (try rw [hji30] at A27)
          have hji30_ : (if (ji28) < t303 then (ji28) else t303) = ji30 := hji30
          obtain rfl := Option.some.inj H
          have hnb31 := NB295_296.out
          have hnc31 := NB296_295.out
          have hnb32 := NB295_297.out
          have hnc32 := NB297_295.out
          have hcz33_0 : wc.cell? ⟨gb295, 0, none⟩ = some (.int .i32 a0_0) := (blk_cell BK295.out 0).trans rfl
          have hcz33_1 : wc.cell? ⟨gb295, 1, none⟩ = some (.int .i32 a0_1) := (blk_cell BK295.out 1).trans rfl
          have hfz33_0 := blk_frozen BK295.out 0
          have hfz33_1 := blk_frozen BK295.out 1
          have hnb34 := NB296_297.out
          have hnc34 := NB297_296.out
          have hcz35_0 : wc.cell? ⟨gb296, 0, none⟩ = some (.int .i32 a1_0) := (blk_cell BK296.out 0).trans rfl
          have hcz35_1 : wc.cell? ⟨gb296, 1, none⟩ = some (.int .i32 a1_1) := (blk_cell BK296.out 1).trans rfl
          have hfz35_0 := blk_frozen BK296.out 0
          have hfz35_1 := blk_frozen BK296.out 1
          have hcz36_0 : wc.cell? ⟨gb297, 0, none⟩ = some (.int .i32 a2_0) := (blk_cell BK297.out 0).trans rfl
          have hcz36_1 : wc.cell? ⟨gb297, 1, none⟩ = some (.int .i32 a2_1) := (blk_cell BK297.out 1).trans rfl
          have hfz36_0 := blk_frozen BK297.out 0
          have hfz36_1 := blk_frozen BK297.out 1
          try go_wp2_with (first | ((with_reducible refine gate_callee (f := 12) rfl ?_); refine goesL_ (some 26) rfl rfl Try.func12 (by kernel_rfl) rfl #[.agg #[.int .i32 a0_0, .int .i32 a0_1], .agg #[.int .i32 a0_0, .int .i32 a0_1], .agg #[.int .i32 a1_0, .int .i32 a1_1], .agg #[.int .i32 a2_0, .int .i32 a2_1]] rfl (by (try simp only [List.map_toArray, List.map_cons, List.map_nil]); first | done | rfl | (simp only [List.length_drop, List.length_take]; rfl)) ?_; (with_reducible refine (segment_DistSq.calls a0_0 a0_1 a0_0 a0_1 a1_0 a1_1 a2_0 a2_1 t301 _ A23.out).mono ?_); rintro e w37 ⟨rfl, hb⟩; refine ⟨_, rfl, ?_⟩; have n0_ := Aside0.mk (blk_below (g := gb295) (o := .cells #[.int .i32 a0_0, .int .i32 a0_1] 23 (0, 0)) (by (with_reducible repeat (first | refine blk_drewN ?_ _ | refine blk_drew ?_ | refine blk_alloc ?_ _)); exact BK295.out) hb); have n1_ := Aside0.mk (blk_below (g := gb296) (o := .cells #[.int .i32 a1_0, .int .i32 a1_1] 23 (0, 0)) (by (with_reducible repeat (first | refine blk_drewN ?_ _ | refine blk_drew ?_ | refine blk_alloc ?_ _)); exact BK296.out) hb); have n2_ := Aside0.mk (blk_below (g := gb297) (o := .cells #[.int .i32 a2_0, .int .i32 a2_1] 23 (0, 0)) (by (with_reducible repeat (first | refine blk_drewN ?_ _ | refine blk_drew ?_ | refine blk_alloc ?_ _)); exact BK297.out) hb); have n3_ := Aside0.mk (below_step (by repeat (first | (with_reducible first | exact HB.out | apply below_alloc | apply pw_below_drewN | apply below_drew1 | refine below_set ?_ GE295.out | refine below_set ?_ GE296.out | refine below_set ?_ GE297.out) | exact HB.out)) hb); clear BK295; clear BK296; clear BK297; clear HB; have BK295 := n0_; have BK296 := n1_; have BK297 := n2_; have HB := n3_; clear n0_ n1_ n2_ n3_; (try clear hb); (try clear hb2); (try clear hk); (try clear hi); have hcz38_0 : w37.cell? ⟨gb296, 0, none⟩ = some (.int .i32 a1_0) := (blk_cell BK296.out 0).trans rfl; have hcz38_1 : w37.cell? ⟨gb296, 1, none⟩ = some (.int .i32 a1_1) := (blk_cell BK296.out 1).trans rfl; have hfz38_0 := blk_frozen BK296.out 0; have hfz38_1 := blk_frozen BK296.out 1; have hcz39_0 : w37.cell? ⟨gb297, 0, none⟩ = some (.int .i32 a2_0) := (blk_cell BK297.out 0).trans rfl; have hcz39_1 : w37.cell? ⟨gb297, 1, none⟩ = some (.int .i32 a2_1) := (blk_cell BK297.out 1).trans rfl; have hfz39_0 := blk_frozen BK297.out 0; have hfz39_1 := blk_frozen BK297.out 1; have hcz40_0 : w37.cell? ⟨gb295, 0, none⟩ = some (.int .i32 a0_0) := (blk_cell BK295.out 0).trans rfl; have hcz40_1 : w37.cell? ⟨gb295, 1, none⟩ = some (.int .i32 a0_1) := (blk_cell BK295.out 1).trans rfl; have hfz40_0 := blk_frozen BK295.out 0; have hfz40_1 := blk_frozen BK295.out 1) | ((with_reducible refine gate_callee (f := 12) rfl ?_); refine goesL_ (some 31) rfl rfl Try.func12 (by kernel_rfl) rfl #[.agg #[.int .i32 a1_0, .int .i32 a1_1], .agg #[.int .i32 a2_0, .int .i32 a2_1], .agg #[.int .i32 a0_0, .int .i32 a0_1], .agg #[.int .i32 a0_0, .int .i32 a0_1]] rfl (by (try simp only [List.map_toArray, List.map_cons, List.map_nil]); first | done | rfl | (simp only [List.length_drop, List.length_take]; rfl)) ?_; (with_reducible refine (segment_DistSq.calls a1_0 a1_1 a2_0 a2_1 a0_0 a0_1 a0_0 a0_1 t302 _ A24.out).mono ?_); rintro e w41 ⟨rfl, hb⟩; refine ⟨_, rfl, ?_⟩; have n0_ := Aside0.mk (blk_below (g := gb295) (o := .cells #[.int .i32 a0_0, .int .i32 a0_1] 23 (0, 0)) (by (with_reducible repeat (first | refine blk_drewN ?_ _ | refine blk_drew ?_ | refine blk_alloc ?_ _)); exact BK295.out) hb); have n1_ := Aside0.mk (blk_below (g := gb296) (o := .cells #[.int .i32 a1_0, .int .i32 a1_1] 23 (0, 0)) (by (with_reducible repeat (first | refine blk_drewN ?_ _ | refine blk_drew ?_ | refine blk_alloc ?_ _)); exact BK296.out) hb); have n2_ := Aside0.mk (blk_below (g := gb297) (o := .cells #[.int .i32 a2_0, .int .i32 a2_1] 23 (0, 0)) (by (with_reducible repeat (first | refine blk_drewN ?_ _ | refine blk_drew ?_ | refine blk_alloc ?_ _)); exact BK297.out) hb); have n3_ := Aside0.mk (below_step (by repeat (first | (with_reducible first | exact HB.out | apply below_alloc | apply pw_below_drewN | apply below_drew1 | refine below_set ?_ GE295.out | refine below_set ?_ GE296.out | refine below_set ?_ GE297.out) | exact HB.out)) hb); clear BK295; clear BK296; clear BK297; clear HB; have BK295 := n0_; have BK296 := n1_; have BK297 := n2_; have HB := n3_; clear n0_ n1_ n2_ n3_; (try clear hb); (try clear hb2); (try clear hk); (try clear hi); have hcz42_0 : w41.cell? ⟨gb296, 0, none⟩ = some (.int .i32 a1_0) := (blk_cell BK296.out 0).trans rfl; have hcz42_1 : w41.cell? ⟨gb296, 1, none⟩ = some (.int .i32 a1_1) := (blk_cell BK296.out 1).trans rfl; have hfz42_0 := blk_frozen BK296.out 0; have hfz42_1 := blk_frozen BK296.out 1; have hcz43_0 : w41.cell? ⟨gb297, 0, none⟩ = some (.int .i32 a2_0) := (blk_cell BK297.out 0).trans rfl; have hcz43_1 : w41.cell? ⟨gb297, 1, none⟩ = some (.int .i32 a2_1) := (blk_cell BK297.out 1).trans rfl; have hfz43_0 := blk_frozen BK297.out 0; have hfz43_1 := blk_frozen BK297.out 1; have hcz44_0 : w41.cell? ⟨gb295, 0, none⟩ = some (.int .i32 a0_0) := (blk_cell BK295.out 0).trans rfl; have hcz44_1 : w41.cell? ⟨gb295, 1, none⟩ = some (.int .i32 a0_1) := (blk_cell BK295.out 1).trans rfl; have hfz44_0 := blk_frozen BK295.out 0; have hfz44_1 := blk_frozen BK295.out 1) | ((with_reducible refine gate_callee (f := 14) rfl ?_); refine goesL_ (some 35) rfl rfl Try.func14 (by kernel_rfl) rfl #[.agg #[.int .i32 a1_0, .int .i32 a1_1], .agg #[.int .i32 a2_0, .int .i32 a2_1], .agg #[.int .i32 a0_0, .int .i32 a0_1]] rfl (by (try simp only [List.map_toArray, List.map_cons, List.map_nil]); first | done | rfl | (simp only [List.length_drop, List.length_take]; rfl)) ?_; (with_reducible refine (billiardref12_DistSq.calls a1_0 a1_1 a2_0 a2_1 a0_0 a0_1 t303 _ A25.out).mono ?_); rintro e w45 ⟨rfl, hb⟩; refine ⟨_, rfl, ?_⟩; have n0_ := Aside0.mk (blk_below (g := gb295) (o := .cells #[.int .i32 a0_0, .int .i32 a0_1] 23 (0, 0)) (by (with_reducible repeat (first | refine blk_drewN ?_ _ | refine blk_drew ?_ | refine blk_alloc ?_ _)); exact BK295.out) hb); have n1_ := Aside0.mk (blk_below (g := gb296) (o := .cells #[.int .i32 a1_0, .int .i32 a1_1] 23 (0, 0)) (by (with_reducible repeat (first | refine blk_drewN ?_ _ | refine blk_drew ?_ | refine blk_alloc ?_ _)); exact BK296.out) hb); have n2_ := Aside0.mk (blk_below (g := gb297) (o := .cells #[.int .i32 a2_0, .int .i32 a2_1] 23 (0, 0)) (by (with_reducible repeat (first | refine blk_drewN ?_ _ | refine blk_drew ?_ | refine blk_alloc ?_ _)); exact BK297.out) hb); have n3_ := Aside0.mk (below_step (by repeat (first | (with_reducible first | exact HB.out | apply below_alloc | apply pw_below_drewN | apply below_drew1 | refine below_set ?_ GE295.out | refine below_set ?_ GE296.out | refine below_set ?_ GE297.out) | exact HB.out)) hb); clear BK295; clear BK296; clear BK297; clear HB; have BK295 := n0_; have BK296 := n1_; have BK297 := n2_; have HB := n3_; clear n0_ n1_ n2_ n3_; (try clear hb); (try clear hb2); (try clear hk); (try clear hi)))
          have n0_ := Aside0.mk (blk_drew BK295.out)
          have n1_ := Aside0.mk (blk_drew BK296.out)
          have n2_ := Aside0.mk (blk_drew BK297.out)
          have n3_ := Aside0.mk (below_drew1 HB.out)
          clear BK295
          clear BK296
          clear BK297
          clear HB
          have BK295 := n0_
          have BK296 := n1_
          have BK297 := n2_
          have HB := n3_
          clear n0_ n1_ n2_ n3_
          refine start_ (n := 10) (S := fun w' => w'.cell? ⟨gb295, 0, none⟩ = some (.int .i32 a0_0) ∧ w'.cell? ⟨gb295, 1, none⟩ = some (.int .i32 a0_1) ∧ w'.cell? ⟨gb296, 0, none⟩ = some (.int .i32 a1_0) ∧ w'.cell? ⟨gb296, 1, none⟩ = some (.int .i32 a1_1) ∧ w'.cell? ⟨gb297, 0, none⟩ = some (.int .i32 a2_0) ∧ w'.cell? ⟨gb297, 1, none⟩ = some (.int .i32 a2_1)) (ds := []) #[false, false, false, false, false, false, false, false, false, false] (by kernel_rfl) rfl rfl ⟨(blk_cell BK295.out 0).trans rfl, (blk_cell BK295.out 1).trans rfl, (blk_cell BK296.out 0).trans rfl, (blk_cell BK296.out 1).trans rfl, (blk_cell BK297.out 0).trans rfl, (blk_cell BK297.out 1).trans rfl⟩ (fun hHeld => ?_); refine with_tabW billiardlaw13_SegmentPoints.tab6 billiardlaw13_SegmentPoints.bits6 (fun HT_ HW_ => ?_)
          generalize w45.drew = w46 at BK295 BK296 BK297 HB hHeld ⊢
          refine take_ (i := 0) (N := some 36) (v := ?_) (a' := ?_) #[true, false, false, false, false, false, false, false, false, false] rfl rfl (take_ofW HT_.out HW_.out (by kernel_rfl)) (fun _ _ _ h => h) (Or.inl ⟨by rfl, ?_⟩) hHeld ?_ ?_
          rotate_left
          · rintro w' ⟨s0, s1, s2, s3, s4, s5⟩
            go_simp
            with_reducible rfl
          rotate_left
          · simp only [Act.put, List.setIfInBounds_toArray, List.set_cons_zero, List.set_cons_succ, i64_w, i32_w]
            rfl
          refine take_ (i := 1) (N := some 37) (v := ?_) (a' := ?_) #[true, true, false, false, false, false, false, false, false, false] rfl rfl (take_ofW HT_.out HW_.out (by kernel_rfl)) (fun _ _ _ h => h) (Or.inl ⟨by rfl, ?_⟩) hHeld ?_ ?_
          rotate_left
          · rintro w' ⟨s0, s1, s2, s3, s4, s5⟩
            go_simp
            with_reducible rfl
          rotate_left
          · simp only [Act.put, List.setIfInBounds_toArray, List.set_cons_zero, List.set_cons_succ, i64_w, i32_w]
            rfl
          refine pure_ (i := 2) (N := some 38) (v := ?_) (a' := ?_) #[true, true, true, false, false, false, false, false, false, false] rfl rfl (any_of HT_.out (by kernel_rfl)) (fun _ _ _ h => h) (Or.inl ⟨by rfl, ?_⟩) ?_ ?_
          rotate_left
          · intro w'
            go_simp
            with_reducible rfl
          rotate_left
          · simp only [Act.put, List.setIfInBounds_toArray, List.set_cons_zero, List.set_cons_succ, i64_w, i32_w]
            rfl
          refine take_ (i := 4) (N := some 40) (v := ?_) (a' := ?_) #[true, true, true, false, true, false, false, false, false, false] rfl rfl (take_ofW HT_.out HW_.out (by kernel_rfl)) (fun _ _ _ h => h) (Or.inl ⟨by rfl, ?_⟩) hHeld ?_ ?_
          rotate_left
          · rintro w' ⟨s0, s1, s2, s3, s4, s5⟩
            go_simp
            with_reducible rfl
          rotate_left
          · simp only [Act.put, List.setIfInBounds_toArray, List.set_cons_zero, List.set_cons_succ, i64_w, i32_w]
            rfl
          refine take_ (i := 5) (N := some 41) (v := ?_) (a' := ?_) #[true, true, true, false, true, true, false, false, false, false] rfl rfl (take_ofW HT_.out HW_.out (by kernel_rfl)) (fun _ _ _ h => h) (Or.inl ⟨by rfl, ?_⟩) hHeld ?_ ?_
          rotate_left
          · rintro w' ⟨s0, s1, s2, s3, s4, s5⟩
            go_simp
            with_reducible rfl
          rotate_left
          · simp only [Act.put, List.setIfInBounds_toArray, List.set_cons_zero, List.set_cons_succ, i64_w, i32_w]
            rfl
          refine pure_ (i := 6) (N := some 42) (v := ?_) (a' := ?_) #[true, true, true, false, true, true, true, false, false, false] rfl rfl (any_of HT_.out (by kernel_rfl)) (fun _ _ _ h => h) (Or.inl ⟨by rfl, ?_⟩) ?_ ?_
          rotate_left
          · intro w'
            go_simp
            with_reducible rfl
          rotate_left
          · simp only [Act.put, List.setIfInBounds_toArray, List.set_cons_zero, List.set_cons_succ, i64_w, i32_w]
            rfl
          refine one_ (i := 3) (N := some 39) #[true, true, true, true, true, true, true, false, false, false] rfl rfl (one_of HT_.out (by kernel_rfl)) (by decide) (fun K hK => ?_)
          refine goes_ Try.func13 (by kernel_rfl) rfl #[.agg #[.int .i32 a0_0, .int .i32 a0_1, .int .i32 a1_0, .int .i32 a1_1]] (by rfl) rfl rfl (by (try simp only [List.map_toArray, List.map_cons, List.map_nil]); first | done | rfl | (simp only [List.length_drop, List.length_take]; rfl)) ?_
          with_reducible refine (billiardref13_DistSq.calls a0_0 a0_1 a1_0 a1_1 t304 _ A26.out).mono ?_
          rintro e w47 ⟨rfl, hb⟩
          refine ⟨_, rfl, ?_⟩
          have n0_ := Aside0.mk (blk_below (g := gb295) (o := .cells #[.int .i32 a0_0, .int .i32 a0_1] 23 (0, 0)) (by (with_reducible repeat (first | refine blk_drewN ?_ _ | refine blk_drew ?_ | refine blk_alloc ?_ _)); exact BK295.out) hb)
          have n1_ := Aside0.mk (blk_below (g := gb296) (o := .cells #[.int .i32 a1_0, .int .i32 a1_1] 23 (0, 0)) (by (with_reducible repeat (first | refine blk_drewN ?_ _ | refine blk_drew ?_ | refine blk_alloc ?_ _)); exact BK296.out) hb)
          have n2_ := Aside0.mk (blk_below (g := gb297) (o := .cells #[.int .i32 a2_0, .int .i32 a2_1] 23 (0, 0)) (by (with_reducible repeat (first | refine blk_drewN ?_ _ | refine blk_drew ?_ | refine blk_alloc ?_ _)); exact BK297.out) hb)
          have n3_ := Aside0.mk (below_step (by repeat (first | (with_reducible first | exact HB.out | apply below_alloc | apply pw_below_drewN | apply below_drew1 | refine below_set ?_ GE295.out | refine below_set ?_ GE296.out | refine below_set ?_ GE297.out) | exact HB.out)) hb)
          clear BK295
          clear BK296
          clear BK297
          clear HB
          have BK295 := n0_
          have BK296 := n1_
          have BK297 := n2_
          have HB := n3_
          clear n0_ n1_ n2_ n3_
          (try clear hb)
          (try clear hb2)
          (try clear hk)
          (try clear hi)
          refine hK.out _ _ ⟨(blk_cell BK295.out 0).trans rfl, (blk_cell BK295.out 1).trans rfl, (blk_cell BK296.out 0).trans rfl, (blk_cell BK296.out 1).trans rfl, (blk_cell BK297.out 0).trans rfl, (blk_cell BK297.out 1).trans rfl⟩ (fun hHeld => ?_)
          clear hK K
          refine norm_ (a' := ?_) ?_ ?_
          rotate_left
          · show Act.put _ (some 39) _ = _
            simp only [Act.put, List.setIfInBounds_toArray, List.set_cons_zero, List.set_cons_succ, i64_w, i32_w]
            rfl
          refine one_ (i := 7) (N := some 43) #[true, true, true, true, true, true, true, true, false, false] rfl rfl (one_of HT_.out (by kernel_rfl)) (by decide) (fun K hK => ?_)
          refine goes_ Try.func13 (by kernel_rfl) rfl #[.agg #[.int .i32 a0_0, .int .i32 a0_1, .int .i32 a2_0, .int .i32 a2_1]] (by rfl) rfl rfl (by (try simp only [List.map_toArray, List.map_cons, List.map_nil]); first | done | rfl | (simp only [List.length_drop, List.length_take]; rfl)) ?_
          with_reducible refine (billiardref13_DistSq.calls a0_0 a0_1 a2_0 a2_1 t305 _ A27.out).mono ?_
          rintro e w48 ⟨rfl, hb⟩
          refine ⟨_, rfl, ?_⟩
          have n0_ := Aside0.mk (blk_below (g := gb295) (o := .cells #[.int .i32 a0_0, .int .i32 a0_1] 23 (0, 0)) (by (with_reducible repeat (first | refine blk_drewN ?_ _ | refine blk_drew ?_ | refine blk_alloc ?_ _)); exact BK295.out) hb)
          have n1_ := Aside0.mk (blk_below (g := gb296) (o := .cells #[.int .i32 a1_0, .int .i32 a1_1] 23 (0, 0)) (by (with_reducible repeat (first | refine blk_drewN ?_ _ | refine blk_drew ?_ | refine blk_alloc ?_ _)); exact BK296.out) hb)
          have n2_ := Aside0.mk (blk_below (g := gb297) (o := .cells #[.int .i32 a2_0, .int .i32 a2_1] 23 (0, 0)) (by (with_reducible repeat (first | refine blk_drewN ?_ _ | refine blk_drew ?_ | refine blk_alloc ?_ _)); exact BK297.out) hb)
          have n3_ := Aside0.mk (below_step (by repeat (first | (with_reducible first | exact HB.out | apply below_alloc | apply pw_below_drewN | apply below_drew1 | refine below_set ?_ GE295.out | refine below_set ?_ GE296.out | refine below_set ?_ GE297.out) | exact HB.out)) hb)
          clear BK295
          clear BK296
          clear BK297
          clear HB
          have BK295 := n0_
          have BK296 := n1_
          have BK297 := n2_
          have HB := n3_
          clear n0_ n1_ n2_ n3_
          (try clear hb)
          (try clear hb2)
          (try clear hk)
          (try clear hi)
          refine hK.out _ _ ⟨(blk_cell BK295.out 0).trans rfl, (blk_cell BK295.out 1).trans rfl, (blk_cell BK296.out 0).trans rfl, (blk_cell BK296.out 1).trans rfl, (blk_cell BK297.out 0).trans rfl, (blk_cell BK297.out 1).trans rfl⟩ (fun hHeld => ?_)
          clear hK K
          refine norm_ (a' := ?_) ?_ ?_
          rotate_left
          · show Act.put _ (some 43) _ = _
            simp only [Act.put, List.setIfInBounds_toArray, List.set_cons_zero, List.set_cons_succ, i64_w, i32_w]
            rfl
          refine pure_ (i := 8) (N := some 44) (v := ?_) (a' := ?_) #[true, true, true, true, true, true, true, true, true, false] rfl rfl (any_of HT_.out (by kernel_rfl)) (fun _ _ _ h => h) (Or.inl ⟨by rfl, ?_⟩) ?_ ?_
          rotate_left
          · intro w'
            go_simp
            with_reducible rfl
          rotate_left
          · simp only [Act.put, List.setIfInBounds_toArray, List.set_cons_zero, List.set_cons_succ, i64_w, i32_w]
            rfl
          refine pure_ (i := 9) (N := some 10) (v := ?_) (a' := ?_) #[true, true, true, true, true, true, true, true, true, true] rfl rfl (any_of HT_.out (by kernel_rfl)) (fun _ _ _ h => h) (Or.inl ⟨by rfl, ?_⟩) ?_ ?_
          rotate_left
          · intro w'
            go_simp
            with_reducible rfl
          rotate_left
          · simp only [Act.put, List.setIfInBounds_toArray, List.set_cons_zero, List.set_cons_succ, i64_w, i32_w]
            rfl
          refine done_ (done_of HT_.out (by kernel_rfl)) ?_
          try go_wp2
          go_ret
          exact ⟨by first | rfl | (simp [errW_none, errW_some] <;> rfl) | (simp only [← hji28, ← hji30]; first | rfl | (simp [errW_none, errW_some] <;> rfl)) | (simp [*, errW_none, errW_some] <;> rfl), by repeat (first | (with_reducible first | exact HB.out | apply below_alloc | apply pw_below_drewN | apply below_drew1 | refine below_set ?_ GE295.out | refine below_set ?_ GE296.out | refine below_set ?_ GE297.out) | exact HB.out)⟩
        · rw [if_neg c29] at H
          have c29b0 : (t301 == t302) = false := beq_eq_false_iff_ne.mpr c29
          have c29b1 : (t301 != t302) = true := bne_iff_ne.mpr c29
          obtain rfl := Option.some.inj H
          have hnb49 := NB295_296.out
          have hnc49 := NB296_295.out
          have hnb50 := NB295_297.out
          have hnc50 := NB297_295.out
          have hcz51_0 : wc.cell? ⟨gb295, 0, none⟩ = some (.int .i32 a0_0) := (blk_cell BK295.out 0).trans rfl
          have hcz51_1 : wc.cell? ⟨gb295, 1, none⟩ = some (.int .i32 a0_1) := (blk_cell BK295.out 1).trans rfl
          have hfz51_0 := blk_frozen BK295.out 0
          have hfz51_1 := blk_frozen BK295.out 1
          have hnb52 := NB296_297.out
          have hnc52 := NB297_296.out
          have hcz53_0 : wc.cell? ⟨gb296, 0, none⟩ = some (.int .i32 a1_0) := (blk_cell BK296.out 0).trans rfl
          have hcz53_1 : wc.cell? ⟨gb296, 1, none⟩ = some (.int .i32 a1_1) := (blk_cell BK296.out 1).trans rfl
          have hfz53_0 := blk_frozen BK296.out 0
          have hfz53_1 := blk_frozen BK296.out 1
          have hcz54_0 : wc.cell? ⟨gb297, 0, none⟩ = some (.int .i32 a2_0) := (blk_cell BK297.out 0).trans rfl
          have hcz54_1 : wc.cell? ⟨gb297, 1, none⟩ = some (.int .i32 a2_1) := (blk_cell BK297.out 1).trans rfl
          have hfz54_0 := blk_frozen BK297.out 0
          have hfz54_1 := blk_frozen BK297.out 1
          try go_wp2_with (first | ((with_reducible refine gate_callee (f := 12) rfl ?_); refine goesL_ (some 26) rfl rfl Try.func12 (by kernel_rfl) rfl #[.agg #[.int .i32 a0_0, .int .i32 a0_1], .agg #[.int .i32 a0_0, .int .i32 a0_1], .agg #[.int .i32 a1_0, .int .i32 a1_1], .agg #[.int .i32 a2_0, .int .i32 a2_1]] rfl (by (try simp only [List.map_toArray, List.map_cons, List.map_nil]); first | done | rfl | (simp only [List.length_drop, List.length_take]; rfl)) ?_; (with_reducible refine (segment_DistSq.calls a0_0 a0_1 a0_0 a0_1 a1_0 a1_1 a2_0 a2_1 t301 _ A23.out).mono ?_); rintro e w55 ⟨rfl, hb⟩; refine ⟨_, rfl, ?_⟩; have n0_ := Aside0.mk (blk_below (g := gb295) (o := .cells #[.int .i32 a0_0, .int .i32 a0_1] 23 (0, 0)) (by (with_reducible repeat (first | refine blk_drewN ?_ _ | refine blk_drew ?_ | refine blk_alloc ?_ _)); exact BK295.out) hb); have n1_ := Aside0.mk (blk_below (g := gb296) (o := .cells #[.int .i32 a1_0, .int .i32 a1_1] 23 (0, 0)) (by (with_reducible repeat (first | refine blk_drewN ?_ _ | refine blk_drew ?_ | refine blk_alloc ?_ _)); exact BK296.out) hb); have n2_ := Aside0.mk (blk_below (g := gb297) (o := .cells #[.int .i32 a2_0, .int .i32 a2_1] 23 (0, 0)) (by (with_reducible repeat (first | refine blk_drewN ?_ _ | refine blk_drew ?_ | refine blk_alloc ?_ _)); exact BK297.out) hb); have n3_ := Aside0.mk (below_step (by repeat (first | (with_reducible first | exact HB.out | apply below_alloc | apply pw_below_drewN | apply below_drew1 | refine below_set ?_ GE295.out | refine below_set ?_ GE296.out | refine below_set ?_ GE297.out) | exact HB.out)) hb); clear BK295; clear BK296; clear BK297; clear HB; have BK295 := n0_; have BK296 := n1_; have BK297 := n2_; have HB := n3_; clear n0_ n1_ n2_ n3_; (try clear hb); (try clear hb2); (try clear hk); (try clear hi); have hcz56_0 : w55.cell? ⟨gb296, 0, none⟩ = some (.int .i32 a1_0) := (blk_cell BK296.out 0).trans rfl; have hcz56_1 : w55.cell? ⟨gb296, 1, none⟩ = some (.int .i32 a1_1) := (blk_cell BK296.out 1).trans rfl; have hfz56_0 := blk_frozen BK296.out 0; have hfz56_1 := blk_frozen BK296.out 1; have hcz57_0 : w55.cell? ⟨gb297, 0, none⟩ = some (.int .i32 a2_0) := (blk_cell BK297.out 0).trans rfl; have hcz57_1 : w55.cell? ⟨gb297, 1, none⟩ = some (.int .i32 a2_1) := (blk_cell BK297.out 1).trans rfl; have hfz57_0 := blk_frozen BK297.out 0; have hfz57_1 := blk_frozen BK297.out 1; have hcz58_0 : w55.cell? ⟨gb295, 0, none⟩ = some (.int .i32 a0_0) := (blk_cell BK295.out 0).trans rfl; have hcz58_1 : w55.cell? ⟨gb295, 1, none⟩ = some (.int .i32 a0_1) := (blk_cell BK295.out 1).trans rfl; have hfz58_0 := blk_frozen BK295.out 0; have hfz58_1 := blk_frozen BK295.out 1) | ((with_reducible refine gate_callee (f := 12) rfl ?_); refine goesL_ (some 31) rfl rfl Try.func12 (by kernel_rfl) rfl #[.agg #[.int .i32 a1_0, .int .i32 a1_1], .agg #[.int .i32 a2_0, .int .i32 a2_1], .agg #[.int .i32 a0_0, .int .i32 a0_1], .agg #[.int .i32 a0_0, .int .i32 a0_1]] rfl (by (try simp only [List.map_toArray, List.map_cons, List.map_nil]); first | done | rfl | (simp only [List.length_drop, List.length_take]; rfl)) ?_; (with_reducible refine (segment_DistSq.calls a1_0 a1_1 a2_0 a2_1 a0_0 a0_1 a0_0 a0_1 t302 _ A24.out).mono ?_); rintro e w59 ⟨rfl, hb⟩; refine ⟨_, rfl, ?_⟩; have n0_ := Aside0.mk (blk_below (g := gb295) (o := .cells #[.int .i32 a0_0, .int .i32 a0_1] 23 (0, 0)) (by (with_reducible repeat (first | refine blk_drewN ?_ _ | refine blk_drew ?_ | refine blk_alloc ?_ _)); exact BK295.out) hb); have n1_ := Aside0.mk (blk_below (g := gb296) (o := .cells #[.int .i32 a1_0, .int .i32 a1_1] 23 (0, 0)) (by (with_reducible repeat (first | refine blk_drewN ?_ _ | refine blk_drew ?_ | refine blk_alloc ?_ _)); exact BK296.out) hb); have n2_ := Aside0.mk (blk_below (g := gb297) (o := .cells #[.int .i32 a2_0, .int .i32 a2_1] 23 (0, 0)) (by (with_reducible repeat (first | refine blk_drewN ?_ _ | refine blk_drew ?_ | refine blk_alloc ?_ _)); exact BK297.out) hb); have n3_ := Aside0.mk (below_step (by repeat (first | (with_reducible first | exact HB.out | apply below_alloc | apply pw_below_drewN | apply below_drew1 | refine below_set ?_ GE295.out | refine below_set ?_ GE296.out | refine below_set ?_ GE297.out) | exact HB.out)) hb); clear BK295; clear BK296; clear BK297; clear HB; have BK295 := n0_; have BK296 := n1_; have BK297 := n2_; have HB := n3_; clear n0_ n1_ n2_ n3_; (try clear hb); (try clear hb2); (try clear hk); (try clear hi); have hcz60_0 : w59.cell? ⟨gb296, 0, none⟩ = some (.int .i32 a1_0) := (blk_cell BK296.out 0).trans rfl; have hcz60_1 : w59.cell? ⟨gb296, 1, none⟩ = some (.int .i32 a1_1) := (blk_cell BK296.out 1).trans rfl; have hfz60_0 := blk_frozen BK296.out 0; have hfz60_1 := blk_frozen BK296.out 1; have hcz61_0 : w59.cell? ⟨gb297, 0, none⟩ = some (.int .i32 a2_0) := (blk_cell BK297.out 0).trans rfl; have hcz61_1 : w59.cell? ⟨gb297, 1, none⟩ = some (.int .i32 a2_1) := (blk_cell BK297.out 1).trans rfl; have hfz61_0 := blk_frozen BK297.out 0; have hfz61_1 := blk_frozen BK297.out 1; have hcz62_0 : w59.cell? ⟨gb295, 0, none⟩ = some (.int .i32 a0_0) := (blk_cell BK295.out 0).trans rfl; have hcz62_1 : w59.cell? ⟨gb295, 1, none⟩ = some (.int .i32 a0_1) := (blk_cell BK295.out 1).trans rfl; have hfz62_0 := blk_frozen BK295.out 0; have hfz62_1 := blk_frozen BK295.out 1) | ((with_reducible refine gate_callee (f := 14) rfl ?_); refine goesL_ (some 35) rfl rfl Try.func14 (by kernel_rfl) rfl #[.agg #[.int .i32 a1_0, .int .i32 a1_1], .agg #[.int .i32 a2_0, .int .i32 a2_1], .agg #[.int .i32 a0_0, .int .i32 a0_1]] rfl (by (try simp only [List.map_toArray, List.map_cons, List.map_nil]); first | done | rfl | (simp only [List.length_drop, List.length_take]; rfl)) ?_; (with_reducible refine (billiardref12_DistSq.calls a1_0 a1_1 a2_0 a2_1 a0_0 a0_1 t303 _ A25.out).mono ?_); rintro e w63 ⟨rfl, hb⟩; refine ⟨_, rfl, ?_⟩; have n0_ := Aside0.mk (blk_below (g := gb295) (o := .cells #[.int .i32 a0_0, .int .i32 a0_1] 23 (0, 0)) (by (with_reducible repeat (first | refine blk_drewN ?_ _ | refine blk_drew ?_ | refine blk_alloc ?_ _)); exact BK295.out) hb); have n1_ := Aside0.mk (blk_below (g := gb296) (o := .cells #[.int .i32 a1_0, .int .i32 a1_1] 23 (0, 0)) (by (with_reducible repeat (first | refine blk_drewN ?_ _ | refine blk_drew ?_ | refine blk_alloc ?_ _)); exact BK296.out) hb); have n2_ := Aside0.mk (blk_below (g := gb297) (o := .cells #[.int .i32 a2_0, .int .i32 a2_1] 23 (0, 0)) (by (with_reducible repeat (first | refine blk_drewN ?_ _ | refine blk_drew ?_ | refine blk_alloc ?_ _)); exact BK297.out) hb); have n3_ := Aside0.mk (below_step (by repeat (first | (with_reducible first | exact HB.out | apply below_alloc | apply pw_below_drewN | apply below_drew1 | refine below_set ?_ GE295.out | refine below_set ?_ GE296.out | refine below_set ?_ GE297.out) | exact HB.out)) hb); clear BK295; clear BK296; clear BK297; clear HB; have BK295 := n0_; have BK296 := n1_; have BK297 := n2_; have HB := n3_; clear n0_ n1_ n2_ n3_; (try clear hb); (try clear hb2); (try clear hk); (try clear hi)))
          have n0_ := Aside0.mk (blk_drew BK295.out)
          have n1_ := Aside0.mk (blk_drew BK296.out)
          have n2_ := Aside0.mk (blk_drew BK297.out)
          have n3_ := Aside0.mk (below_drew1 HB.out)
          clear BK295
          clear BK296
          clear BK297
          clear HB
          have BK295 := n0_
          have BK296 := n1_
          have BK297 := n2_
          have HB := n3_
          clear n0_ n1_ n2_ n3_
          refine start_ (n := 10) (S := fun w' => w'.cell? ⟨gb295, 0, none⟩ = some (.int .i32 a0_0) ∧ w'.cell? ⟨gb295, 1, none⟩ = some (.int .i32 a0_1) ∧ w'.cell? ⟨gb296, 0, none⟩ = some (.int .i32 a1_0) ∧ w'.cell? ⟨gb296, 1, none⟩ = some (.int .i32 a1_1) ∧ w'.cell? ⟨gb297, 0, none⟩ = some (.int .i32 a2_0) ∧ w'.cell? ⟨gb297, 1, none⟩ = some (.int .i32 a2_1)) (ds := []) #[false, false, false, false, false, false, false, false, false, false] (by kernel_rfl) rfl rfl ⟨(blk_cell BK295.out 0).trans rfl, (blk_cell BK295.out 1).trans rfl, (blk_cell BK296.out 0).trans rfl, (blk_cell BK296.out 1).trans rfl, (blk_cell BK297.out 0).trans rfl, (blk_cell BK297.out 1).trans rfl⟩ (fun hHeld => ?_); refine with_tabW billiardlaw13_SegmentPoints.tab6 billiardlaw13_SegmentPoints.bits6 (fun HT_ HW_ => ?_)
          generalize w63.drew = w64 at BK295 BK296 BK297 HB hHeld ⊢
          refine take_ (i := 0) (N := some 36) (v := ?_) (a' := ?_) #[true, false, false, false, false, false, false, false, false, false] rfl rfl (take_ofW HT_.out HW_.out (by kernel_rfl)) (fun _ _ _ h => h) (Or.inl ⟨by rfl, ?_⟩) hHeld ?_ ?_
          rotate_left
          · rintro w' ⟨s0, s1, s2, s3, s4, s5⟩
            go_simp
            with_reducible rfl
          rotate_left
          · simp only [Act.put, List.setIfInBounds_toArray, List.set_cons_zero, List.set_cons_succ, i64_w, i32_w]
            rfl
          refine take_ (i := 1) (N := some 37) (v := ?_) (a' := ?_) #[true, true, false, false, false, false, false, false, false, false] rfl rfl (take_ofW HT_.out HW_.out (by kernel_rfl)) (fun _ _ _ h => h) (Or.inl ⟨by rfl, ?_⟩) hHeld ?_ ?_
          rotate_left
          · rintro w' ⟨s0, s1, s2, s3, s4, s5⟩
            go_simp
            with_reducible rfl
          rotate_left
          · simp only [Act.put, List.setIfInBounds_toArray, List.set_cons_zero, List.set_cons_succ, i64_w, i32_w]
            rfl
          refine pure_ (i := 2) (N := some 38) (v := ?_) (a' := ?_) #[true, true, true, false, false, false, false, false, false, false] rfl rfl (any_of HT_.out (by kernel_rfl)) (fun _ _ _ h => h) (Or.inl ⟨by rfl, ?_⟩) ?_ ?_
          rotate_left
          · intro w'
            go_simp
            with_reducible rfl
          rotate_left
          · simp only [Act.put, List.setIfInBounds_toArray, List.set_cons_zero, List.set_cons_succ, i64_w, i32_w]
            rfl
          refine take_ (i := 4) (N := some 40) (v := ?_) (a' := ?_) #[true, true, true, false, true, false, false, false, false, false] rfl rfl (take_ofW HT_.out HW_.out (by kernel_rfl)) (fun _ _ _ h => h) (Or.inl ⟨by rfl, ?_⟩) hHeld ?_ ?_
          rotate_left
          · rintro w' ⟨s0, s1, s2, s3, s4, s5⟩
            go_simp
            with_reducible rfl
          rotate_left
          · simp only [Act.put, List.setIfInBounds_toArray, List.set_cons_zero, List.set_cons_succ, i64_w, i32_w]
            rfl
          refine take_ (i := 5) (N := some 41) (v := ?_) (a' := ?_) #[true, true, true, false, true, true, false, false, false, false] rfl rfl (take_ofW HT_.out HW_.out (by kernel_rfl)) (fun _ _ _ h => h) (Or.inl ⟨by rfl, ?_⟩) hHeld ?_ ?_
          rotate_left
          · rintro w' ⟨s0, s1, s2, s3, s4, s5⟩
            go_simp
            with_reducible rfl
          rotate_left
          · simp only [Act.put, List.setIfInBounds_toArray, List.set_cons_zero, List.set_cons_succ, i64_w, i32_w]
            rfl
          refine pure_ (i := 6) (N := some 42) (v := ?_) (a' := ?_) #[true, true, true, false, true, true, true, false, false, false] rfl rfl (any_of HT_.out (by kernel_rfl)) (fun _ _ _ h => h) (Or.inl ⟨by rfl, ?_⟩) ?_ ?_
          rotate_left
          · intro w'
            go_simp
            with_reducible rfl
          rotate_left
          · simp only [Act.put, List.setIfInBounds_toArray, List.set_cons_zero, List.set_cons_succ, i64_w, i32_w]
            rfl
          refine one_ (i := 3) (N := some 39) #[true, true, true, true, true, true, true, false, false, false] rfl rfl (one_of HT_.out (by kernel_rfl)) (by decide) (fun K hK => ?_)
          refine goes_ Try.func13 (by kernel_rfl) rfl #[.agg #[.int .i32 a0_0, .int .i32 a0_1, .int .i32 a1_0, .int .i32 a1_1]] (by rfl) rfl rfl (by (try simp only [List.map_toArray, List.map_cons, List.map_nil]); first | done | rfl | (simp only [List.length_drop, List.length_take]; rfl)) ?_
          with_reducible refine (billiardref13_DistSq.calls a0_0 a0_1 a1_0 a1_1 t304 _ A26.out).mono ?_
          rintro e w65 ⟨rfl, hb⟩
          refine ⟨_, rfl, ?_⟩
          have n0_ := Aside0.mk (blk_below (g := gb295) (o := .cells #[.int .i32 a0_0, .int .i32 a0_1] 23 (0, 0)) (by (with_reducible repeat (first | refine blk_drewN ?_ _ | refine blk_drew ?_ | refine blk_alloc ?_ _)); exact BK295.out) hb)
          have n1_ := Aside0.mk (blk_below (g := gb296) (o := .cells #[.int .i32 a1_0, .int .i32 a1_1] 23 (0, 0)) (by (with_reducible repeat (first | refine blk_drewN ?_ _ | refine blk_drew ?_ | refine blk_alloc ?_ _)); exact BK296.out) hb)
          have n2_ := Aside0.mk (blk_below (g := gb297) (o := .cells #[.int .i32 a2_0, .int .i32 a2_1] 23 (0, 0)) (by (with_reducible repeat (first | refine blk_drewN ?_ _ | refine blk_drew ?_ | refine blk_alloc ?_ _)); exact BK297.out) hb)
          have n3_ := Aside0.mk (below_step (by repeat (first | (with_reducible first | exact HB.out | apply below_alloc | apply pw_below_drewN | apply below_drew1 | refine below_set ?_ GE295.out | refine below_set ?_ GE296.out | refine below_set ?_ GE297.out) | exact HB.out)) hb)
          clear BK295
          clear BK296
          clear BK297
          clear HB
          have BK295 := n0_
          have BK296 := n1_
          have BK297 := n2_
          have HB := n3_
          clear n0_ n1_ n2_ n3_
          (try clear hb)
          (try clear hb2)
          (try clear hk)
          (try clear hi)
          refine hK.out _ _ ⟨(blk_cell BK295.out 0).trans rfl, (blk_cell BK295.out 1).trans rfl, (blk_cell BK296.out 0).trans rfl, (blk_cell BK296.out 1).trans rfl, (blk_cell BK297.out 0).trans rfl, (blk_cell BK297.out 1).trans rfl⟩ (fun hHeld => ?_)
          clear hK K
          refine norm_ (a' := ?_) ?_ ?_
          rotate_left
          · show Act.put _ (some 39) _ = _
            simp only [Act.put, List.setIfInBounds_toArray, List.set_cons_zero, List.set_cons_succ, i64_w, i32_w]
            rfl
          refine one_ (i := 7) (N := some 43) #[true, true, true, true, true, true, true, true, false, false] rfl rfl (one_of HT_.out (by kernel_rfl)) (by decide) (fun K hK => ?_)
          refine goes_ Try.func13 (by kernel_rfl) rfl #[.agg #[.int .i32 a0_0, .int .i32 a0_1, .int .i32 a2_0, .int .i32 a2_1]] (by rfl) rfl rfl (by (try simp only [List.map_toArray, List.map_cons, List.map_nil]); first | done | rfl | (simp only [List.length_drop, List.length_take]; rfl)) ?_
          with_reducible refine (billiardref13_DistSq.calls a0_0 a0_1 a2_0 a2_1 t305 _ A27.out).mono ?_
          rintro e w66 ⟨rfl, hb⟩
          refine ⟨_, rfl, ?_⟩
          have n0_ := Aside0.mk (blk_below (g := gb295) (o := .cells #[.int .i32 a0_0, .int .i32 a0_1] 23 (0, 0)) (by (with_reducible repeat (first | refine blk_drewN ?_ _ | refine blk_drew ?_ | refine blk_alloc ?_ _)); exact BK295.out) hb)
          have n1_ := Aside0.mk (blk_below (g := gb296) (o := .cells #[.int .i32 a1_0, .int .i32 a1_1] 23 (0, 0)) (by (with_reducible repeat (first | refine blk_drewN ?_ _ | refine blk_drew ?_ | refine blk_alloc ?_ _)); exact BK296.out) hb)
          have n2_ := Aside0.mk (blk_below (g := gb297) (o := .cells #[.int .i32 a2_0, .int .i32 a2_1] 23 (0, 0)) (by (with_reducible repeat (first | refine blk_drewN ?_ _ | refine blk_drew ?_ | refine blk_alloc ?_ _)); exact BK297.out) hb)
          have n3_ := Aside0.mk (below_step (by repeat (first | (with_reducible first | exact HB.out | apply below_alloc | apply pw_below_drewN | apply below_drew1 | refine below_set ?_ GE295.out | refine below_set ?_ GE296.out | refine below_set ?_ GE297.out) | exact HB.out)) hb)
          clear BK295
          clear BK296
          clear BK297
          clear HB
          have BK295 := n0_
          have BK296 := n1_
          have BK297 := n2_
          have HB := n3_
          clear n0_ n1_ n2_ n3_
          (try clear hb)
          (try clear hb2)
          (try clear hk)
          (try clear hi)
          refine hK.out _ _ ⟨(blk_cell BK295.out 0).trans rfl, (blk_cell BK295.out 1).trans rfl, (blk_cell BK296.out 0).trans rfl, (blk_cell BK296.out 1).trans rfl, (blk_cell BK297.out 0).trans rfl, (blk_cell BK297.out 1).trans rfl⟩ (fun hHeld => ?_)
          clear hK K
          refine norm_ (a' := ?_) ?_ ?_
          rotate_left
          · show Act.put _ (some 43) _ = _
            simp only [Act.put, List.setIfInBounds_toArray, List.set_cons_zero, List.set_cons_succ, i64_w, i32_w]
            rfl
          refine pure_ (i := 8) (N := some 44) (v := ?_) (a' := ?_) #[true, true, true, true, true, true, true, true, true, false] rfl rfl (any_of HT_.out (by kernel_rfl)) (fun _ _ _ h => h) (Or.inl ⟨by rfl, ?_⟩) ?_ ?_
          rotate_left
          · intro w'
            go_simp
            with_reducible rfl
          rotate_left
          · simp only [Act.put, List.setIfInBounds_toArray, List.set_cons_zero, List.set_cons_succ, i64_w, i32_w]
            rfl
          refine pure_ (i := 9) (N := some 10) (v := ?_) (a' := ?_) #[true, true, true, true, true, true, true, true, true, true] rfl rfl (any_of HT_.out (by kernel_rfl)) (fun _ _ _ h => h) (Or.inl ⟨by rfl, ?_⟩) ?_ ?_
          rotate_left
          · intro w'
            go_simp
            with_reducible rfl
          rotate_left
          · simp only [Act.put, List.setIfInBounds_toArray, List.set_cons_zero, List.set_cons_succ, i64_w, i32_w]
            rfl
          refine done_ (done_of HT_.out (by kernel_rfl)) ?_
          try go_wp2
          go_ret
          exact ⟨by first | rfl | (simp [errW_none, errW_some] <;> rfl) | (simp only [← hji28]; first | rfl | (simp [errW_none, errW_some] <;> rfl)) | (simp [*, errW_none, errW_some] <;> rfl), by repeat (first | (with_reducible first | exact HB.out | apply below_alloc | apply pw_below_drewN | apply below_drew1 | refine below_set ?_ GE295.out | refine below_set ?_ GE296.out | refine below_set ?_ GE297.out) | exact HB.out)⟩

/-- THE ONE PURE STATEMENT of billiardlaw13_SegmentPoints: yours. -/
def billiardlaw13_SegmentPoints.Pure : Prop := ∀ (a0_0 : Int) (a0_1 : Int) (a1_0 : Int) (a1_1 : Int) (a2_0 : Int) (a2_1 : Int), (Lit.int .i32 a0_0).wf = true → (Lit.int .i32 a0_1).wf = true → (Lit.int .i32 a1_0).wf = true → (Lit.int .i32 a1_1).wf = true → (Lit.int .i32 a2_0).wf = true → (Lit.int .i32 a2_1).wf = true → ∃ k, billiardlaw13_SegmentPoints.f k a0_0 a0_1 a1_0 a1_1 a2_0 a2_1 = some true
theorem billiardlaw13_SegmentPoints.walk (P : billiardlaw13_SegmentPoints.Pure) (a0_0 : Int) (a0_1 : Int) (a1_0 : Int) (a1_1 : Int) (a2_0 : Int) (a2_1 : Int) (w : World) (w0_0 : (Lit.int .i32 a0_0).wf = true) (w0_1 : (Lit.int .i32 a0_1).wf = true) (w1_0 : (Lit.int .i32 a1_0).wf = true) (w1_1 : (Lit.int .i32 a1_1).wf = true) (w2_0 : (Lit.int .i32 a2_0).wf = true) (w2_1 : (Lit.int .i32 a2_1).wf = true) :
    Calls Try.prog 7 #[.agg #[.int .i32 a0_0, .int .i32 a0_1], .agg #[.int .i32 a1_0, .int .i32 a1_1], .agg #[.int .i32 a2_0, .int .i32 a2_1]] w fun e w' => e = .returned (.bool true) ∧ Below w.heap.size w w' := by
  obtain ⟨k, h⟩ := P a0_0 a0_1 a1_0 a1_1 a2_0 a2_1 w0_0 w0_1 w1_0 w1_1 w2_0 w2_1
  refine (billiardlaw13_SegmentPoints.calls k a0_0 a0_1 a1_0 a1_1 a2_0 a2_1 true w h).mono ?_
  rintro e w' ⟨rfl, hd⟩
  exact ⟨rfl, hd⟩

end Go.Proofs.Ytddooigcnbpliaa.Q
