-- PRINTED by print.py (a twelfth state) out of the translation. Not trusted: Lean checks it.
import Derived.Test.YtddooigcnbpliaaQ0
import Derived.Test.YtddooigcnbpliaaQE0
import Derived.Test.YtddooigcnbpliaaQbilliardlaw13
import Derived.Test.YtddooigcnbpliaaQbilliardref12
import Derived.Test.YtddooigcnbpliaaQbilliardref13
import Derived.Test.YtddooigcnbpliaaQsegment
namespace Go.Proofs.Ytddooigcnbpliaa.Q
open Go.RowKit Go.Proofs.YtddooigcnbpliaaW.PrintWords Go.Proofs.YtddooigcnbpliaaW.PrintLast Go.Proofs.YtddooigcnbpliaaW.PrintMore
attribute [local go_sem] max2_int min2_int max_two min_two max_three min_three max_four min_four   -- for this text's walks alone
set_option linter.unusedVariables false
set_option linter.unusedSimpArgs false

attribute [local go_sem high] eqA23
/-! ### billiardlaw13_SegmentLeast: function 4 -/
mutual
def billiardlaw13_SegmentLeast.j0 : Nat → Bool → Int → Int → Int → Int → Int → Int → Int → Int → Option (Bool)
  | 0, _, _, _, _, _, _, _, _, _ => none
  | k + 1, x21, x214000, x214001, x215000, x215001, x216000, x216001, x217000, x217001 => if x21 = true then ((billiardlaw13_awake.f).bind fun t219 => (some t219)) else ((segment_DistSq.f x214000 x214001 x215000 x215001 x216000 x216001 x217000 x217001).bind fun t220 => ((segment_Chosen.f x214000 x214001 x215000 x215001 x216000 x216001 x217000 x217001).bind fun bt221 => ((billiardref12_DistSq.f x216000 x216001 x217000 x217001 x214000 x214001).bind fun t227 => (if t220 > t227 then (billiardlaw13_SegmentLeast.j1 k t220 true x214000 x214001 x215000 x215001 x216000 x216001 x217000 x217001 bt221.1 bt221.2.1 bt221.2.2.1 bt221.2.2.2) else ((billiardref12_DistSq.f x216000 x216001 x217000 x217001 x215000 x215001).bind fun t228 => (if t220 > t228 then (billiardlaw13_SegmentLeast.j1 k t220 true x214000 x214001 x215000 x215001 x216000 x216001 x217000 x217001 bt221.1 bt221.2.1 bt221.2.2.1 bt221.2.2.2) else ((billiardref12_DistSq.f x214000 x214001 x215000 x215001 x216000 x216001).bind fun t229 => (if t220 > t229 then (billiardlaw13_SegmentLeast.j1 k t220 true x214000 x214001 x215000 x215001 x216000 x216001 x217000 x217001 bt221.1 bt221.2.1 bt221.2.2.1 bt221.2.2.2) else ((billiardref12_DistSq.f x214000 x214001 x215000 x215001 x217000 x217001).bind fun t230 => (billiardlaw13_SegmentLeast.j1 k t220 (decide (t220 > t230)) x214000 x214001 x215000 x215001 x216000 x216001 x217000 x217001 bt221.1 bt221.2.1 bt221.2.2.1 bt221.2.2.2))))))))))
def billiardlaw13_SegmentLeast.j1 : Nat → Int → Bool → Int → Int → Int → Int → Int → Int → Int → Int → Int → Int → Int → Int → Option (Bool)
  | 0, _, _, _, _, _, _, _, _, _, _, _, _, _, _ => none
  | k + 1, x9, x65, x214000, x214001, x215000, x215001, x216000, x216001, x217000, x217001, x226000, x226001, x227000, x227001 => if x65 = true then (some false) else (if (x226000 == x214000 && (x226001 == x214001)) = true then ((billiardref13_DistSq.f x226000 x226001 x227000 x227001).bind fun t231 => (some (t231 == x9))) else (if (x226000 == x215000 && (x226001 == x215001)) = true then ((billiardref13_DistSq.f x226000 x226001 x227000 x227001).bind fun t232 => (some (t232 == x9))) else (if (x227000 == x216000 && (x227001 == x216001)) = true then ((billiardref13_DistSq.f x226000 x226001 x227000 x227001).bind fun t233 => (some (t233 == x9))) else (if (x227000 == x217000 && (x227001 == x217001)) = true then ((billiardref13_DistSq.f x226000 x226001 x227000 x227001).bind fun t234 => (some (t234 == x9))) else (some false)))))
end
def billiardlaw13_SegmentLeast.f (k : Nat) (a0_0 : Int) (a0_1 : Int) (a1_0 : Int) (a1_1 : Int) (a2_0 : Int) (a2_1 : Int) (a3_0 : Int) (a3_1 : Int) : Option (Bool) := (billiardlaw13_awake.f).bind fun t217 => (if t217 = true then ((billiardref13_Right.f a0_0 a0_1 a1_0 a1_1 a2_0 a2_1 a3_0 a3_1).bind fun t218 => (billiardlaw13_SegmentLeast.j0 k (!t218) a0_0 a0_1 a1_0 a1_1 a2_0 a2_1 a3_0 a3_1)) else (billiardlaw13_SegmentLeast.j0 k true a0_0 a0_1 a1_0 a1_1 a2_0 a2_1 a3_0 a3_1))
theorem billiardlaw13_SegmentLeast.mono_l : ∀ k, (∀ y0 y1 y2 y3 y4 y5 y6 y7 y8, LeO (billiardlaw13_SegmentLeast.j0 k y0 y1 y2 y3 y4 y5 y6 y7 y8) (billiardlaw13_SegmentLeast.j0 (k + 1) y0 y1 y2 y3 y4 y5 y6 y7 y8)) ∧ (∀ y0 y1 y2 y3 y4 y5 y6 y7 y8 y9 y10 y11 y12 y13, LeO (billiardlaw13_SegmentLeast.j1 k y0 y1 y2 y3 y4 y5 y6 y7 y8 y9 y10 y11 y12 y13) (billiardlaw13_SegmentLeast.j1 (k + 1) y0 y1 y2 y3 y4 y5 y6 y7 y8 y9 y10 y11 y12 y13))
  | 0 => ⟨fun _ _ _ _ _ _ _ _ _ r h => by simp [billiardlaw13_SegmentLeast.j0] at h, fun _ _ _ _ _ _ _ _ _ _ _ _ _ _ r h => by simp [billiardlaw13_SegmentLeast.j1] at h⟩
  | k + 1 => by
    obtain ⟨ih0, ih1⟩ := billiardlaw13_SegmentLeast.mono_l k
    refine ⟨?_, ?_⟩
    · intro y0 y1 y2 y3 y4 y5 y6 y7 y8
      unfold billiardlaw13_SegmentLeast.j0
      repeat' first
      | (with_reducible exact ih0 _ _ _ _ _ _ _ _ _)
      | (with_reducible exact ih1 _ _ _ _ _ _ _ _ _ _ _ _ _ _)
      | (with_reducible exact LeO.refl _)
      | (with_reducible exact LeO.none _)
      | (with_reducible refine LeO.ite ?_ ?_)
      | (with_reducible refine LeO.bind ?_ (fun _ => ?_))
      | exact ih0 _ _ _ _ _ _ _ _ _
      | exact ih1 _ _ _ _ _ _ _ _ _ _ _ _ _ _
      | exact LeO.none _
      | refine LeO.ite ?_ ?_
      | refine LeO.bind ?_ (fun _ => ?_)
    · intro y0 y1 y2 y3 y4 y5 y6 y7 y8 y9 y10 y11 y12 y13
      unfold billiardlaw13_SegmentLeast.j1
      repeat' first
      | (with_reducible exact ih0 _ _ _ _ _ _ _ _ _)
      | (with_reducible exact ih1 _ _ _ _ _ _ _ _ _ _ _ _ _ _)
      | (with_reducible exact LeO.refl _)
      | (with_reducible exact LeO.none _)
      | (with_reducible refine LeO.ite ?_ ?_)
      | (with_reducible refine LeO.bind ?_ (fun _ => ?_))
      | exact ih0 _ _ _ _ _ _ _ _ _
      | exact ih1 _ _ _ _ _ _ _ _ _ _ _ _ _ _
      | exact LeO.none _
      | refine LeO.ite ?_ ?_
      | refine LeO.bind ?_ (fun _ => ?_)
theorem billiardlaw13_SegmentLeast.mono : ∀ a0 a1 a2 a3 a4 a5 a6 a7 k, LeO (billiardlaw13_SegmentLeast.f k a0 a1 a2 a3 a4 a5 a6 a7) (billiardlaw13_SegmentLeast.f (k + 1) a0 a1 a2 a3 a4 a5 a6 a7) := by
  intro a0 a1 a2 a3 a4 a5 a6 a7 k
  obtain ⟨ih0, ih1⟩ := billiardlaw13_SegmentLeast.mono_l k
  unfold billiardlaw13_SegmentLeast.f
  repeat' first
      | (with_reducible exact ih0 _ _ _ _ _ _ _ _ _)
      | (with_reducible exact ih1 _ _ _ _ _ _ _ _ _ _ _ _ _ _)
      | (with_reducible exact LeO.refl _)
      | (with_reducible exact LeO.none _)
      | (with_reducible refine LeO.ite ?_ ?_)
      | (with_reducible refine LeO.bind ?_ (fun _ => ?_))
      | exact ih0 _ _ _ _ _ _ _ _ _
      | exact ih1 _ _ _ _ _ _ _ _ _ _ _ _ _ _
      | exact LeO.none _
      | refine LeO.ite ?_ ?_
      | refine LeO.bind ?_ (fun _ => ?_)
set_option maxHeartbeats 8000000 in
set_option maxRecDepth 100000 in
theorem billiardlaw13_SegmentLeast.calls (k : Nat) (a0_0 : Int) (a0_1 : Int) (a1_0 : Int) (a1_1 : Int) (a2_0 : Int) (a2_1 : Int) (a3_0 : Int) (a3_1 : Int) (r : Bool) (w : World) (h : billiardlaw13_SegmentLeast.f k a0_0 a0_1 a1_0 a1_1 a2_0 a2_1 a3_0 a3_1 = some r) :
    Calls Try.prog 4 #[.agg #[.int .i32 a0_0, .int .i32 a0_1], .agg #[.int .i32 a1_0, .int .i32 a1_1], .agg #[.int .i32 a2_0, .int .i32 a2_1], .agg #[.int .i32 a3_0, .int .i32 a3_1]] w fun e w' => e = .returned (.bool r) ∧ Below w.heap.size w w' := by
  have hu23 := Try.underlying23
  have hu29 := Try.underlying29
  have HB := Aside0.mk (Below.refl w.heap.size w)
  have H : ((billiardlaw13_awake.f).bind fun t217 => (if t217 = true then ((billiardref13_Right.f a0_0 a0_1 a1_0 a1_1 a2_0 a2_1 a3_0 a3_1).bind fun t218 => (billiardlaw13_SegmentLeast.j0 k (!t218) a0_0 a0_1 a1_0 a1_1 a2_0 a2_1 a3_0 a3_1)) else (billiardlaw13_SegmentLeast.j0 k true a0_0 a0_1 a1_0 a1_1 a2_0 a2_1 a3_0 a3_1))) = some r := h
  clear h
  have HC5 := Aside0.mk H
  clear H
  go_enter Try.func4, Try.ntmps4
  go_upto_region 1 with (first | ((with_reducible refine gate_dst (N := 4) rfl ?_); refine box_event ?hg (N := 4) ?hd (cs := #[.int .i32 a0_0, .int .i32 a0_1]) (t := 23) ?hr ?_; (case hd => rfl); (case hg => rfl); (case hr => first | (go_simp; done) | (go_simp; rfl)); intro gb213 hg w6 hbox hb; have n0_ := Aside0.mk (below_step (by repeat (first | (with_reducible first | exact HB.out | apply below_alloc | apply pw_below_drewN | apply below_drew1) | exact HB.out)) hb); have n1_ := Aside0.mk (hbox); have n2_ := Aside0.mk ((by rw [hg]; exact (below_size (by repeat (first | (with_reducible first | exact HB.out | apply below_alloc | apply pw_below_drewN | apply below_drew1) | exact HB.out))) : w.heap.size ≤ gb213)); have n3_ := Aside0.mk ((by rw [hg]; exact (below_size (by repeat (first | (with_reducible first | exact HB.out | apply below_alloc | apply pw_below_drewN | apply below_drew1) | exact HB.out))) : w.heap.size ≤ gb213)); clear HB; have HB := n0_; have BK213 := n1_; have GW213 := n2_; have GE213 := n3_; clear n0_ n1_ n2_ n3_; clear hb hbox hg) | ((with_reducible refine gate_dst (N := 5) rfl ?_); refine box_event ?hg (N := 5) ?hd (cs := #[.int .i32 a1_0, .int .i32 a1_1]) (t := 23) ?hr ?_; (case hd => rfl); (case hg => rfl); (case hr => first | (go_simp; done) | (go_simp; rfl)); intro gb214 hg w7 hbox hb; have n0_ := Aside0.mk (blk_below (g := gb213) (o := .cells #[.int .i32 a0_0, .int .i32 a0_1] 23 (0, 0)) (by (with_reducible repeat (first | refine blk_drewN ?_ _ | refine blk_drew ?_ | refine blk_alloc ?_ _)); exact BK213.out) hb); have n1_ := Aside0.mk (below_step (by repeat (first | (with_reducible first | exact HB.out | apply below_alloc | apply pw_below_drewN | apply below_drew1 | refine below_set ?_ GE213.out) | exact HB.out)) hb); have n2_ := Aside0.mk (hbox); have n3_ := Aside0.mk ((by rw [hg]; exact (below_size (by repeat (first | (with_reducible first | exact HB.out | apply below_alloc | apply pw_below_drewN | apply below_drew1 | refine below_set ?_ GE213.out) | exact HB.out))) : w.heap.size ≤ gb214)); have n4_ := Aside0.mk ((by rw [hg]; exact (below_size (by repeat (first | (with_reducible first | exact HB.out | apply below_alloc | apply pw_below_drewN | apply below_drew1 | refine below_set ?_ GE213.out) | exact HB.out))) : w.heap.size ≤ gb214)); have n5_ := Aside0.mk ((by rw [hg]; exact Nat.ne_of_lt (blk_lt (g := gb213) (o := .cells #[.int .i32 a0_0, .int .i32 a0_1] 23 (0, 0)) (by (with_reducible repeat (first | refine blk_drewN ?_ _ | refine blk_drew ?_ | refine blk_alloc ?_ _)); exact BK213.out)) : gb213 ≠ gb214)); have n6_ := Aside0.mk ((by rw [hg]; exact Nat.ne_of_gt (blk_lt (g := gb213) (o := .cells #[.int .i32 a0_0, .int .i32 a0_1] 23 (0, 0)) (by (with_reducible repeat (first | refine blk_drewN ?_ _ | refine blk_drew ?_ | refine blk_alloc ?_ _)); exact BK213.out)) : gb214 ≠ gb213)); clear BK213; clear HB; have BK213 := n0_; have HB := n1_; have BK214 := n2_; have GW214 := n3_; have GE214 := n4_; have NB213_214 := n5_; have NB214_213 := n6_; clear n0_ n1_ n2_ n3_ n4_ n5_ n6_; clear hb hbox hg) | ((with_reducible refine gate_dst (N := 6) rfl ?_); refine box_event ?hg (N := 6) ?hd (cs := #[.int .i32 a2_0, .int .i32 a2_1]) (t := 23) ?hr ?_; (case hd => rfl); (case hg => rfl); (case hr => first | (go_simp; done) | (go_simp; rfl)); intro gb215 hg w8 hbox hb; have n0_ := Aside0.mk (blk_below (g := gb213) (o := .cells #[.int .i32 a0_0, .int .i32 a0_1] 23 (0, 0)) (by (with_reducible repeat (first | refine blk_drewN ?_ _ | refine blk_drew ?_ | refine blk_alloc ?_ _)); exact BK213.out) hb); have n1_ := Aside0.mk (blk_below (g := gb214) (o := .cells #[.int .i32 a1_0, .int .i32 a1_1] 23 (0, 0)) (by (with_reducible repeat (first | refine blk_drewN ?_ _ | refine blk_drew ?_ | refine blk_alloc ?_ _)); exact BK214.out) hb); have n2_ := Aside0.mk (below_step (by repeat (first | (with_reducible first | exact HB.out | apply below_alloc | apply pw_below_drewN | apply below_drew1 | refine below_set ?_ GE213.out | refine below_set ?_ GE214.out) | exact HB.out)) hb); have n3_ := Aside0.mk (hbox); have n4_ := Aside0.mk ((by rw [hg]; exact (below_size (by repeat (first | (with_reducible first | exact HB.out | apply below_alloc | apply pw_below_drewN | apply below_drew1 | refine below_set ?_ GE213.out | refine below_set ?_ GE214.out) | exact HB.out))) : w.heap.size ≤ gb215)); have n5_ := Aside0.mk ((by rw [hg]; exact (below_size (by repeat (first | (with_reducible first | exact HB.out | apply below_alloc | apply pw_below_drewN | apply below_drew1 | refine below_set ?_ GE213.out | refine below_set ?_ GE214.out) | exact HB.out))) : w.heap.size ≤ gb215)); have n6_ := Aside0.mk ((by rw [hg]; exact Nat.ne_of_lt (blk_lt (g := gb213) (o := .cells #[.int .i32 a0_0, .int .i32 a0_1] 23 (0, 0)) (by (with_reducible repeat (first | refine blk_drewN ?_ _ | refine blk_drew ?_ | refine blk_alloc ?_ _)); exact BK213.out)) : gb213 ≠ gb215)); have n7_ := Aside0.mk ((by rw [hg]; exact Nat.ne_of_gt (blk_lt (g := gb213) (o := .cells #[.int .i32 a0_0, .int .i32 a0_1] 23 (0, 0)) (by (with_reducible repeat (first | refine blk_drewN ?_ _ | refine blk_drew ?_ | refine blk_alloc ?_ _)); exact BK213.out)) : gb215 ≠ gb213)); have n8_ := Aside0.mk ((by rw [hg]; exact Nat.ne_of_lt (blk_lt (g := gb214) (o := .cells #[.int .i32 a1_0, .int .i32 a1_1] 23 (0, 0)) (by (with_reducible repeat (first | refine blk_drewN ?_ _ | refine blk_drew ?_ | refine blk_alloc ?_ _)); exact BK214.out)) : gb214 ≠ gb215)); have n9_ := Aside0.mk ((by rw [hg]; exact Nat.ne_of_gt (blk_lt (g := gb214) (o := .cells #[.int .i32 a1_0, .int .i32 a1_1] 23 (0, 0)) (by (with_reducible repeat (first | refine blk_drewN ?_ _ | refine blk_drew ?_ | refine blk_alloc ?_ _)); exact BK214.out)) : gb215 ≠ gb214)); clear BK213; clear BK214; clear HB; have BK213 := n0_; have BK214 := n1_; have HB := n2_; have BK215 := n3_; have GW215 := n4_; have GE215 := n5_; have NB213_215 := n6_; have NB215_213 := n7_; have NB214_215 := n8_; have NB215_214 := n9_; clear n0_ n1_ n2_ n3_ n4_ n5_ n6_ n7_ n8_ n9_; clear hb hbox hg) | ((with_reducible refine gate_dst (N := 7) rfl ?_); refine box_event ?hg (N := 7) ?hd (cs := #[.int .i32 a3_0, .int .i32 a3_1]) (t := 23) ?hr ?_; (case hd => rfl); (case hg => rfl); (case hr => first | (go_simp; done) | (go_simp; rfl)); intro gb216 hg w9 hbox hb; have n0_ := Aside0.mk (blk_below (g := gb213) (o := .cells #[.int .i32 a0_0, .int .i32 a0_1] 23 (0, 0)) (by (with_reducible repeat (first | refine blk_drewN ?_ _ | refine blk_drew ?_ | refine blk_alloc ?_ _)); exact BK213.out) hb); have n1_ := Aside0.mk (blk_below (g := gb214) (o := .cells #[.int .i32 a1_0, .int .i32 a1_1] 23 (0, 0)) (by (with_reducible repeat (first | refine blk_drewN ?_ _ | refine blk_drew ?_ | refine blk_alloc ?_ _)); exact BK214.out) hb); have n2_ := Aside0.mk (blk_below (g := gb215) (o := .cells #[.int .i32 a2_0, .int .i32 a2_1] 23 (0, 0)) (by (with_reducible repeat (first | refine blk_drewN ?_ _ | refine blk_drew ?_ | refine blk_alloc ?_ _)); exact BK215.out) hb); have n3_ := Aside0.mk (below_step (by repeat (first | (with_reducible first | exact HB.out | apply below_alloc | apply pw_below_drewN | apply below_drew1 | refine below_set ?_ GE213.out | refine below_set ?_ GE214.out | refine below_set ?_ GE215.out) | exact HB.out)) hb); have n4_ := Aside0.mk (hbox); have n5_ := Aside0.mk ((by rw [hg]; exact (below_size (by repeat (first | (with_reducible first | exact HB.out | apply below_alloc | apply pw_below_drewN | apply below_drew1 | refine below_set ?_ GE213.out | refine below_set ?_ GE214.out | refine below_set ?_ GE215.out) | exact HB.out))) : w.heap.size ≤ gb216)); have n6_ := Aside0.mk ((by rw [hg]; exact (below_size (by repeat (first | (with_reducible first | exact HB.out | apply below_alloc | apply pw_below_drewN | apply below_drew1 | refine below_set ?_ GE213.out | refine below_set ?_ GE214.out | refine below_set ?_ GE215.out) | exact HB.out))) : w.heap.size ≤ gb216)); have n7_ := Aside0.mk ((by rw [hg]; exact Nat.ne_of_lt (blk_lt (g := gb213) (o := .cells #[.int .i32 a0_0, .int .i32 a0_1] 23 (0, 0)) (by (with_reducible repeat (first | refine blk_drewN ?_ _ | refine blk_drew ?_ | refine blk_alloc ?_ _)); exact BK213.out)) : gb213 ≠ gb216)); have n8_ := Aside0.mk ((by rw [hg]; exact Nat.ne_of_gt (blk_lt (g := gb213) (o := .cells #[.int .i32 a0_0, .int .i32 a0_1] 23 (0, 0)) (by (with_reducible repeat (first | refine blk_drewN ?_ _ | refine blk_drew ?_ | refine blk_alloc ?_ _)); exact BK213.out)) : gb216 ≠ gb213)); have n9_ := Aside0.mk ((by rw [hg]; exact Nat.ne_of_lt (blk_lt (g := gb214) (o := .cells #[.int .i32 a1_0, .int .i32 a1_1] 23 (0, 0)) (by (with_reducible repeat (first | refine blk_drewN ?_ _ | refine blk_drew ?_ | refine blk_alloc ?_ _)); exact BK214.out)) : gb214 ≠ gb216)); have n10_ := Aside0.mk ((by rw [hg]; exact Nat.ne_of_gt (blk_lt (g := gb214) (o := .cells #[.int .i32 a1_0, .int .i32 a1_1] 23 (0, 0)) (by (with_reducible repeat (first | refine blk_drewN ?_ _ | refine blk_drew ?_ | refine blk_alloc ?_ _)); exact BK214.out)) : gb216 ≠ gb214)); have n11_ := Aside0.mk ((by rw [hg]; exact Nat.ne_of_lt (blk_lt (g := gb215) (o := .cells #[.int .i32 a2_0, .int .i32 a2_1] 23 (0, 0)) (by (with_reducible repeat (first | refine blk_drewN ?_ _ | refine blk_drew ?_ | refine blk_alloc ?_ _)); exact BK215.out)) : gb215 ≠ gb216)); have n12_ := Aside0.mk ((by rw [hg]; exact Nat.ne_of_gt (blk_lt (g := gb215) (o := .cells #[.int .i32 a2_0, .int .i32 a2_1] 23 (0, 0)) (by (with_reducible repeat (first | refine blk_drewN ?_ _ | refine blk_drew ?_ | refine blk_alloc ?_ _)); exact BK215.out)) : gb216 ≠ gb215)); clear BK213; clear BK214; clear BK215; clear HB; have BK213 := n0_; have BK214 := n1_; have BK215 := n2_; have HB := n3_; have BK216 := n4_; have GW216 := n5_; have GE216 := n6_; have NB213_216 := n7_; have NB216_213 := n8_; have NB214_216 := n9_; have NB216_214 := n10_; have NB215_216 := n11_; have NB216_215 := n12_; clear n0_ n1_ n2_ n3_ n4_ n5_ n6_ n7_ n8_ n9_ n10_ n11_ n12_; clear hb hbox hg))
  (try simp only [Act.put, List.setIfInBounds_toArray, List.set_cons_zero, List.set_cons_succ])
  go_cut [21] (fun v21 wc => ∃ (kq : Nat) (x21_4 : Bool), v21 = .bool x21_4 ∧ Aside0 (billiardlaw13_SegmentLeast.j0 kq x21_4 a0_0 a0_1 a1_0 a1_1 a2_0 a2_1 a3_0 a3_1 = some r) ∧ Aside0 (kq ≤ k) ∧ Aside0 (wc.heap[gb213]? = some (.cells #[.int .i32 a0_0, .int .i32 a0_1] 23 (0, 0))) ∧ Aside0 (wc.heap[gb214]? = some (.cells #[.int .i32 a1_0, .int .i32 a1_1] 23 (0, 0))) ∧ Aside0 (wc.heap[gb215]? = some (.cells #[.int .i32 a2_0, .int .i32 a2_1] 23 (0, 0))) ∧ Aside0 (wc.heap[gb216]? = some (.cells #[.int .i32 a3_0, .int .i32 a3_1] 23 (0, 0))) ∧ Aside0 (Below w.heap.size w wc))
  case first =>
    have H := HC5.out
    clear HC5
    replace H := Option.bind_eq_some_iff.mp H
    obtain ⟨t217, A100, H⟩ := H
    replace H : (if t217 = true then ((billiardref13_Right.f a0_0 a0_1 a1_0 a1_1 a2_0 a2_1 a3_0 a3_1).bind fun t218 => (billiardlaw13_SegmentLeast.j0 k (!t218) a0_0 a0_1 a1_0 a1_1 a2_0 a2_1 a3_0 a3_1)) else (billiardlaw13_SegmentLeast.j0 k true a0_0 a0_1 a1_0 a1_1 a2_0 a2_1 a3_0 a3_1)) = some r := H
    have A10 := Aside0.mk A100
    clear A100
    by_cases c11 : t217 = true
    · subst c11
      have H1 : ((billiardref13_Right.f a0_0 a0_1 a1_0 a1_1 a2_0 a2_1 a3_0 a3_1).bind fun t218 => (billiardlaw13_SegmentLeast.j0 k (!t218) a0_0 a0_1 a1_0 a1_1 a2_0 a2_1 a3_0 a3_1)) = some r := by rw [if_pos rfl] at H; exact H
      clear H
      have H := H1
      clear H1
      replace H := Option.bind_eq_some_iff.mp H
      obtain ⟨t218, A120, H⟩ := H
      replace H : (billiardlaw13_SegmentLeast.j0 k (!t218) a0_0 a0_1 a1_0 a1_1 a2_0 a2_1 a3_0 a3_1) = some r := H
      have A12 := Aside0.mk A120
      clear A120
      have H' := Aside0.mk H
      clear H
      go_wp2_with (first | ((with_reducible refine gate_callee (f := 8) rfl ?_); refine goesL_ (some 12) rfl rfl Try.func8 (by kernel_rfl) rfl #[] rfl (by (try simp only [List.map_toArray, List.map_cons, List.map_nil]); first | done | rfl | (simp only [List.length_drop, List.length_take]; rfl)) ?_; (with_reducible refine (billiardlaw13_awake.calls  true _ A10.out).mono ?_); rintro e w13 ⟨rfl, hb⟩; refine ⟨_, rfl, ?_⟩; have n0_ := Aside0.mk (blk_below (g := gb213) (o := .cells #[.int .i32 a0_0, .int .i32 a0_1] 23 (0, 0)) (by (with_reducible repeat (first | refine blk_drewN ?_ _ | refine blk_drew ?_ | refine blk_alloc ?_ _)); exact BK213.out) hb); have n1_ := Aside0.mk (blk_below (g := gb214) (o := .cells #[.int .i32 a1_0, .int .i32 a1_1] 23 (0, 0)) (by (with_reducible repeat (first | refine blk_drewN ?_ _ | refine blk_drew ?_ | refine blk_alloc ?_ _)); exact BK214.out) hb); have n2_ := Aside0.mk (blk_below (g := gb215) (o := .cells #[.int .i32 a2_0, .int .i32 a2_1] 23 (0, 0)) (by (with_reducible repeat (first | refine blk_drewN ?_ _ | refine blk_drew ?_ | refine blk_alloc ?_ _)); exact BK215.out) hb); have n3_ := Aside0.mk (blk_below (g := gb216) (o := .cells #[.int .i32 a3_0, .int .i32 a3_1] 23 (0, 0)) (by (with_reducible repeat (first | refine blk_drewN ?_ _ | refine blk_drew ?_ | refine blk_alloc ?_ _)); exact BK216.out) hb); have n4_ := Aside0.mk (below_step (by repeat (first | (with_reducible first | exact HB.out | apply below_alloc | apply pw_below_drewN | apply below_drew1 | refine below_set ?_ GE213.out | refine below_set ?_ GE214.out | refine below_set ?_ GE215.out | refine below_set ?_ GE216.out) | exact HB.out)) hb); clear BK213; clear BK214; clear BK215; clear BK216; clear HB; have BK213 := n0_; have BK214 := n1_; have BK215 := n2_; have BK216 := n3_; have HB := n4_; clear n0_ n1_ n2_ n3_ n4_; (try clear hb); (try clear hb2); (try clear hk); (try clear hi); have hnb14 := NB213_214.out; have hnc14 := NB214_213.out; have hnb15 := NB213_215.out; have hnc15 := NB215_213.out; have hnb16 := NB213_216.out; have hnc16 := NB216_213.out; have hcz17_0 : w13.cell? ⟨gb213, 0, none⟩ = some (.int .i32 a0_0) := (blk_cell BK213.out 0).trans rfl; have hcz17_1 : w13.cell? ⟨gb213, 1, none⟩ = some (.int .i32 a0_1) := (blk_cell BK213.out 1).trans rfl; have hfz17_0 := blk_frozen BK213.out 0; have hfz17_1 := blk_frozen BK213.out 1; have hnb18 := NB214_215.out; have hnc18 := NB215_214.out; have hnb19 := NB214_216.out; have hnc19 := NB216_214.out; have hcz20_0 : w13.cell? ⟨gb214, 0, none⟩ = some (.int .i32 a1_0) := (blk_cell BK214.out 0).trans rfl; have hcz20_1 : w13.cell? ⟨gb214, 1, none⟩ = some (.int .i32 a1_1) := (blk_cell BK214.out 1).trans rfl; have hfz20_0 := blk_frozen BK214.out 0; have hfz20_1 := blk_frozen BK214.out 1; have hnb21 := NB215_216.out; have hnc21 := NB216_215.out; have hcz22_0 : w13.cell? ⟨gb215, 0, none⟩ = some (.int .i32 a2_0) := (blk_cell BK215.out 0).trans rfl; have hcz22_1 : w13.cell? ⟨gb215, 1, none⟩ = some (.int .i32 a2_1) := (blk_cell BK215.out 1).trans rfl; have hfz22_0 := blk_frozen BK215.out 0; have hfz22_1 := blk_frozen BK215.out 1; have hcz23_0 : w13.cell? ⟨gb216, 0, none⟩ = some (.int .i32 a3_0) := (blk_cell BK216.out 0).trans rfl; have hcz23_1 : w13.cell? ⟨gb216, 1, none⟩ = some (.int .i32 a3_1) := (blk_cell BK216.out 1).trans rfl; have hfz23_0 := blk_frozen BK216.out 0; have hfz23_1 := blk_frozen BK216.out 1) | (go_at_call 9; (with_reducible refine (billiardref13_Right.calls a0_0 a0_1 a1_0 a1_1 a2_0 a2_1 a3_0 a3_1 t218 _ A12.out).mono ?_); rintro e w24 ⟨rfl, hb⟩; have n0_ := Aside0.mk (blk_below (g := gb213) (o := .cells #[.int .i32 a0_0, .int .i32 a0_1] 23 (0, 0)) (by (with_reducible repeat (first | refine blk_drewN ?_ _ | refine blk_drew ?_ | refine blk_alloc ?_ _)); exact BK213.out) hb); have n1_ := Aside0.mk (blk_below (g := gb214) (o := .cells #[.int .i32 a1_0, .int .i32 a1_1] 23 (0, 0)) (by (with_reducible repeat (first | refine blk_drewN ?_ _ | refine blk_drew ?_ | refine blk_alloc ?_ _)); exact BK214.out) hb); have n2_ := Aside0.mk (blk_below (g := gb215) (o := .cells #[.int .i32 a2_0, .int .i32 a2_1] 23 (0, 0)) (by (with_reducible repeat (first | refine blk_drewN ?_ _ | refine blk_drew ?_ | refine blk_alloc ?_ _)); exact BK215.out) hb); have n3_ := Aside0.mk (blk_below (g := gb216) (o := .cells #[.int .i32 a3_0, .int .i32 a3_1] 23 (0, 0)) (by (with_reducible repeat (first | refine blk_drewN ?_ _ | refine blk_drew ?_ | refine blk_alloc ?_ _)); exact BK216.out) hb); have n4_ := Aside0.mk (below_step (by repeat (first | (with_reducible first | exact HB.out | apply below_alloc | apply pw_below_drewN | apply below_drew1 | refine below_set ?_ GE213.out | refine below_set ?_ GE214.out | refine below_set ?_ GE215.out | refine below_set ?_ GE216.out) | exact HB.out)) hb); clear BK213; clear BK214; clear BK215; clear BK216; clear HB; have BK213 := n0_; have BK214 := n1_; have BK215 := n2_; have BK216 := n3_; have HB := n4_; clear n0_ n1_ n2_ n3_ n4_; (try clear hb); (try clear hb2); (try clear hk); (try clear hi)))
      go_meet
      case rel => exact ⟨_, (!t218), (by first | rfl | (simp; done) | (simp [*]; done)), H', ⟨by first | omega | exact Nat.le_refl _⟩, ⟨by (with_reducible repeat (first | refine blk_drewN ?_ _ | refine blk_drew ?_ | refine blk_alloc ?_ _)); exact BK213.out⟩, ⟨by (with_reducible repeat (first | refine blk_drewN ?_ _ | refine blk_drew ?_ | refine blk_alloc ?_ _)); exact BK214.out⟩, ⟨by (with_reducible repeat (first | refine blk_drewN ?_ _ | refine blk_drew ?_ | refine blk_alloc ?_ _)); exact BK215.out⟩, ⟨by (with_reducible repeat (first | refine blk_drewN ?_ _ | refine blk_drew ?_ | refine blk_alloc ?_ _)); exact BK216.out⟩, ⟨by repeat (first | (with_reducible first | exact HB.out | apply below_alloc | apply pw_below_drewN | apply below_drew1 | refine below_set ?_ GE213.out | refine below_set ?_ GE214.out | refine below_set ?_ GE215.out | refine below_set ?_ GE216.out) | exact HB.out)⟩⟩
    · replace c11 := Bool.eq_false_iff.mpr c11
      subst c11
      have H1 : (billiardlaw13_SegmentLeast.j0 k true a0_0 a0_1 a1_0 a1_1 a2_0 a2_1 a3_0 a3_1) = some r := by rw [if_neg (show ¬ (false = true) by decide)] at H; exact H
      clear H
      have H := H1
      clear H1
      have H' := Aside0.mk H
      clear H
      go_wp2_with (first | ((with_reducible refine gate_callee (f := 8) rfl ?_); refine goesL_ (some 12) rfl rfl Try.func8 (by kernel_rfl) rfl #[] rfl (by (try simp only [List.map_toArray, List.map_cons, List.map_nil]); first | done | rfl | (simp only [List.length_drop, List.length_take]; rfl)) ?_; (with_reducible refine (billiardlaw13_awake.calls  false _ A10.out).mono ?_); rintro e w25 ⟨rfl, hb⟩; refine ⟨_, rfl, ?_⟩; have n0_ := Aside0.mk (blk_below (g := gb213) (o := .cells #[.int .i32 a0_0, .int .i32 a0_1] 23 (0, 0)) (by (with_reducible repeat (first | refine blk_drewN ?_ _ | refine blk_drew ?_ | refine blk_alloc ?_ _)); exact BK213.out) hb); have n1_ := Aside0.mk (blk_below (g := gb214) (o := .cells #[.int .i32 a1_0, .int .i32 a1_1] 23 (0, 0)) (by (with_reducible repeat (first | refine blk_drewN ?_ _ | refine blk_drew ?_ | refine blk_alloc ?_ _)); exact BK214.out) hb); have n2_ := Aside0.mk (blk_below (g := gb215) (o := .cells #[.int .i32 a2_0, .int .i32 a2_1] 23 (0, 0)) (by (with_reducible repeat (first | refine blk_drewN ?_ _ | refine blk_drew ?_ | refine blk_alloc ?_ _)); exact BK215.out) hb); have n3_ := Aside0.mk (blk_below (g := gb216) (o := .cells #[.int .i32 a3_0, .int .i32 a3_1] 23 (0, 0)) (by (with_reducible repeat (first | refine blk_drewN ?_ _ | refine blk_drew ?_ | refine blk_alloc ?_ _)); exact BK216.out) hb); have n4_ := Aside0.mk (below_step (by repeat (first | (with_reducible first | exact HB.out | apply below_alloc | apply pw_below_drewN | apply below_drew1 | refine below_set ?_ GE213.out | refine below_set ?_ GE214.out | refine below_set ?_ GE215.out | refine below_set ?_ GE216.out) | exact HB.out)) hb); clear BK213; clear BK214; clear BK215; clear BK216; clear HB; have BK213 := n0_; have BK214 := n1_; have BK215 := n2_; have BK216 := n3_; have HB := n4_; clear n0_ n1_ n2_ n3_ n4_; (try clear hb); (try clear hb2); (try clear hk); (try clear hi)))
      go_meet
      case rel => exact ⟨_, (true), (by first | rfl | (simp; done) | (simp [*]; done)), H', ⟨by first | omega | exact Nat.le_refl _⟩, ⟨by (with_reducible repeat (first | refine blk_drewN ?_ _ | refine blk_drew ?_ | refine blk_alloc ?_ _)); exact BK213.out⟩, ⟨by (with_reducible repeat (first | refine blk_drewN ?_ _ | refine blk_drew ?_ | refine blk_alloc ?_ _)); exact BK214.out⟩, ⟨by (with_reducible repeat (first | refine blk_drewN ?_ _ | refine blk_drew ?_ | refine blk_alloc ?_ _)); exact BK215.out⟩, ⟨by (with_reducible repeat (first | refine blk_drewN ?_ _ | refine blk_drew ?_ | refine blk_alloc ?_ _)); exact BK216.out⟩, ⟨by repeat (first | (with_reducible first | exact HB.out | apply below_alloc | apply pw_below_drewN | apply below_drew1 | refine below_set ?_ GE213.out | refine below_set ?_ GE214.out | refine below_set ?_ GE215.out | refine below_set ?_ GE216.out) | exact HB.out)⟩⟩
  case rest =>
    clear HC5
    try clear c1
    try clear c2
    try clear p2
    try clear c4
    try clear c8
    try clear c11
    try clear c14
    try clear c15
    try clear c16
    try clear c18
    try clear c19
    try clear c21
    try clear hcz17_0
    try clear hcz17_1
    try clear hcz20_0
    try clear hcz20_1
    try clear hcz22_0
    try clear hcz22_1
    try clear hcz23_0
    try clear hcz23_1
    try clear hfz17_0
    try clear hfz17_1
    try clear hfz20_0
    try clear hfz20_1
    try clear hfz22_0
    try clear hfz22_1
    try clear hfz23_0
    try clear hfz23_1
    obtain ⟨kq, x21_4, rfl, HA, HJ4, BK213, BK214, BK215, BK216, HB⟩ := hcut
    cases kq with
    | zero => exact absurd HA.out (by simp [billiardlaw13_SegmentLeast.j0])
    | succ kj4 =>
      have H := HA.out
      clear HA
      simp only [billiardlaw13_SegmentLeast.j0] at H
      by_cases c26 : x21_4 = true
      · subst c26
        have H1 : ((billiardlaw13_awake.f).bind fun t219 => (some t219)) = some r := by rw [if_pos rfl] at H; exact H
        clear H
        have H := H1
        clear H1
        replace H := Option.bind_eq_some_iff.mp H
        obtain ⟨t219, A270, H⟩ := H
        replace H : (some t219) = some r := H
        have A27 := Aside0.mk A270
        clear A270
        obtain rfl := Option.some.inj H
        go_wp2_with (first | ((with_reducible refine gate_callee (f := 8) rfl ?_); refine goesL_ (some 22) rfl rfl Try.func8 (by kernel_rfl) rfl #[] rfl (by (try simp only [List.map_toArray, List.map_cons, List.map_nil]); first | done | rfl | (simp only [List.length_drop, List.length_take]; rfl)) ?_; (with_reducible refine (billiardlaw13_awake.calls  t219 _ A27.out).mono ?_); rintro e w28 ⟨rfl, hb⟩; refine ⟨_, rfl, ?_⟩; have n0_ := Aside0.mk (blk_below (g := gb213) (o := .cells #[.int .i32 a0_0, .int .i32 a0_1] 23 (0, 0)) (by (with_reducible repeat (first | refine blk_drewN ?_ _ | refine blk_drew ?_ | refine blk_alloc ?_ _)); exact BK213.out) hb); have n1_ := Aside0.mk (blk_below (g := gb214) (o := .cells #[.int .i32 a1_0, .int .i32 a1_1] 23 (0, 0)) (by (with_reducible repeat (first | refine blk_drewN ?_ _ | refine blk_drew ?_ | refine blk_alloc ?_ _)); exact BK214.out) hb); have n2_ := Aside0.mk (blk_below (g := gb215) (o := .cells #[.int .i32 a2_0, .int .i32 a2_1] 23 (0, 0)) (by (with_reducible repeat (first | refine blk_drewN ?_ _ | refine blk_drew ?_ | refine blk_alloc ?_ _)); exact BK215.out) hb); have n3_ := Aside0.mk (blk_below (g := gb216) (o := .cells #[.int .i32 a3_0, .int .i32 a3_1] 23 (0, 0)) (by (with_reducible repeat (first | refine blk_drewN ?_ _ | refine blk_drew ?_ | refine blk_alloc ?_ _)); exact BK216.out) hb); have n4_ := Aside0.mk (below_step (by repeat (first | (with_reducible first | exact HB.out | apply below_alloc | apply pw_below_drewN | apply below_drew1 | refine below_set ?_ GE213.out | refine below_set ?_ GE214.out | refine below_set ?_ GE215.out | refine below_set ?_ GE216.out) | exact HB.out)) hb); clear BK213; clear BK214; clear BK215; clear BK216; clear HB; have BK213 := n0_; have BK214 := n1_; have BK215 := n2_; have BK216 := n3_; have HB := n4_; clear n0_ n1_ n2_ n3_ n4_; (try clear hb); (try clear hb2); (try clear hk); (try clear hi)))
        go_ret
        exact ⟨by first | rfl | (simp [errW_none, errW_some] <;> rfl) | (simp [*, errW_none, errW_some] <;> rfl), by repeat (first | (with_reducible first | exact HB.out | apply below_alloc | apply pw_below_drewN | apply below_drew1 | refine below_set ?_ GE213.out | refine below_set ?_ GE214.out | refine below_set ?_ GE215.out | refine below_set ?_ GE216.out) | exact HB.out)⟩
      · replace c26 := Bool.eq_false_iff.mpr c26
        subst c26
        have H1 : ((segment_DistSq.f a0_0 a0_1 a1_0 a1_1 a2_0 a2_1 a3_0 a3_1).bind fun t220 => ((segment_Chosen.f a0_0 a0_1 a1_0 a1_1 a2_0 a2_1 a3_0 a3_1).bind fun bt221 => ((billiardref12_DistSq.f a2_0 a2_1 a3_0 a3_1 a0_0 a0_1).bind fun t227 => (if t220 > t227 then (billiardlaw13_SegmentLeast.j1 kj4 t220 true a0_0 a0_1 a1_0 a1_1 a2_0 a2_1 a3_0 a3_1 bt221.1 bt221.2.1 bt221.2.2.1 bt221.2.2.2) else ((billiardref12_DistSq.f a2_0 a2_1 a3_0 a3_1 a1_0 a1_1).bind fun t228 => (if t220 > t228 then (billiardlaw13_SegmentLeast.j1 kj4 t220 true a0_0 a0_1 a1_0 a1_1 a2_0 a2_1 a3_0 a3_1 bt221.1 bt221.2.1 bt221.2.2.1 bt221.2.2.2) else ((billiardref12_DistSq.f a0_0 a0_1 a1_0 a1_1 a2_0 a2_1).bind fun t229 => (if t220 > t229 then (billiardlaw13_SegmentLeast.j1 kj4 t220 true a0_0 a0_1 a1_0 a1_1 a2_0 a2_1 a3_0 a3_1 bt221.1 bt221.2.1 bt221.2.2.1 bt221.2.2.2) else ((billiardref12_DistSq.f a0_0 a0_1 a1_0 a1_1 a3_0 a3_1).bind fun t230 => (billiardlaw13_SegmentLeast.j1 kj4 t220 (decide (t220 > t230)) a0_0 a0_1 a1_0 a1_1 a2_0 a2_1 a3_0 a3_1 bt221.1 bt221.2.1 bt221.2.2.1 bt221.2.2.2)))))))))) = some r := by rw [if_neg (show ¬ (false = true) by decide)] at H; exact H
        clear H
        have H := H1
        clear H1
        replace H := Option.bind_eq_some_iff.mp H
        obtain ⟨t220, A290, H⟩ := H
        replace H : ((segment_Chosen.f a0_0 a0_1 a1_0 a1_1 a2_0 a2_1 a3_0 a3_1).bind fun bt221 => ((billiardref12_DistSq.f a2_0 a2_1 a3_0 a3_1 a0_0 a0_1).bind fun t227 => (if t220 > t227 then (billiardlaw13_SegmentLeast.j1 kj4 t220 true a0_0 a0_1 a1_0 a1_1 a2_0 a2_1 a3_0 a3_1 bt221.1 bt221.2.1 bt221.2.2.1 bt221.2.2.2) else ((billiardref12_DistSq.f a2_0 a2_1 a3_0 a3_1 a1_0 a1_1).bind fun t228 => (if t220 > t228 then (billiardlaw13_SegmentLeast.j1 kj4 t220 true a0_0 a0_1 a1_0 a1_1 a2_0 a2_1 a3_0 a3_1 bt221.1 bt221.2.1 bt221.2.2.1 bt221.2.2.2) else ((billiardref12_DistSq.f a0_0 a0_1 a1_0 a1_1 a2_0 a2_1).bind fun t229 => (if t220 > t229 then (billiardlaw13_SegmentLeast.j1 kj4 t220 true a0_0 a0_1 a1_0 a1_1 a2_0 a2_1 a3_0 a3_1 bt221.1 bt221.2.1 bt221.2.2.1 bt221.2.2.2) else ((billiardref12_DistSq.f a0_0 a0_1 a1_0 a1_1 a3_0 a3_1).bind fun t230 => (billiardlaw13_SegmentLeast.j1 kj4 t220 (decide (t220 > t230)) a0_0 a0_1 a1_0 a1_1 a2_0 a2_1 a3_0 a3_1 bt221.1 bt221.2.1 bt221.2.2.1 bt221.2.2.2))))))))) = some r := H
        have A29 := Aside0.mk A290
        clear A290
        replace H := Option.bind_eq_some_iff.mp H
        obtain ⟨⟨t221, t222, t223, t224⟩, A300, H⟩ := H
        replace H : ((billiardref12_DistSq.f a2_0 a2_1 a3_0 a3_1 a0_0 a0_1).bind fun t227 => (if t220 > t227 then (billiardlaw13_SegmentLeast.j1 kj4 t220 true a0_0 a0_1 a1_0 a1_1 a2_0 a2_1 a3_0 a3_1 t221 t222 t223 t224) else ((billiardref12_DistSq.f a2_0 a2_1 a3_0 a3_1 a1_0 a1_1).bind fun t228 => (if t220 > t228 then (billiardlaw13_SegmentLeast.j1 kj4 t220 true a0_0 a0_1 a1_0 a1_1 a2_0 a2_1 a3_0 a3_1 t221 t222 t223 t224) else ((billiardref12_DistSq.f a0_0 a0_1 a1_0 a1_1 a2_0 a2_1).bind fun t229 => (if t220 > t229 then (billiardlaw13_SegmentLeast.j1 kj4 t220 true a0_0 a0_1 a1_0 a1_1 a2_0 a2_1 a3_0 a3_1 t221 t222 t223 t224) else ((billiardref12_DistSq.f a0_0 a0_1 a1_0 a1_1 a3_0 a3_1).bind fun t230 => (billiardlaw13_SegmentLeast.j1 kj4 t220 (decide (t220 > t230)) a0_0 a0_1 a1_0 a1_1 a2_0 a2_1 a3_0 a3_1 t221 t222 t223 t224)))))))) = some r := H
        have A30 := Aside0.mk A300
        clear A300
        have HC31 := Aside0.mk H
        clear H
        have hnb32 := NB213_214.out
        have hnc32 := NB214_213.out
        have hnb33 := NB213_215.out
        have hnc33 := NB215_213.out
        have hnb34 := NB213_216.out
        have hnc34 := NB216_213.out
        have hcz35_0 : wc.cell? ⟨gb213, 0, none⟩ = some (.int .i32 a0_0) := (blk_cell BK213.out 0).trans rfl
        have hcz35_1 : wc.cell? ⟨gb213, 1, none⟩ = some (.int .i32 a0_1) := (blk_cell BK213.out 1).trans rfl
        have hfz35_0 := blk_frozen BK213.out 0
        have hfz35_1 := blk_frozen BK213.out 1
        have hnb36 := NB214_215.out
        have hnc36 := NB215_214.out
        have hnb37 := NB214_216.out
        have hnc37 := NB216_214.out
        have hcz38_0 : wc.cell? ⟨gb214, 0, none⟩ = some (.int .i32 a1_0) := (blk_cell BK214.out 0).trans rfl
        have hcz38_1 : wc.cell? ⟨gb214, 1, none⟩ = some (.int .i32 a1_1) := (blk_cell BK214.out 1).trans rfl
        have hfz38_0 := blk_frozen BK214.out 0
        have hfz38_1 := blk_frozen BK214.out 1
        have hnb39 := NB215_216.out
        have hnc39 := NB216_215.out
        have hcz40_0 : wc.cell? ⟨gb215, 0, none⟩ = some (.int .i32 a2_0) := (blk_cell BK215.out 0).trans rfl
        have hcz40_1 : wc.cell? ⟨gb215, 1, none⟩ = some (.int .i32 a2_1) := (blk_cell BK215.out 1).trans rfl
        have hfz40_0 := blk_frozen BK215.out 0
        have hfz40_1 := blk_frozen BK215.out 1
        have hcz41_0 : wc.cell? ⟨gb216, 0, none⟩ = some (.int .i32 a3_0) := (blk_cell BK216.out 0).trans rfl
        have hcz41_1 : wc.cell? ⟨gb216, 1, none⟩ = some (.int .i32 a3_1) := (blk_cell BK216.out 1).trans rfl
        have hfz41_0 := blk_frozen BK216.out 0
        have hfz41_1 := blk_frozen BK216.out 1
        go_upto_region 5 with (first | ((with_reducible refine gate_callee (f := 12) rfl ?_); refine goesL_ (some 27) rfl rfl Try.func12 (by kernel_rfl) rfl #[.agg #[.int .i32 a0_0, .int .i32 a0_1], .agg #[.int .i32 a1_0, .int .i32 a1_1], .agg #[.int .i32 a2_0, .int .i32 a2_1], .agg #[.int .i32 a3_0, .int .i32 a3_1]] rfl (by (try simp only [List.map_toArray, List.map_cons, List.map_nil]); first | done | rfl | (simp only [List.length_drop, List.length_take]; rfl)) ?_; (with_reducible refine (segment_DistSq.calls a0_0 a0_1 a1_0 a1_1 a2_0 a2_1 a3_0 a3_1 t220 _ A29.out).mono ?_); rintro e w42 ⟨rfl, hb⟩; refine ⟨_, rfl, ?_⟩; have n0_ := Aside0.mk (blk_below (g := gb213) (o := .cells #[.int .i32 a0_0, .int .i32 a0_1] 23 (0, 0)) (by (with_reducible repeat (first | refine blk_drewN ?_ _ | refine blk_drew ?_ | refine blk_alloc ?_ _)); exact BK213.out) hb); have n1_ := Aside0.mk (blk_below (g := gb214) (o := .cells #[.int .i32 a1_0, .int .i32 a1_1] 23 (0, 0)) (by (with_reducible repeat (first | refine blk_drewN ?_ _ | refine blk_drew ?_ | refine blk_alloc ?_ _)); exact BK214.out) hb); have n2_ := Aside0.mk (blk_below (g := gb215) (o := .cells #[.int .i32 a2_0, .int .i32 a2_1] 23 (0, 0)) (by (with_reducible repeat (first | refine blk_drewN ?_ _ | refine blk_drew ?_ | refine blk_alloc ?_ _)); exact BK215.out) hb); have n3_ := Aside0.mk (blk_below (g := gb216) (o := .cells #[.int .i32 a3_0, .int .i32 a3_1] 23 (0, 0)) (by (with_reducible repeat (first | refine blk_drewN ?_ _ | refine blk_drew ?_ | refine blk_alloc ?_ _)); exact BK216.out) hb); have n4_ := Aside0.mk (below_step (by repeat (first | (with_reducible first | exact HB.out | apply below_alloc | apply pw_below_drewN | apply below_drew1 | refine below_set ?_ GE213.out | refine below_set ?_ GE214.out | refine below_set ?_ GE215.out | refine below_set ?_ GE216.out) | exact HB.out)) hb); clear BK213; clear BK214; clear BK215; clear BK216; clear HB; have BK213 := n0_; have BK214 := n1_; have BK215 := n2_; have BK216 := n3_; have HB := n4_; clear n0_ n1_ n2_ n3_ n4_; (try clear hb); (try clear hb2); (try clear hk); (try clear hi); have hcz43_0 : w42.cell? ⟨gb213, 0, none⟩ = some (.int .i32 a0_0) := (blk_cell BK213.out 0).trans rfl; have hcz43_1 : w42.cell? ⟨gb213, 1, none⟩ = some (.int .i32 a0_1) := (blk_cell BK213.out 1).trans rfl; have hfz43_0 := blk_frozen BK213.out 0; have hfz43_1 := blk_frozen BK213.out 1; have hcz44_0 : w42.cell? ⟨gb214, 0, none⟩ = some (.int .i32 a1_0) := (blk_cell BK214.out 0).trans rfl; have hcz44_1 : w42.cell? ⟨gb214, 1, none⟩ = some (.int .i32 a1_1) := (blk_cell BK214.out 1).trans rfl; have hfz44_0 := blk_frozen BK214.out 0; have hfz44_1 := blk_frozen BK214.out 1; have hcz45_0 : w42.cell? ⟨gb215, 0, none⟩ = some (.int .i32 a2_0) := (blk_cell BK215.out 0).trans rfl; have hcz45_1 : w42.cell? ⟨gb215, 1, none⟩ = some (.int .i32 a2_1) := (blk_cell BK215.out 1).trans rfl; have hfz45_0 := blk_frozen BK215.out 0; have hfz45_1 := blk_frozen BK215.out 1; have hcz46_0 : w42.cell? ⟨gb216, 0, none⟩ = some (.int .i32 a3_0) := (blk_cell BK216.out 0).trans rfl; have hcz46_1 : w42.cell? ⟨gb216, 1, none⟩ = some (.int .i32 a3_1) := (blk_cell BK216.out 1).trans rfl; have hfz46_0 := blk_frozen BK216.out 0; have hfz46_1 := blk_frozen BK216.out 1) | ((with_reducible refine gate_callee (f := 10) rfl ?_); refine goesL_ (some 33) rfl rfl Try.func10 (by kernel_rfl) rfl #[.agg #[.int .i32 a0_0, .int .i32 a0_1], .agg #[.int .i32 a1_0, .int .i32 a1_1], .agg #[.int .i32 a2_0, .int .i32 a2_1], .agg #[.int .i32 a3_0, .int .i32 a3_1]] rfl (by (try simp only [List.map_toArray, List.map_cons, List.map_nil]); first | done | rfl | (simp only [List.length_drop, List.length_take]; rfl)) ?_; (with_reducible refine (segment_Chosen.calls a0_0 a0_1 a1_0 a1_1 a2_0 a2_1 a3_0 a3_1 t221 t222 t223 t224 _ A30.out).mono ?_); rintro e w47 ⟨rfl, hb⟩; refine ⟨_, rfl, ?_⟩; have n0_ := Aside0.mk (blk_below (g := gb213) (o := .cells #[.int .i32 a0_0, .int .i32 a0_1] 23 (0, 0)) (by (with_reducible repeat (first | refine blk_drewN ?_ _ | refine blk_drew ?_ | refine blk_alloc ?_ _)); exact BK213.out) hb); have n1_ := Aside0.mk (blk_below (g := gb214) (o := .cells #[.int .i32 a1_0, .int .i32 a1_1] 23 (0, 0)) (by (with_reducible repeat (first | refine blk_drewN ?_ _ | refine blk_drew ?_ | refine blk_alloc ?_ _)); exact BK214.out) hb); have n2_ := Aside0.mk (blk_below (g := gb215) (o := .cells #[.int .i32 a2_0, .int .i32 a2_1] 23 (0, 0)) (by (with_reducible repeat (first | refine blk_drewN ?_ _ | refine blk_drew ?_ | refine blk_alloc ?_ _)); exact BK215.out) hb); have n3_ := Aside0.mk (blk_below (g := gb216) (o := .cells #[.int .i32 a3_0, .int .i32 a3_1] 23 (0, 0)) (by (with_reducible repeat (first | refine blk_drewN ?_ _ | refine blk_drew ?_ | refine blk_alloc ?_ _)); exact BK216.out) hb); have n4_ := Aside0.mk (below_step (by repeat (first | (with_reducible first | exact HB.out | apply below_alloc | apply pw_below_drewN | apply below_drew1 | refine below_set ?_ GE213.out | refine below_set ?_ GE214.out | refine below_set ?_ GE215.out | refine below_set ?_ GE216.out) | exact HB.out)) hb); clear BK213; clear BK214; clear BK215; clear BK216; clear HB; have BK213 := n0_; have BK214 := n1_; have BK215 := n2_; have BK216 := n3_; have HB := n4_; clear n0_ n1_ n2_ n3_ n4_; (try clear hb); (try clear hb2); (try clear hk); (try clear hi)) | ((with_reducible refine gate_dst (N := 10) rfl ?_); refine box_event ?hg (N := 10) ?hd (cs := #[.int .i32 0, .int .i32 0]) (t := 23) ?hr ?_; (case hd => rfl); (case hg => rfl); (case hr => first | (go_simp; done) | (go_simp; rfl)); intro gb225 hg w48 hbox hb; have n0_ := Aside0.mk (blk_below (g := gb213) (o := .cells #[.int .i32 a0_0, .int .i32 a0_1] 23 (0, 0)) (by (with_reducible repeat (first | refine blk_drewN ?_ _ | refine blk_drew ?_ | refine blk_alloc ?_ _)); exact BK213.out) hb); have n1_ := Aside0.mk (blk_below (g := gb214) (o := .cells #[.int .i32 a1_0, .int .i32 a1_1] 23 (0, 0)) (by (with_reducible repeat (first | refine blk_drewN ?_ _ | refine blk_drew ?_ | refine blk_alloc ?_ _)); exact BK214.out) hb); have n2_ := Aside0.mk (blk_below (g := gb215) (o := .cells #[.int .i32 a2_0, .int .i32 a2_1] 23 (0, 0)) (by (with_reducible repeat (first | refine blk_drewN ?_ _ | refine blk_drew ?_ | refine blk_alloc ?_ _)); exact BK215.out) hb); have n3_ := Aside0.mk (blk_below (g := gb216) (o := .cells #[.int .i32 a3_0, .int .i32 a3_1] 23 (0, 0)) (by (with_reducible repeat (first | refine blk_drewN ?_ _ | refine blk_drew ?_ | refine blk_alloc ?_ _)); exact BK216.out) hb); have n4_ := Aside0.mk (below_step (by repeat (first | (with_reducible first | exact HB.out | apply below_alloc | apply pw_below_drewN | apply below_drew1 | refine below_set ?_ GE213.out | refine below_set ?_ GE214.out | refine below_set ?_ GE215.out | refine below_set ?_ GE216.out) | exact HB.out)) hb); have n5_ := Aside0.mk (hbox); have n6_ := Aside0.mk ((by rw [hg]; exact (below_size (by repeat (first | (with_reducible first | exact HB.out | apply below_alloc | apply pw_below_drewN | apply below_drew1 | refine below_set ?_ GE213.out | refine below_set ?_ GE214.out | refine below_set ?_ GE215.out | refine below_set ?_ GE216.out) | exact HB.out))) : w.heap.size ≤ gb225)); have n7_ := Aside0.mk ((by rw [hg]; exact (below_size (by repeat (first | (with_reducible first | exact HB.out | apply below_alloc | apply pw_below_drewN | apply below_drew1 | refine below_set ?_ GE213.out | refine below_set ?_ GE214.out | refine below_set ?_ GE215.out | refine below_set ?_ GE216.out) | exact HB.out))) : w.heap.size ≤ gb225)); have n8_ := Aside0.mk ((by rw [hg]; exact Nat.ne_of_lt (blk_lt (g := gb213) (o := .cells #[.int .i32 a0_0, .int .i32 a0_1] 23 (0, 0)) (by (with_reducible repeat (first | refine blk_drewN ?_ _ | refine blk_drew ?_ | refine blk_alloc ?_ _)); exact BK213.out)) : gb213 ≠ gb225)); have n9_ := Aside0.mk ((by rw [hg]; exact Nat.ne_of_gt (blk_lt (g := gb213) (o := .cells #[.int .i32 a0_0, .int .i32 a0_1] 23 (0, 0)) (by (with_reducible repeat (first | refine blk_drewN ?_ _ | refine blk_drew ?_ | refine blk_alloc ?_ _)); exact BK213.out)) : gb225 ≠ gb213)); have n10_ := Aside0.mk ((by rw [hg]; exact Nat.ne_of_lt (blk_lt (g := gb214) (o := .cells #[.int .i32 a1_0, .int .i32 a1_1] 23 (0, 0)) (by (with_reducible repeat (first | refine blk_drewN ?_ _ | refine blk_drew ?_ | refine blk_alloc ?_ _)); exact BK214.out)) : gb214 ≠ gb225)); have n11_ := Aside0.mk ((by rw [hg]; exact Nat.ne_of_gt (blk_lt (g := gb214) (o := .cells #[.int .i32 a1_0, .int .i32 a1_1] 23 (0, 0)) (by (with_reducible repeat (first | refine blk_drewN ?_ _ | refine blk_drew ?_ | refine blk_alloc ?_ _)); exact BK214.out)) : gb225 ≠ gb214)); have n12_ := Aside0.mk ((by rw [hg]; exact Nat.ne_of_lt (blk_lt (g := gb215) (o := .cells #[.int .i32 a2_0, .int .i32 a2_1] 23 (0, 0)) (by (with_reducible repeat (first | refine blk_drewN ?_ _ | refine blk_drew ?_ | refine blk_alloc ?_ _)); exact BK215.out)) : gb215 ≠ gb225)); have n13_ := Aside0.mk ((by rw [hg]; exact Nat.ne_of_gt (blk_lt (g := gb215) (o := .cells #[.int .i32 a2_0, .int .i32 a2_1] 23 (0, 0)) (by (with_reducible repeat (first | refine blk_drewN ?_ _ | refine blk_drew ?_ | refine blk_alloc ?_ _)); exact BK215.out)) : gb225 ≠ gb215)); have n14_ := Aside0.mk ((by rw [hg]; exact Nat.ne_of_lt (blk_lt (g := gb216) (o := .cells #[.int .i32 a3_0, .int .i32 a3_1] 23 (0, 0)) (by (with_reducible repeat (first | refine blk_drewN ?_ _ | refine blk_drew ?_ | refine blk_alloc ?_ _)); exact BK216.out)) : gb216 ≠ gb225)); have n15_ := Aside0.mk ((by rw [hg]; exact Nat.ne_of_gt (blk_lt (g := gb216) (o := .cells #[.int .i32 a3_0, .int .i32 a3_1] 23 (0, 0)) (by (with_reducible repeat (first | refine blk_drewN ?_ _ | refine blk_drew ?_ | refine blk_alloc ?_ _)); exact BK216.out)) : gb225 ≠ gb216)); clear BK213; clear BK214; clear BK215; clear BK216; clear HB; have BK213 := n0_; have BK214 := n1_; have BK215 := n2_; have BK216 := n3_; have HB := n4_; have BK225 := n5_; have GW225 := n6_; have GE225 := n7_; have NB213_225 := n8_; have NB225_213 := n9_; have NB214_225 := n10_; have NB225_214 := n11_; have NB215_225 := n12_; have NB225_215 := n13_; have NB216_225 := n14_; have NB225_216 := n15_; clear n0_ n1_ n2_ n3_ n4_ n5_ n6_ n7_ n8_ n9_ n10_ n11_ n12_ n13_ n14_ n15_; clear hb hbox hg) | ((with_reducible refine gate_dst (N := 11) rfl ?_); refine box_event ?hg (N := 11) ?hd (cs := #[.int .i32 0, .int .i32 0]) (t := 23) ?hr ?_; (case hd => rfl); (case hg => rfl); (case hr => first | (go_simp; done) | (go_simp; rfl)); intro gb226 hg w49 hbox hb; have n0_ := Aside0.mk (blk_below (g := gb213) (o := .cells #[.int .i32 a0_0, .int .i32 a0_1] 23 (0, 0)) (by (with_reducible repeat (first | refine blk_drewN ?_ _ | refine blk_drew ?_ | refine blk_alloc ?_ _)); exact BK213.out) hb); have n1_ := Aside0.mk (blk_below (g := gb214) (o := .cells #[.int .i32 a1_0, .int .i32 a1_1] 23 (0, 0)) (by (with_reducible repeat (first | refine blk_drewN ?_ _ | refine blk_drew ?_ | refine blk_alloc ?_ _)); exact BK214.out) hb); have n2_ := Aside0.mk (blk_below (g := gb215) (o := .cells #[.int .i32 a2_0, .int .i32 a2_1] 23 (0, 0)) (by (with_reducible repeat (first | refine blk_drewN ?_ _ | refine blk_drew ?_ | refine blk_alloc ?_ _)); exact BK215.out) hb); have n3_ := Aside0.mk (blk_below (g := gb216) (o := .cells #[.int .i32 a3_0, .int .i32 a3_1] 23 (0, 0)) (by (with_reducible repeat (first | refine blk_drewN ?_ _ | refine blk_drew ?_ | refine blk_alloc ?_ _)); exact BK216.out) hb); have n4_ := Aside0.mk (blk_below (g := gb225) (o := .cells #[.int .i32 0, .int .i32 0] 23 (0, 0)) (by (with_reducible repeat (first | refine blk_drewN ?_ _ | refine blk_drew ?_ | refine blk_alloc ?_ _)); exact BK225.out) hb); have n5_ := Aside0.mk (below_step (by repeat (first | (with_reducible first | exact HB.out | apply below_alloc | apply pw_below_drewN | apply below_drew1 | refine below_set ?_ GE213.out | refine below_set ?_ GE214.out | refine below_set ?_ GE215.out | refine below_set ?_ GE216.out | refine below_set ?_ GE225.out) | exact HB.out)) hb); have n6_ := Aside0.mk (hbox); have n7_ := Aside0.mk ((by rw [hg]; exact (below_size (by repeat (first | (with_reducible first | exact HB.out | apply below_alloc | apply pw_below_drewN | apply below_drew1 | refine below_set ?_ GE213.out | refine below_set ?_ GE214.out | refine below_set ?_ GE215.out | refine below_set ?_ GE216.out | refine below_set ?_ GE225.out) | exact HB.out))) : w.heap.size ≤ gb226)); have n8_ := Aside0.mk ((by rw [hg]; exact (below_size (by repeat (first | (with_reducible first | exact HB.out | apply below_alloc | apply pw_below_drewN | apply below_drew1 | refine below_set ?_ GE213.out | refine below_set ?_ GE214.out | refine below_set ?_ GE215.out | refine below_set ?_ GE216.out | refine below_set ?_ GE225.out) | exact HB.out))) : w.heap.size ≤ gb226)); have n9_ := Aside0.mk ((by rw [hg]; exact Nat.ne_of_lt (blk_lt (g := gb213) (o := .cells #[.int .i32 a0_0, .int .i32 a0_1] 23 (0, 0)) (by (with_reducible repeat (first | refine blk_drewN ?_ _ | refine blk_drew ?_ | refine blk_alloc ?_ _)); exact BK213.out)) : gb213 ≠ gb226)); have n10_ := Aside0.mk ((by rw [hg]; exact Nat.ne_of_gt (blk_lt (g := gb213) (o := .cells #[.int .i32 a0_0, .int .i32 a0_1] 23 (0, 0)) (by (with_reducible repeat (first | refine blk_drewN ?_ _ | refine blk_drew ?_ | refine blk_alloc ?_ _)); exact BK213.out)) : gb226 ≠ gb213)); have n11_ := Aside0.mk ((by rw [hg]; exact Nat.ne_of_lt (blk_lt (g := gb214) (o := .cells #[.int .i32 a1_0, .int .i32 a1_1] 23 (0, 0)) (by (with_reducible repeat (first | refine blk_drewN ?_ _ | refine blk_drew ?_ | refine blk_alloc ?_ _)); exact BK214.out)) : gb214 ≠ gb226)); have n12_ := Aside0.mk ((by rw [hg]; exact Nat.ne_of_gt (blk_lt (g := gb214) (o := .cells #[.int .i32 a1_0, .int .i32 a1_1] 23 (0, 0)) (by (with_reducible repeat (first | refine blk_drewN ?_ _ | refine blk_drew ?_ | refine blk_alloc ?_ _)); exact BK214.out)) : gb226 ≠ gb214)); have n13_ := Aside0.mk ((by rw [hg]; exact Nat.ne_of_lt (blk_lt (g := gb215) (o := .cells #[.int .i32 a2_0, .int .i32 a2_1] 23 (0, 0)) (by (with_reducible repeat (first | refine blk_drewN ?_ _ | refine blk_drew ?_ | refine blk_alloc ?_ _)); exact BK215.out)) : gb215 ≠ gb226)); have n14_ := Aside0.mk ((by rw [hg]; exact Nat.ne_of_gt (blk_lt (g := gb215) (o := .cells #[.int .i32 a2_0, .int .i32 a2_1] 23 (0, 0)) (by (with_reducible repeat (first | refine blk_drewN ?_ _ | refine blk_drew ?_ | refine blk_alloc ?_ _)); exact BK215.out)) : gb226 ≠ gb215)); have n15_ := Aside0.mk ((by rw [hg]; exact Nat.ne_of_lt (blk_lt (g := gb216) (o := .cells #[.int .i32 a3_0, .int .i32 a3_1] 23 (0, 0)) (by (with_reducible repeat (first | refine blk_drewN ?_ _ | refine blk_drew ?_ | refine blk_alloc ?_ _)); exact BK216.out)) : gb216 ≠ gb226)); have n16_ := Aside0.mk ((by rw [hg]; exact Nat.ne_of_gt (blk_lt (g := gb216) (o := .cells #[.int .i32 a3_0, .int .i32 a3_1] 23 (0, 0)) (by (with_reducible repeat (first | refine blk_drewN ?_ _ | refine blk_drew ?_ | refine blk_alloc ?_ _)); exact BK216.out)) : gb226 ≠ gb216)); have n17_ := Aside0.mk ((by rw [hg]; exact Nat.ne_of_lt (blk_lt (g := gb225) (o := .cells #[.int .i32 0, .int .i32 0] 23 (0, 0)) (by (with_reducible repeat (first | refine blk_drewN ?_ _ | refine blk_drew ?_ | refine blk_alloc ?_ _)); exact BK225.out)) : gb225 ≠ gb226)); have n18_ := Aside0.mk ((by rw [hg]; exact Nat.ne_of_gt (blk_lt (g := gb225) (o := .cells #[.int .i32 0, .int .i32 0] 23 (0, 0)) (by (with_reducible repeat (first | refine blk_drewN ?_ _ | refine blk_drew ?_ | refine blk_alloc ?_ _)); exact BK225.out)) : gb226 ≠ gb225)); clear BK213; clear BK214; clear BK215; clear BK216; clear BK225; clear HB; have BK213 := n0_; have BK214 := n1_; have BK215 := n2_; have BK216 := n3_; have BK225 := n4_; have HB := n5_; have BK226 := n6_; have GW226 := n7_; have GE226 := n8_; have NB213_226 := n9_; have NB226_213 := n10_; have NB214_226 := n11_; have NB226_214 := n12_; have NB215_226 := n13_; have NB226_215 := n14_; have NB216_226 := n15_; have NB226_216 := n16_; have NB225_226 := n17_; have NB226_225 := n18_; clear n0_ n1_ n2_ n3_ n4_ n5_ n6_ n7_ n8_ n9_ n10_ n11_ n12_ n13_ n14_ n15_ n16_ n17_ n18_; clear hb hbox hg; have hnb50 := NB225_213.out; have hnc50 := NB213_225.out; have hnb51 := NB225_214.out; have hnc51 := NB214_225.out; have hnb52 := NB225_215.out; have hnc52 := NB215_225.out; have hnb53 := NB225_216.out; have hnc53 := NB216_225.out; have hnb54 := NB225_226.out; have hnc54 := NB226_225.out; have hcz55_0 : w49.cell? ⟨gb225, 0, none⟩ = some (.int .i32 0) := (blk_cell BK225.out 0).trans rfl; have hcz55_1 : w49.cell? ⟨gb225, 1, none⟩ = some (.int .i32 0) := (blk_cell BK225.out 1).trans rfl; have hfz55_0 := blk_frozen BK225.out 0; have hfz55_1 := blk_frozen BK225.out 1; have hnb56 := NB226_213.out; have hnc56 := NB213_226.out; have hnb57 := NB226_214.out; have hnc57 := NB214_226.out; have hnb58 := NB226_215.out; have hnc58 := NB215_226.out; have hnb59 := NB226_216.out; have hnc59 := NB216_226.out; have hcz60_0 : w49.cell? ⟨gb226, 0, none⟩ = some (.int .i32 0) := (blk_cell BK226.out 0).trans rfl; have hcz60_1 : w49.cell? ⟨gb226, 1, none⟩ = some (.int .i32 0) := (blk_cell BK226.out 1).trans rfl; have hfz60_0 := blk_frozen BK226.out 0; have hfz60_1 := blk_frozen BK226.out 1))
        (try simp only [Act.put, List.setIfInBounds_toArray, List.set_cons_zero, List.set_cons_succ])
        go_cut [65] (fun v65 wc => ∃ (kq : Nat) (x65_30 : Bool), v65 = .bool x65_30 ∧ Aside0 (billiardlaw13_SegmentLeast.j1 kq t220 x65_30 a0_0 a0_1 a1_0 a1_1 a2_0 a2_1 a3_0 a3_1 t221 t222 t223 t224 = some r) ∧ Aside0 (kq ≤ kj4) ∧ Aside0 (wc.heap[gb213]? = some (.cells #[.int .i32 a0_0, .int .i32 a0_1] 23 (0, 0))) ∧ Aside0 (wc.heap[gb214]? = some (.cells #[.int .i32 a1_0, .int .i32 a1_1] 23 (0, 0))) ∧ Aside0 (wc.heap[gb215]? = some (.cells #[.int .i32 a2_0, .int .i32 a2_1] 23 (0, 0))) ∧ Aside0 (wc.heap[gb216]? = some (.cells #[.int .i32 a3_0, .int .i32 a3_1] 23 (0, 0))) ∧ Aside0 (wc.heap[gb225]? = some (.cells #[.int .i32 t221, .int .i32 t222] 23 (0, 0))) ∧ Aside0 (wc.heap[gb226]? = some (.cells #[.int .i32 t223, .int .i32 t224] 23 (0, 0))) ∧ Aside0 (Below w.heap.size w wc))
        case first =>
          have H := HC31.out
          clear HC31
          replace H := Option.bind_eq_some_iff.mp H
          obtain ⟨t227, A610, H⟩ := H
          replace H : (if t220 > t227 then (billiardlaw13_SegmentLeast.j1 kj4 t220 true a0_0 a0_1 a1_0 a1_1 a2_0 a2_1 a3_0 a3_1 t221 t222 t223 t224) else ((billiardref12_DistSq.f a2_0 a2_1 a3_0 a3_1 a1_0 a1_1).bind fun t228 => (if t220 > t228 then (billiardlaw13_SegmentLeast.j1 kj4 t220 true a0_0 a0_1 a1_0 a1_1 a2_0 a2_1 a3_0 a3_1 t221 t222 t223 t224) else ((billiardref12_DistSq.f a0_0 a0_1 a1_0 a1_1 a2_0 a2_1).bind fun t229 => (if t220 > t229 then (billiardlaw13_SegmentLeast.j1 kj4 t220 true a0_0 a0_1 a1_0 a1_1 a2_0 a2_1 a3_0 a3_1 t221 t222 t223 t224) else ((billiardref12_DistSq.f a0_0 a0_1 a1_0 a1_1 a3_0 a3_1).bind fun t230 => (billiardlaw13_SegmentLeast.j1 kj4 t220 (decide (t220 > t230)) a0_0 a0_1 a1_0 a1_1 a2_0 a2_1 a3_0 a3_1 t221 t222 t223 t224))))))) = some r := H
          have A61 := Aside0.mk A610
          clear A610
          by_cases c62 : t220 > t227
          · rw [if_pos c62] at H
            have c62b0 : decide (t227 < t220) = true := decide_eq_true c62
            clear c62
            (first | rw [c62b0] | (simp only [i64_w, i32_w]; rw [c62b0]) | skip)
            have H' := Aside0.mk H
            clear H
            have hnb63 := NB215_213.out
            have hnc63 := NB213_215.out
            have hnb64 := NB215_214.out
            have hnc64 := NB214_215.out
            have hnb65 := NB215_216.out
            have hnc65 := NB216_215.out
            have hnb66 := NB215_225.out
            have hnc66 := NB225_215.out
            have hnb67 := NB215_226.out
            have hnc67 := NB226_215.out
            have hcz68_0 : w49.cell? ⟨gb215, 0, none⟩ = some (.int .i32 a2_0) := (blk_cell BK215.out 0).trans rfl
            have hcz68_1 : w49.cell? ⟨gb215, 1, none⟩ = some (.int .i32 a2_1) := (blk_cell BK215.out 1).trans rfl
            have hfz68_0 := blk_frozen BK215.out 0
            have hfz68_1 := blk_frozen BK215.out 1
            have hnb69 := NB216_213.out
            have hnc69 := NB213_216.out
            have hnb70 := NB216_214.out
            have hnc70 := NB214_216.out
            have hnb71 := NB216_225.out
            have hnc71 := NB225_216.out
            have hnb72 := NB216_226.out
            have hnc72 := NB226_216.out
            have hcz73_0 : w49.cell? ⟨gb216, 0, none⟩ = some (.int .i32 a3_0) := (blk_cell BK216.out 0).trans rfl
            have hcz73_1 : w49.cell? ⟨gb216, 1, none⟩ = some (.int .i32 a3_1) := (blk_cell BK216.out 1).trans rfl
            have hfz73_0 := blk_frozen BK216.out 0
            have hfz73_1 := blk_frozen BK216.out 1
            have hnb74 := NB213_214.out
            have hnc74 := NB214_213.out
            have hnb75 := NB213_225.out
            have hnc75 := NB225_213.out
            have hnb76 := NB213_226.out
            have hnc76 := NB226_213.out
            have hcz77_0 : w49.cell? ⟨gb213, 0, none⟩ = some (.int .i32 a0_0) := (blk_cell BK213.out 0).trans rfl
            have hcz77_1 : w49.cell? ⟨gb213, 1, none⟩ = some (.int .i32 a0_1) := (blk_cell BK213.out 1).trans rfl
            have hfz77_0 := blk_frozen BK213.out 0
            have hfz77_1 := blk_frozen BK213.out 1
            go_wp2_with (first | ((with_reducible refine gate_callee (f := 14) rfl ?_); refine goesL_ (some 40) rfl rfl Try.func14 (by kernel_rfl) rfl #[.agg #[.int .i32 a2_0, .int .i32 a2_1], .agg #[.int .i32 a3_0, .int .i32 a3_1], .agg #[.int .i32 a0_0, .int .i32 a0_1]] rfl (by (try simp only [List.map_toArray, List.map_cons, List.map_nil]); first | done | rfl | (simp only [List.length_drop, List.length_take]; rfl)) ?_; (with_reducible refine (billiardref12_DistSq.calls a2_0 a2_1 a3_0 a3_1 a0_0 a0_1 t227 _ A61.out).mono ?_); rintro e w78 ⟨rfl, hb⟩; refine ⟨_, rfl, ?_⟩; have n0_ := Aside0.mk (blk_below (g := gb213) (o := .cells #[.int .i32 a0_0, .int .i32 a0_1] 23 (0, 0)) (by (with_reducible repeat (first | refine blk_drewN ?_ _ | refine blk_drew ?_ | refine blk_alloc ?_ _)); refine blk_far ?_ NB213_226.out _; (with_reducible repeat (first | refine blk_drewN ?_ _ | refine blk_drew ?_ | refine blk_alloc ?_ _)); refine blk_far ?_ NB213_226.out _; (with_reducible repeat (first | refine blk_drewN ?_ _ | refine blk_drew ?_ | refine blk_alloc ?_ _)); refine blk_far ?_ NB213_225.out _; (with_reducible repeat (first | refine blk_drewN ?_ _ | refine blk_drew ?_ | refine blk_alloc ?_ _)); refine blk_far ?_ NB213_225.out _; (with_reducible repeat (first | refine blk_drewN ?_ _ | refine blk_drew ?_ | refine blk_alloc ?_ _)); exact BK213.out) hb); have n1_ := Aside0.mk (blk_below (g := gb214) (o := .cells #[.int .i32 a1_0, .int .i32 a1_1] 23 (0, 0)) (by (with_reducible repeat (first | refine blk_drewN ?_ _ | refine blk_drew ?_ | refine blk_alloc ?_ _)); refine blk_far ?_ NB214_226.out _; (with_reducible repeat (first | refine blk_drewN ?_ _ | refine blk_drew ?_ | refine blk_alloc ?_ _)); refine blk_far ?_ NB214_226.out _; (with_reducible repeat (first | refine blk_drewN ?_ _ | refine blk_drew ?_ | refine blk_alloc ?_ _)); refine blk_far ?_ NB214_225.out _; (with_reducible repeat (first | refine blk_drewN ?_ _ | refine blk_drew ?_ | refine blk_alloc ?_ _)); refine blk_far ?_ NB214_225.out _; (with_reducible repeat (first | refine blk_drewN ?_ _ | refine blk_drew ?_ | refine blk_alloc ?_ _)); exact BK214.out) hb); have n2_ := Aside0.mk (blk_below (g := gb215) (o := .cells #[.int .i32 a2_0, .int .i32 a2_1] 23 (0, 0)) (by (with_reducible repeat (first | refine blk_drewN ?_ _ | refine blk_drew ?_ | refine blk_alloc ?_ _)); refine blk_far ?_ NB215_226.out _; (with_reducible repeat (first | refine blk_drewN ?_ _ | refine blk_drew ?_ | refine blk_alloc ?_ _)); refine blk_far ?_ NB215_226.out _; (with_reducible repeat (first | refine blk_drewN ?_ _ | refine blk_drew ?_ | refine blk_alloc ?_ _)); refine blk_far ?_ NB215_225.out _; (with_reducible repeat (first | refine blk_drewN ?_ _ | refine blk_drew ?_ | refine blk_alloc ?_ _)); refine blk_far ?_ NB215_225.out _; (with_reducible repeat (first | refine blk_drewN ?_ _ | refine blk_drew ?_ | refine blk_alloc ?_ _)); exact BK215.out) hb); have n3_ := Aside0.mk (blk_below (g := gb216) (o := .cells #[.int .i32 a3_0, .int .i32 a3_1] 23 (0, 0)) (by (with_reducible repeat (first | refine blk_drewN ?_ _ | refine blk_drew ?_ | refine blk_alloc ?_ _)); refine blk_far ?_ NB216_226.out _; (with_reducible repeat (first | refine blk_drewN ?_ _ | refine blk_drew ?_ | refine blk_alloc ?_ _)); refine blk_far ?_ NB216_226.out _; (with_reducible repeat (first | refine blk_drewN ?_ _ | refine blk_drew ?_ | refine blk_alloc ?_ _)); refine blk_far ?_ NB216_225.out _; (with_reducible repeat (first | refine blk_drewN ?_ _ | refine blk_drew ?_ | refine blk_alloc ?_ _)); refine blk_far ?_ NB216_225.out _; (with_reducible repeat (first | refine blk_drewN ?_ _ | refine blk_drew ?_ | refine blk_alloc ?_ _)); exact BK216.out) hb); have n4_ := Aside0.mk (blk_below (g := gb225) (o := .cells #[.int .i32 t221, .int .i32 t222] 23 (0, 0)) (by (with_reducible repeat (first | refine blk_drewN ?_ _ | refine blk_drew ?_ | refine blk_alloc ?_ _)); refine blk_far ?_ NB225_226.out _; (with_reducible repeat (first | refine blk_drewN ?_ _ | refine blk_drew ?_ | refine blk_alloc ?_ _)); refine blk_far ?_ NB225_226.out _; (with_reducible repeat (first | refine blk_drewN ?_ _ | refine blk_drew ?_ | refine blk_alloc ?_ _)); refine blk_put (cs := #[.int .i32 t221, .int .i32 0]) ?_ 1 _ rfl; (with_reducible repeat (first | refine blk_drewN ?_ _ | refine blk_drew ?_ | refine blk_alloc ?_ _)); refine blk_put (cs := #[.int .i32 0, .int .i32 0]) ?_ 0 _ rfl; (with_reducible repeat (first | refine blk_drewN ?_ _ | refine blk_drew ?_ | refine blk_alloc ?_ _)); exact BK225.out) hb); have n5_ := Aside0.mk (blk_below (g := gb226) (o := .cells #[.int .i32 t223, .int .i32 t224] 23 (0, 0)) (by (with_reducible repeat (first | refine blk_drewN ?_ _ | refine blk_drew ?_ | refine blk_alloc ?_ _)); refine blk_put (cs := #[.int .i32 t223, .int .i32 0]) ?_ 1 _ rfl; (with_reducible repeat (first | refine blk_drewN ?_ _ | refine blk_drew ?_ | refine blk_alloc ?_ _)); refine blk_put (cs := #[.int .i32 0, .int .i32 0]) ?_ 0 _ rfl; (with_reducible repeat (first | refine blk_drewN ?_ _ | refine blk_drew ?_ | refine blk_alloc ?_ _)); refine blk_far ?_ NB226_225.out _; (with_reducible repeat (first | refine blk_drewN ?_ _ | refine blk_drew ?_ | refine blk_alloc ?_ _)); refine blk_far ?_ NB226_225.out _; (with_reducible repeat (first | refine blk_drewN ?_ _ | refine blk_drew ?_ | refine blk_alloc ?_ _)); exact BK226.out) hb); have n6_ := Aside0.mk (below_step (by repeat (first | (with_reducible first | exact HB.out | apply below_alloc | apply pw_below_drewN | apply below_drew1 | refine below_set ?_ GE213.out | refine below_set ?_ GE214.out | refine below_set ?_ GE215.out | refine below_set ?_ GE216.out | refine below_set ?_ GE225.out | refine below_set ?_ GE226.out) | exact HB.out)) hb); clear BK213; clear BK214; clear BK215; clear BK216; clear BK225; clear BK226; clear HB; have BK213 := n0_; have BK214 := n1_; have BK215 := n2_; have BK216 := n3_; have BK225 := n4_; have BK226 := n5_; have HB := n6_; clear n0_ n1_ n2_ n3_ n4_ n5_ n6_; (try clear hb); (try clear hb2); (try clear hk); (try clear hi)))
            go_meet
            case rel => exact ⟨_, (true), (by first | rfl | (simp; done) | (simp [*]; done)), H', ⟨by have := HJ4.out; first | omega | exact Nat.le_refl _⟩, ⟨by (with_reducible repeat (first | refine blk_drewN ?_ _ | refine blk_drew ?_ | refine blk_alloc ?_ _)); exact BK213.out⟩, ⟨by (with_reducible repeat (first | refine blk_drewN ?_ _ | refine blk_drew ?_ | refine blk_alloc ?_ _)); exact BK214.out⟩, ⟨by (with_reducible repeat (first | refine blk_drewN ?_ _ | refine blk_drew ?_ | refine blk_alloc ?_ _)); exact BK215.out⟩, ⟨by (with_reducible repeat (first | refine blk_drewN ?_ _ | refine blk_drew ?_ | refine blk_alloc ?_ _)); exact BK216.out⟩, ⟨by (with_reducible repeat (first | refine blk_drewN ?_ _ | refine blk_drew ?_ | refine blk_alloc ?_ _)); exact BK225.out⟩, ⟨by (with_reducible repeat (first | refine blk_drewN ?_ _ | refine blk_drew ?_ | refine blk_alloc ?_ _)); exact BK226.out⟩, ⟨by repeat (first | (with_reducible first | exact HB.out | apply below_alloc | apply pw_below_drewN | apply below_drew1 | refine below_set ?_ GE213.out | refine below_set ?_ GE214.out | refine below_set ?_ GE215.out | refine below_set ?_ GE216.out | refine below_set ?_ GE225.out | refine below_set ?_ GE226.out) | exact HB.out)⟩⟩
          · rw [if_neg c62] at H
            have c62b0 : decide (t227 < t220) = false := decide_eq_false c62
            clear c62
            (first | rw [c62b0] | (simp only [i64_w, i32_w]; rw [c62b0]) | skip)
            replace H := Option.bind_eq_some_iff.mp H
            obtain ⟨t228, A790, H⟩ := H
            replace H : (if t220 > t228 then (billiardlaw13_SegmentLeast.j1 kj4 t220 true a0_0 a0_1 a1_0 a1_1 a2_0 a2_1 a3_0 a3_1 t221 t222 t223 t224) else ((billiardref12_DistSq.f a0_0 a0_1 a1_0 a1_1 a2_0 a2_1).bind fun t229 => (if t220 > t229 then (billiardlaw13_SegmentLeast.j1 kj4 t220 true a0_0 a0_1 a1_0 a1_1 a2_0 a2_1 a3_0 a3_1 t221 t222 t223 t224) else ((billiardref12_DistSq.f a0_0 a0_1 a1_0 a1_1 a3_0 a3_1).bind fun t230 => (billiardlaw13_SegmentLeast.j1 kj4 t220 (decide (t220 > t230)) a0_0 a0_1 a1_0 a1_1 a2_0 a2_1 a3_0 a3_1 t221 t222 t223 t224))))) = some r := H
            have A79 := Aside0.mk A790
            clear A790
            by_cases c80 : t220 > t228
            · rw [if_pos c80] at H
              have c80b0 : decide (t228 < t220) = true := decide_eq_true c80
              clear c80
              have H' := Aside0.mk H
              clear H
              have hnb81 := NB215_213.out
              have hnc81 := NB213_215.out
              have hnb82 := NB215_214.out
              have hnc82 := NB214_215.out
              have hnb83 := NB215_216.out
              have hnc83 := NB216_215.out
              have hnb84 := NB215_225.out
              have hnc84 := NB225_215.out
              have hnb85 := NB215_226.out
              have hnc85 := NB226_215.out
              have hcz86_0 : w49.cell? ⟨gb215, 0, none⟩ = some (.int .i32 a2_0) := (blk_cell BK215.out 0).trans rfl
              have hcz86_1 : w49.cell? ⟨gb215, 1, none⟩ = some (.int .i32 a2_1) := (blk_cell BK215.out 1).trans rfl
              have hfz86_0 := blk_frozen BK215.out 0
              have hfz86_1 := blk_frozen BK215.out 1
              have hnb87 := NB216_213.out
              have hnc87 := NB213_216.out
              have hnb88 := NB216_214.out
              have hnc88 := NB214_216.out
              have hnb89 := NB216_225.out
              have hnc89 := NB225_216.out
              have hnb90 := NB216_226.out
              have hnc90 := NB226_216.out
              have hcz91_0 : w49.cell? ⟨gb216, 0, none⟩ = some (.int .i32 a3_0) := (blk_cell BK216.out 0).trans rfl
              have hcz91_1 : w49.cell? ⟨gb216, 1, none⟩ = some (.int .i32 a3_1) := (blk_cell BK216.out 1).trans rfl
              have hfz91_0 := blk_frozen BK216.out 0
              have hfz91_1 := blk_frozen BK216.out 1
              have hnb92 := NB213_214.out
              have hnc92 := NB214_213.out
              have hnb93 := NB213_225.out
              have hnc93 := NB225_213.out
              have hnb94 := NB213_226.out
              have hnc94 := NB226_213.out
              have hcz95_0 : w49.cell? ⟨gb213, 0, none⟩ = some (.int .i32 a0_0) := (blk_cell BK213.out 0).trans rfl
              have hcz95_1 : w49.cell? ⟨gb213, 1, none⟩ = some (.int .i32 a0_1) := (blk_cell BK213.out 1).trans rfl
              have hfz95_0 := blk_frozen BK213.out 0
              have hfz95_1 := blk_frozen BK213.out 1
              go_wp2_with (first | ((with_reducible refine gate_callee (f := 14) rfl ?_); refine goesL_ (some 40) rfl rfl Try.func14 (by kernel_rfl) rfl #[.agg #[.int .i32 a2_0, .int .i32 a2_1], .agg #[.int .i32 a3_0, .int .i32 a3_1], .agg #[.int .i32 a0_0, .int .i32 a0_1]] rfl (by (try simp only [List.map_toArray, List.map_cons, List.map_nil]); first | done | rfl | (simp only [List.length_drop, List.length_take]; rfl)) ?_; (with_reducible refine (billiardref12_DistSq.calls a2_0 a2_1 a3_0 a3_1 a0_0 a0_1 t227 _ A61.out).mono ?_); rintro e w96 ⟨rfl, hb⟩; refine ⟨_, rfl, ?_⟩; have n0_ := Aside0.mk (blk_below (g := gb213) (o := .cells #[.int .i32 a0_0, .int .i32 a0_1] 23 (0, 0)) (by (with_reducible repeat (first | refine blk_drewN ?_ _ | refine blk_drew ?_ | refine blk_alloc ?_ _)); refine blk_far ?_ NB213_226.out _; (with_reducible repeat (first | refine blk_drewN ?_ _ | refine blk_drew ?_ | refine blk_alloc ?_ _)); refine blk_far ?_ NB213_226.out _; (with_reducible repeat (first | refine blk_drewN ?_ _ | refine blk_drew ?_ | refine blk_alloc ?_ _)); refine blk_far ?_ NB213_225.out _; (with_reducible repeat (first | refine blk_drewN ?_ _ | refine blk_drew ?_ | refine blk_alloc ?_ _)); refine blk_far ?_ NB213_225.out _; (with_reducible repeat (first | refine blk_drewN ?_ _ | refine blk_drew ?_ | refine blk_alloc ?_ _)); exact BK213.out) hb); have n1_ := Aside0.mk (blk_below (g := gb214) (o := .cells #[.int .i32 a1_0, .int .i32 a1_1] 23 (0, 0)) (by (with_reducible repeat (first | refine blk_drewN ?_ _ | refine blk_drew ?_ | refine blk_alloc ?_ _)); refine blk_far ?_ NB214_226.out _; (with_reducible repeat (first | refine blk_drewN ?_ _ | refine blk_drew ?_ | refine blk_alloc ?_ _)); refine blk_far ?_ NB214_226.out _; (with_reducible repeat (first | refine blk_drewN ?_ _ | refine blk_drew ?_ | refine blk_alloc ?_ _)); refine blk_far ?_ NB214_225.out _; (with_reducible repeat (first | refine blk_drewN ?_ _ | refine blk_drew ?_ | refine blk_alloc ?_ _)); refine blk_far ?_ NB214_225.out _; (with_reducible repeat (first | refine blk_drewN ?_ _ | refine blk_drew ?_ | refine blk_alloc ?_ _)); exact BK214.out) hb); have n2_ := Aside0.mk (blk_below (g := gb215) (o := .cells #[.int .i32 a2_0, .int .i32 a2_1] 23 (0, 0)) (by (with_reducible repeat (first | refine blk_drewN ?_ _ | refine blk_drew ?_ | refine blk_alloc ?_ _)); refine blk_far ?_ NB215_226.out _; (with_reducible repeat (first | refine blk_drewN ?_ _ | refine blk_drew ?_ | refine blk_alloc ?_ _)); refine blk_far ?_ NB215_226.out _; (with_reducible repeat (first | refine blk_drewN ?_ _ | refine blk_drew ?_ | refine blk_alloc ?_ _)); refine blk_far ?_ NB215_225.out _; (with_reducible repeat (first | refine blk_drewN ?_ _ | refine blk_drew ?_ | refine blk_alloc ?_ _)); refine blk_far ?_ NB215_225.out _; (with_reducible repeat (first | refine blk_drewN ?_ _ | refine blk_drew ?_ | refine blk_alloc ?_ _)); exact BK215.out) hb); have n3_ := Aside0.mk (blk_below (g := gb216) (o := .cells #[.int .i32 a3_0, .int .i32 a3_1] 23 (0, 0)) (by (with_reducible repeat (first | refine blk_drewN ?_ _ | refine blk_drew ?_ | refine blk_alloc ?_ _)); refine blk_far ?_ NB216_226.out _; (with_reducible repeat (first | refine blk_drewN ?_ _ | refine blk_drew ?_ | refine blk_alloc ?_ _)); refine blk_far ?_ NB216_226.out _; (with_reducible repeat (first | refine blk_drewN ?_ _ | refine blk_drew ?_ | refine blk_alloc ?_ _)); refine blk_far ?_ NB216_225.out _; (with_reducible repeat (first | refine blk_drewN ?_ _ | refine blk_drew ?_ | refine blk_alloc ?_ _)); refine blk_far ?_ NB216_225.out _; (with_reducible repeat (first | refine blk_drewN ?_ _ | refine blk_drew ?_ | refine blk_alloc ?_ _)); exact BK216.out) hb); have n4_ := Aside0.mk (blk_below (g := gb225) (o := .cells #[.int .i32 t221, .int .i32 t222] 23 (0, 0)) (by (with_reducible repeat (first | refine blk_drewN ?_ _ | refine blk_drew ?_ | refine blk_alloc ?_ _)); refine blk_far ?_ NB225_226.out _; (with_reducible repeat (first | refine blk_drewN ?_ _ | refine blk_drew ?_ | refine blk_alloc ?_ _)); refine blk_far ?_ NB225_226.out _; (with_reducible repeat (first | refine blk_drewN ?_ _ | refine blk_drew ?_ | refine blk_alloc ?_ _)); refine blk_put (cs := #[.int .i32 t221, .int .i32 0]) ?_ 1 _ rfl; (with_reducible repeat (first | refine blk_drewN ?_ _ | refine blk_drew ?_ | refine blk_alloc ?_ _)); refine blk_put (cs := #[.int .i32 0, .int .i32 0]) ?_ 0 _ rfl; (with_reducible repeat (first | refine blk_drewN ?_ _ | refine blk_drew ?_ | refine blk_alloc ?_ _)); exact BK225.out) hb); have n5_ := Aside0.mk (blk_below (g := gb226) (o := .cells #[.int .i32 t223, .int .i32 t224] 23 (0, 0)) (by (with_reducible repeat (first | refine blk_drewN ?_ _ | refine blk_drew ?_ | refine blk_alloc ?_ _)); refine blk_put (cs := #[.int .i32 t223, .int .i32 0]) ?_ 1 _ rfl; (with_reducible repeat (first | refine blk_drewN ?_ _ | refine blk_drew ?_ | refine blk_alloc ?_ _)); refine blk_put (cs := #[.int .i32 0, .int .i32 0]) ?_ 0 _ rfl; (with_reducible repeat (first | refine blk_drewN ?_ _ | refine blk_drew ?_ | refine blk_alloc ?_ _)); refine blk_far ?_ NB226_225.out _; (with_reducible repeat (first | refine blk_drewN ?_ _ | refine blk_drew ?_ | refine blk_alloc ?_ _)); refine blk_far ?_ NB226_225.out _; (with_reducible repeat (first | refine blk_drewN ?_ _ | refine blk_drew ?_ | refine blk_alloc ?_ _)); exact BK226.out) hb); have n6_ := Aside0.mk (below_step (by repeat (first | (with_reducible first | exact HB.out | apply below_alloc | apply pw_below_drewN | apply below_drew1 | refine below_set ?_ GE213.out | refine below_set ?_ GE214.out | refine below_set ?_ GE215.out | refine below_set ?_ GE216.out | refine below_set ?_ GE225.out | refine below_set ?_ GE226.out) | exact HB.out)) hb); clear BK213; clear BK214; clear BK215; clear BK216; clear BK225; clear BK226; clear HB; have BK213 := n0_; have BK214 := n1_; have BK215 := n2_; have BK216 := n3_; have BK225 := n4_; have BK226 := n5_; have HB := n6_; clear n0_ n1_ n2_ n3_ n4_ n5_ n6_; (try clear hb); (try clear hb2); (try clear hk); (try clear hi); have hcz97_0 : w96.cell? ⟨gb215, 0, none⟩ = some (.int .i32 a2_0) := (blk_cell BK215.out 0).trans rfl; have hcz97_1 : w96.cell? ⟨gb215, 1, none⟩ = some (.int .i32 a2_1) := (blk_cell BK215.out 1).trans rfl; have hfz97_0 := blk_frozen BK215.out 0; have hfz97_1 := blk_frozen BK215.out 1; have hcz98_0 : w96.cell? ⟨gb216, 0, none⟩ = some (.int .i32 a3_0) := (blk_cell BK216.out 0).trans rfl; have hcz98_1 : w96.cell? ⟨gb216, 1, none⟩ = some (.int .i32 a3_1) := (blk_cell BK216.out 1).trans rfl; have hfz98_0 := blk_frozen BK216.out 0; have hfz98_1 := blk_frozen BK216.out 1; have hnb99 := NB214_225.out; have hnc99 := NB225_214.out; have hnb100 := NB214_226.out; have hnc100 := NB226_214.out; have hcz101_0 : w96.cell? ⟨gb214, 0, none⟩ = some (.int .i32 a1_0) := (blk_cell BK214.out 0).trans rfl; have hcz101_1 : w96.cell? ⟨gb214, 1, none⟩ = some (.int .i32 a1_1) := (blk_cell BK214.out 1).trans rfl; have hfz101_0 := blk_frozen BK214.out 0; have hfz101_1 := blk_frozen BK214.out 1) | (go_at_call 14; (with_reducible refine (billiardref12_DistSq.calls a2_0 a2_1 a3_0 a3_1 a1_0 a1_1 t228 _ A79.out).mono ?_); rintro e w102 ⟨rfl, hb⟩; have n0_ := Aside0.mk (blk_below (g := gb213) (o := .cells #[.int .i32 a0_0, .int .i32 a0_1] 23 (0, 0)) (by (with_reducible repeat (first | refine blk_drewN ?_ _ | refine blk_drew ?_ | refine blk_alloc ?_ _)); exact BK213.out) hb); have n1_ := Aside0.mk (blk_below (g := gb214) (o := .cells #[.int .i32 a1_0, .int .i32 a1_1] 23 (0, 0)) (by (with_reducible repeat (first | refine blk_drewN ?_ _ | refine blk_drew ?_ | refine blk_alloc ?_ _)); exact BK214.out) hb); have n2_ := Aside0.mk (blk_below (g := gb215) (o := .cells #[.int .i32 a2_0, .int .i32 a2_1] 23 (0, 0)) (by (with_reducible repeat (first | refine blk_drewN ?_ _ | refine blk_drew ?_ | refine blk_alloc ?_ _)); exact BK215.out) hb); have n3_ := Aside0.mk (blk_below (g := gb216) (o := .cells #[.int .i32 a3_0, .int .i32 a3_1] 23 (0, 0)) (by (with_reducible repeat (first | refine blk_drewN ?_ _ | refine blk_drew ?_ | refine blk_alloc ?_ _)); exact BK216.out) hb); have n4_ := Aside0.mk (blk_below (g := gb225) (o := .cells #[.int .i32 t221, .int .i32 t222] 23 (0, 0)) (by (with_reducible repeat (first | refine blk_drewN ?_ _ | refine blk_drew ?_ | refine blk_alloc ?_ _)); exact BK225.out) hb); have n5_ := Aside0.mk (blk_below (g := gb226) (o := .cells #[.int .i32 t223, .int .i32 t224] 23 (0, 0)) (by (with_reducible repeat (first | refine blk_drewN ?_ _ | refine blk_drew ?_ | refine blk_alloc ?_ _)); exact BK226.out) hb); have n6_ := Aside0.mk (below_step (by repeat (first | (with_reducible first | exact HB.out | apply below_alloc | apply pw_below_drewN | apply below_drew1 | refine below_set ?_ GE213.out | refine below_set ?_ GE214.out | refine below_set ?_ GE215.out | refine below_set ?_ GE216.out | refine below_set ?_ GE225.out | refine below_set ?_ GE226.out) | exact HB.out)) hb); clear BK213; clear BK214; clear BK215; clear BK216; clear BK225; clear BK226; clear HB; have BK213 := n0_; have BK214 := n1_; have BK215 := n2_; have BK216 := n3_; have BK225 := n4_; have BK226 := n5_; have HB := n6_; clear n0_ n1_ n2_ n3_ n4_ n5_ n6_; (try clear hb); (try clear hb2); (try clear hk); (try clear hi)))
              go_meet
              case rel => exact ⟨_, (true), (by first | rfl | (simp; done) | (simp [*]; done)), H', ⟨by have := HJ4.out; first | omega | exact Nat.le_refl _⟩, ⟨by (with_reducible repeat (first | refine blk_drewN ?_ _ | refine blk_drew ?_ | refine blk_alloc ?_ _)); exact BK213.out⟩, ⟨by (with_reducible repeat (first | refine blk_drewN ?_ _ | refine blk_drew ?_ | refine blk_alloc ?_ _)); exact BK214.out⟩, ⟨by (with_reducible repeat (first | refine blk_drewN ?_ _ | refine blk_drew ?_ | refine blk_alloc ?_ _)); exact BK215.out⟩, ⟨by (with_reducible repeat (first | refine blk_drewN ?_ _ | refine blk_drew ?_ | refine blk_alloc ?_ _)); exact BK216.out⟩, ⟨by (with_reducible repeat (first | refine blk_drewN ?_ _ | refine blk_drew ?_ | refine blk_alloc ?_ _)); exact BK225.out⟩, ⟨by (with_reducible repeat (first | refine blk_drewN ?_ _ | refine blk_drew ?_ | refine blk_alloc ?_ _)); exact BK226.out⟩, ⟨by repeat (first | (with_reducible first | exact HB.out | apply below_alloc | apply pw_below_drewN | apply below_drew1 | refine below_set ?_ GE213.out | refine below_set ?_ GE214.out | refine below_set ?_ GE215.out | refine below_set ?_ GE216.out | refine below_set ?_ GE225.out | refine below_set ?_ GE226.out) | exact HB.out)⟩⟩
            · rw [if_neg c80] at H
              have c80b0 : decide (t228 < t220) = false := decide_eq_false c80
              clear c80
              replace H := Option.bind_eq_some_iff.mp H
              obtain ⟨t229, A1030, H⟩ := H
              replace H : (if t220 > t229 then (billiardlaw13_SegmentLeast.j1 kj4 t220 true a0_0 a0_1 a1_0 a1_1 a2_0 a2_1 a3_0 a3_1 t221 t222 t223 t224) else ((billiardref12_DistSq.f a0_0 a0_1 a1_0 a1_1 a3_0 a3_1).bind fun t230 => (billiardlaw13_SegmentLeast.j1 kj4 t220 (decide (t220 > t230)) a0_0 a0_1 a1_0 a1_1 a2_0 a2_1 a3_0 a3_1 t221 t222 t223 t224))) = some r := H
              have A103 := Aside0.mk A1030
              clear A1030
              by_cases c104 : t220 > t229
              · rw [if_pos c104] at H
                have c104b0 : decide (t229 < t220) = true := decide_eq_true c104
                clear c104
                have H' := Aside0.mk H
                clear H
                have hnb105 := NB215_213.out
                have hnc105 := NB213_215.out
                have hnb106 := NB215_214.out
                have hnc106 := NB214_215.out
                have hnb107 := NB215_216.out
                have hnc107 := NB216_215.out
                have hnb108 := NB215_225.out
                have hnc108 := NB225_215.out
                have hnb109 := NB215_226.out
                have hnc109 := NB226_215.out
                have hcz110_0 : w49.cell? ⟨gb215, 0, none⟩ = some (.int .i32 a2_0) := (blk_cell BK215.out 0).trans rfl
                have hcz110_1 : w49.cell? ⟨gb215, 1, none⟩ = some (.int .i32 a2_1) := (blk_cell BK215.out 1).trans rfl
                have hfz110_0 := blk_frozen BK215.out 0
                have hfz110_1 := blk_frozen BK215.out 1
                have hnb111 := NB216_213.out
                have hnc111 := NB213_216.out
                have hnb112 := NB216_214.out
                have hnc112 := NB214_216.out
                have hnb113 := NB216_225.out
                have hnc113 := NB225_216.out
                have hnb114 := NB216_226.out
                have hnc114 := NB226_216.out
                have hcz115_0 : w49.cell? ⟨gb216, 0, none⟩ = some (.int .i32 a3_0) := (blk_cell BK216.out 0).trans rfl
                have hcz115_1 : w49.cell? ⟨gb216, 1, none⟩ = some (.int .i32 a3_1) := (blk_cell BK216.out 1).trans rfl
                have hfz115_0 := blk_frozen BK216.out 0
                have hfz115_1 := blk_frozen BK216.out 1
                have hnb116 := NB213_214.out
                have hnc116 := NB214_213.out
                have hnb117 := NB213_225.out
                have hnc117 := NB225_213.out
                have hnb118 := NB213_226.out
                have hnc118 := NB226_213.out
                have hcz119_0 : w49.cell? ⟨gb213, 0, none⟩ = some (.int .i32 a0_0) := (blk_cell BK213.out 0).trans rfl
                have hcz119_1 : w49.cell? ⟨gb213, 1, none⟩ = some (.int .i32 a0_1) := (blk_cell BK213.out 1).trans rfl
                have hfz119_0 := blk_frozen BK213.out 0
                have hfz119_1 := blk_frozen BK213.out 1
                go_wp2_with (first | ((with_reducible refine gate_callee (f := 14) rfl ?_); refine goesL_ (some 40) rfl rfl Try.func14 (by kernel_rfl) rfl #[.agg #[.int .i32 a2_0, .int .i32 a2_1], .agg #[.int .i32 a3_0, .int .i32 a3_1], .agg #[.int .i32 a0_0, .int .i32 a0_1]] rfl (by (try simp only [List.map_toArray, List.map_cons, List.map_nil]); first | done | rfl | (simp only [List.length_drop, List.length_take]; rfl)) ?_; (with_reducible refine (billiardref12_DistSq.calls a2_0 a2_1 a3_0 a3_1 a0_0 a0_1 t227 _ A61.out).mono ?_); rintro e w120 ⟨rfl, hb⟩; refine ⟨_, rfl, ?_⟩; have n0_ := Aside0.mk (blk_below (g := gb213) (o := .cells #[.int .i32 a0_0, .int .i32 a0_1] 23 (0, 0)) (by (with_reducible repeat (first | refine blk_drewN ?_ _ | refine blk_drew ?_ | refine blk_alloc ?_ _)); refine blk_far ?_ NB213_226.out _; (with_reducible repeat (first | refine blk_drewN ?_ _ | refine blk_drew ?_ | refine blk_alloc ?_ _)); refine blk_far ?_ NB213_226.out _; (with_reducible repeat (first | refine blk_drewN ?_ _ | refine blk_drew ?_ | refine blk_alloc ?_ _)); refine blk_far ?_ NB213_225.out _; (with_reducible repeat (first | refine blk_drewN ?_ _ | refine blk_drew ?_ | refine blk_alloc ?_ _)); refine blk_far ?_ NB213_225.out _; (with_reducible repeat (first | refine blk_drewN ?_ _ | refine blk_drew ?_ | refine blk_alloc ?_ _)); exact BK213.out) hb); have n1_ := Aside0.mk (blk_below (g := gb214) (o := .cells #[.int .i32 a1_0, .int .i32 a1_1] 23 (0, 0)) (by (with_reducible repeat (first | refine blk_drewN ?_ _ | refine blk_drew ?_ | refine blk_alloc ?_ _)); refine blk_far ?_ NB214_226.out _; (with_reducible repeat (first | refine blk_drewN ?_ _ | refine blk_drew ?_ | refine blk_alloc ?_ _)); refine blk_far ?_ NB214_226.out _; (with_reducible repeat (first | refine blk_drewN ?_ _ | refine blk_drew ?_ | refine blk_alloc ?_ _)); refine blk_far ?_ NB214_225.out _; (with_reducible repeat (first | refine blk_drewN ?_ _ | refine blk_drew ?_ | refine blk_alloc ?_ _)); refine blk_far ?_ NB214_225.out _; (with_reducible repeat (first | refine blk_drewN ?_ _ | refine blk_drew ?_ | refine blk_alloc ?_ _)); exact BK214.out) hb); have n2_ := Aside0.mk (blk_below (g := gb215) (o := .cells #[.int .i32 a2_0, .int .i32 a2_1] 23 (0, 0)) (by (with_reducible repeat (first | refine blk_drewN ?_ _ | refine blk_drew ?_ | refine blk_alloc ?_ _)); refine blk_far ?_ NB215_226.out _; (with_reducible repeat (first | refine blk_drewN ?_ _ | refine blk_drew ?_ | refine blk_alloc ?_ _)); refine blk_far ?_ NB215_226.out _; (with_reducible repeat (first | refine blk_drewN ?_ _ | refine blk_drew ?_ | refine blk_alloc ?_ _)); refine blk_far ?_ NB215_225.out _; (with_reducible repeat (first | refine blk_drewN ?_ _ | refine blk_drew ?_ | refine blk_alloc ?_ _)); refine blk_far ?_ NB215_225.out _; (with_reducible repeat (first | refine blk_drewN ?_ _ | refine blk_drew ?_ | refine blk_alloc ?_ _)); exact BK215.out) hb); have n3_ := Aside0.mk (blk_below (g := gb216) (o := .cells #[.int .i32 a3_0, .int .i32 a3_1] 23 (0, 0)) (by (with_reducible repeat (first | refine blk_drewN ?_ _ | refine blk_drew ?_ | refine blk_alloc ?_ _)); refine blk_far ?_ NB216_226.out _; (with_reducible repeat (first | refine blk_drewN ?_ _ | refine blk_drew ?_ | refine blk_alloc ?_ _)); refine blk_far ?_ NB216_226.out _; (with_reducible repeat (first | refine blk_drewN ?_ _ | refine blk_drew ?_ | refine blk_alloc ?_ _)); refine blk_far ?_ NB216_225.out _; (with_reducible repeat (first | refine blk_drewN ?_ _ | refine blk_drew ?_ | refine blk_alloc ?_ _)); refine blk_far ?_ NB216_225.out _; (with_reducible repeat (first | refine blk_drewN ?_ _ | refine blk_drew ?_ | refine blk_alloc ?_ _)); exact BK216.out) hb); have n4_ := Aside0.mk (blk_below (g := gb225) (o := .cells #[.int .i32 t221, .int .i32 t222] 23 (0, 0)) (by (with_reducible repeat (first | refine blk_drewN ?_ _ | refine blk_drew ?_ | refine blk_alloc ?_ _)); refine blk_far ?_ NB225_226.out _; (with_reducible repeat (first | refine blk_drewN ?_ _ | refine blk_drew ?_ | refine blk_alloc ?_ _)); refine blk_far ?_ NB225_226.out _; (with_reducible repeat (first | refine blk_drewN ?_ _ | refine blk_drew ?_ | refine blk_alloc ?_ _)); refine blk_put (cs := #[.int .i32 t221, .int .i32 0]) ?_ 1 _ rfl; (with_reducible repeat (first | refine blk_drewN ?_ _ | refine blk_drew ?_ | refine blk_alloc ?_ _)); refine blk_put (cs := #[.int .i32 0, .int .i32 0]) ?_ 0 _ rfl; (with_reducible repeat (first | refine blk_drewN ?_ _ | refine blk_drew ?_ | refine blk_alloc ?_ _)); exact BK225.out) hb); have n5_ := Aside0.mk (blk_below (g := gb226) (o := .cells #[.int .i32 t223, .int .i32 t224] 23 (0, 0)) (by (with_reducible repeat (first | refine blk_drewN ?_ _ | refine blk_drew ?_ | refine blk_alloc ?_ _)); refine blk_put (cs := #[.int .i32 t223, .int .i32 0]) ?_ 1 _ rfl; (with_reducible repeat (first | refine blk_drewN ?_ _ | refine blk_drew ?_ | refine blk_alloc ?_ _)); refine blk_put (cs := #[.int .i32 0, .int .i32 0]) ?_ 0 _ rfl; (with_reducible repeat (first | refine blk_drewN ?_ _ | refine blk_drew ?_ | refine blk_alloc ?_ _)); refine blk_far ?_ NB226_225.out _; (with_reducible repeat (first | refine blk_drewN ?_ _ | refine blk_drew ?_ | refine blk_alloc ?_ _)); refine blk_far ?_ NB226_225.out _; (with_reducible repeat (first | refine blk_drewN ?_ _ | refine blk_drew ?_ | refine blk_alloc ?_ _)); exact BK226.out) hb); have n6_ := Aside0.mk (below_step (by repeat (first | (with_reducible first | exact HB.out | apply below_alloc | apply pw_below_drewN | apply below_drew1 | refine below_set ?_ GE213.out | refine below_set ?_ GE214.out | refine below_set ?_ GE215.out | refine below_set ?_ GE216.out | refine below_set ?_ GE225.out | refine below_set ?_ GE226.out) | exact HB.out)) hb); clear BK213; clear BK214; clear BK215; clear BK216; clear BK225; clear BK226; clear HB; have BK213 := n0_; have BK214 := n1_; have BK215 := n2_; have BK216 := n3_; have BK225 := n4_; have BK226 := n5_; have HB := n6_; clear n0_ n1_ n2_ n3_ n4_ n5_ n6_; (try clear hb); (try clear hb2); (try clear hk); (try clear hi); have hcz121_0 : w120.cell? ⟨gb215, 0, none⟩ = some (.int .i32 a2_0) := (blk_cell BK215.out 0).trans rfl; have hcz121_1 : w120.cell? ⟨gb215, 1, none⟩ = some (.int .i32 a2_1) := (blk_cell BK215.out 1).trans rfl; have hfz121_0 := blk_frozen BK215.out 0; have hfz121_1 := blk_frozen BK215.out 1; have hcz122_0 : w120.cell? ⟨gb216, 0, none⟩ = some (.int .i32 a3_0) := (blk_cell BK216.out 0).trans rfl; have hcz122_1 : w120.cell? ⟨gb216, 1, none⟩ = some (.int .i32 a3_1) := (blk_cell BK216.out 1).trans rfl; have hfz122_0 := blk_frozen BK216.out 0; have hfz122_1 := blk_frozen BK216.out 1; have hnb123 := NB214_225.out; have hnc123 := NB225_214.out; have hnb124 := NB214_226.out; have hnc124 := NB226_214.out; have hcz125_0 : w120.cell? ⟨gb214, 0, none⟩ = some (.int .i32 a1_0) := (blk_cell BK214.out 0).trans rfl; have hcz125_1 : w120.cell? ⟨gb214, 1, none⟩ = some (.int .i32 a1_1) := (blk_cell BK214.out 1).trans rfl; have hfz125_0 := blk_frozen BK214.out 0; have hfz125_1 := blk_frozen BK214.out 1) | (go_at_call 14; (with_reducible refine (billiardref12_DistSq.calls a2_0 a2_1 a3_0 a3_1 a1_0 a1_1 t228 _ A79.out).mono ?_); rintro e w126 ⟨rfl, hb⟩; have n0_ := Aside0.mk (blk_below (g := gb213) (o := .cells #[.int .i32 a0_0, .int .i32 a0_1] 23 (0, 0)) (by (with_reducible repeat (first | refine blk_drewN ?_ _ | refine blk_drew ?_ | refine blk_alloc ?_ _)); exact BK213.out) hb); have n1_ := Aside0.mk (blk_below (g := gb214) (o := .cells #[.int .i32 a1_0, .int .i32 a1_1] 23 (0, 0)) (by (with_reducible repeat (first | refine blk_drewN ?_ _ | refine blk_drew ?_ | refine blk_alloc ?_ _)); exact BK214.out) hb); have n2_ := Aside0.mk (blk_below (g := gb215) (o := .cells #[.int .i32 a2_0, .int .i32 a2_1] 23 (0, 0)) (by (with_reducible repeat (first | refine blk_drewN ?_ _ | refine blk_drew ?_ | refine blk_alloc ?_ _)); exact BK215.out) hb); have n3_ := Aside0.mk (blk_below (g := gb216) (o := .cells #[.int .i32 a3_0, .int .i32 a3_1] 23 (0, 0)) (by (with_reducible repeat (first | refine blk_drewN ?_ _ | refine blk_drew ?_ | refine blk_alloc ?_ _)); exact BK216.out) hb); have n4_ := Aside0.mk (blk_below (g := gb225) (o := .cells #[.int .i32 t221, .int .i32 t222] 23 (0, 0)) (by (with_reducible repeat (first | refine blk_drewN ?_ _ | refine blk_drew ?_ | refine blk_alloc ?_ _)); exact BK225.out) hb); have n5_ := Aside0.mk (blk_below (g := gb226) (o := .cells #[.int .i32 t223, .int .i32 t224] 23 (0, 0)) (by (with_reducible repeat (first | refine blk_drewN ?_ _ | refine blk_drew ?_ | refine blk_alloc ?_ _)); exact BK226.out) hb); have n6_ := Aside0.mk (below_step (by repeat (first | (with_reducible first | exact HB.out | apply below_alloc | apply pw_below_drewN | apply below_drew1 | refine below_set ?_ GE213.out | refine below_set ?_ GE214.out | refine below_set ?_ GE215.out | refine below_set ?_ GE216.out | refine below_set ?_ GE225.out | refine below_set ?_ GE226.out) | exact HB.out)) hb); clear BK213; clear BK214; clear BK215; clear BK216; clear BK225; clear BK226; clear HB; have BK213 := n0_; have BK214 := n1_; have BK215 := n2_; have BK216 := n3_; have BK225 := n4_; have BK226 := n5_; have HB := n6_; clear n0_ n1_ n2_ n3_ n4_ n5_ n6_; (try clear hb); (try clear hb2); (try clear hk); (try clear hi); have hcz127_0 : w126.cell? ⟨gb213, 0, none⟩ = some (.int .i32 a0_0) := (blk_cell BK213.out 0).trans rfl; have hcz127_1 : w126.cell? ⟨gb213, 1, none⟩ = some (.int .i32 a0_1) := (blk_cell BK213.out 1).trans rfl; have hfz127_0 := blk_frozen BK213.out 0; have hfz127_1 := blk_frozen BK213.out 1; have hcz128_0 : w126.cell? ⟨gb214, 0, none⟩ = some (.int .i32 a1_0) := (blk_cell BK214.out 0).trans rfl; have hcz128_1 : w126.cell? ⟨gb214, 1, none⟩ = some (.int .i32 a1_1) := (blk_cell BK214.out 1).trans rfl; have hfz128_0 := blk_frozen BK214.out 0; have hfz128_1 := blk_frozen BK214.out 1; have hcz129_0 : w126.cell? ⟨gb215, 0, none⟩ = some (.int .i32 a2_0) := (blk_cell BK215.out 0).trans rfl; have hcz129_1 : w126.cell? ⟨gb215, 1, none⟩ = some (.int .i32 a2_1) := (blk_cell BK215.out 1).trans rfl; have hfz129_0 := blk_frozen BK215.out 0; have hfz129_1 := blk_frozen BK215.out 1) | (go_at_call 14; (with_reducible refine (billiardref12_DistSq.calls a0_0 a0_1 a1_0 a1_1 a2_0 a2_1 t229 _ A103.out).mono ?_); rintro e w130 ⟨rfl, hb⟩; have n0_ := Aside0.mk (blk_below (g := gb213) (o := .cells #[.int .i32 a0_0, .int .i32 a0_1] 23 (0, 0)) (by (with_reducible repeat (first | refine blk_drewN ?_ _ | refine blk_drew ?_ | refine blk_alloc ?_ _)); exact BK213.out) hb); have n1_ := Aside0.mk (blk_below (g := gb214) (o := .cells #[.int .i32 a1_0, .int .i32 a1_1] 23 (0, 0)) (by (with_reducible repeat (first | refine blk_drewN ?_ _ | refine blk_drew ?_ | refine blk_alloc ?_ _)); exact BK214.out) hb); have n2_ := Aside0.mk (blk_below (g := gb215) (o := .cells #[.int .i32 a2_0, .int .i32 a2_1] 23 (0, 0)) (by (with_reducible repeat (first | refine blk_drewN ?_ _ | refine blk_drew ?_ | refine blk_alloc ?_ _)); exact BK215.out) hb); have n3_ := Aside0.mk (blk_below (g := gb216) (o := .cells #[.int .i32 a3_0, .int .i32 a3_1] 23 (0, 0)) (by (with_reducible repeat (first | refine blk_drewN ?_ _ | refine blk_drew ?_ | refine blk_alloc ?_ _)); exact BK216.out) hb); have n4_ := Aside0.mk (blk_below (g := gb225) (o := .cells #[.int .i32 t221, .int .i32 t222] 23 (0, 0)) (by (with_reducible repeat (first | refine blk_drewN ?_ _ | refine blk_drew ?_ | refine blk_alloc ?_ _)); exact BK225.out) hb); have n5_ := Aside0.mk (blk_below (g := gb226) (o := .cells #[.int .i32 t223, .int .i32 t224] 23 (0, 0)) (by (with_reducible repeat (first | refine blk_drewN ?_ _ | refine blk_drew ?_ | refine blk_alloc ?_ _)); exact BK226.out) hb); have n6_ := Aside0.mk (below_step (by repeat (first | (with_reducible first | exact HB.out | apply below_alloc | apply pw_below_drewN | apply below_drew1 | refine below_set ?_ GE213.out | refine below_set ?_ GE214.out | refine below_set ?_ GE215.out | refine below_set ?_ GE216.out | refine below_set ?_ GE225.out | refine below_set ?_ GE226.out) | exact HB.out)) hb); clear BK213; clear BK214; clear BK215; clear BK216; clear BK225; clear BK226; clear HB; have BK213 := n0_; have BK214 := n1_; have BK215 := n2_; have BK216 := n3_; have BK225 := n4_; have BK226 := n5_; have HB := n6_; clear n0_ n1_ n2_ n3_ n4_ n5_ n6_; (try clear hb); (try clear hb2); (try clear hk); (try clear hi)))
                go_meet
                case rel => exact ⟨_, (true), (by first | rfl | (simp; done) | (simp [*]; done)), H', ⟨by have := HJ4.out; first | omega | exact Nat.le_refl _⟩, ⟨by (with_reducible repeat (first | refine blk_drewN ?_ _ | refine blk_drew ?_ | refine blk_alloc ?_ _)); exact BK213.out⟩, ⟨by (with_reducible repeat (first | refine blk_drewN ?_ _ | refine blk_drew ?_ | refine blk_alloc ?_ _)); exact BK214.out⟩, ⟨by (with_reducible repeat (first | refine blk_drewN ?_ _ | refine blk_drew ?_ | refine blk_alloc ?_ _)); exact BK215.out⟩, ⟨by (with_reducible repeat (first | refine blk_drewN ?_ _ | refine blk_drew ?_ | refine blk_alloc ?_ _)); exact BK216.out⟩, ⟨by (with_reducible repeat (first | refine blk_drewN ?_ _ | refine blk_drew ?_ | refine blk_alloc ?_ _)); exact BK225.out⟩, ⟨by (with_reducible repeat (first | refine blk_drewN ?_ _ | refine blk_drew ?_ | refine blk_alloc ?_ _)); exact BK226.out⟩, ⟨by repeat (first | (with_reducible first | exact HB.out | apply below_alloc | apply pw_below_drewN | apply below_drew1 | refine below_set ?_ GE213.out | refine below_set ?_ GE214.out | refine below_set ?_ GE215.out | refine below_set ?_ GE216.out | refine below_set ?_ GE225.out | refine below_set ?_ GE226.out) | exact HB.out)⟩⟩
              · rw [if_neg c104] at H
                have c104b0 : decide (t229 < t220) = false := decide_eq_false c104
                clear c104
                replace H := Option.bind_eq_some_iff.mp H
                obtain ⟨t230, A1310, H⟩ := H
                replace H : (billiardlaw13_SegmentLeast.j1 kj4 t220 (decide (t220 > t230)) a0_0 a0_1 a1_0 a1_1 a2_0 a2_1 a3_0 a3_1 t221 t222 t223 t224) = some r := H
                have A131 := Aside0.mk A1310
                clear A1310
                have H' := Aside0.mk H
                clear H
                have hnb132 := NB215_213.out
                have hnc132 := NB213_215.out
                have hnb133 := NB215_214.out
                have hnc133 := NB214_215.out
                have hnb134 := NB215_216.out
                have hnc134 := NB216_215.out
                have hnb135 := NB215_225.out
                have hnc135 := NB225_215.out
                have hnb136 := NB215_226.out
                have hnc136 := NB226_215.out
                have hcz137_0 : w49.cell? ⟨gb215, 0, none⟩ = some (.int .i32 a2_0) := (blk_cell BK215.out 0).trans rfl
                have hcz137_1 : w49.cell? ⟨gb215, 1, none⟩ = some (.int .i32 a2_1) := (blk_cell BK215.out 1).trans rfl
                have hfz137_0 := blk_frozen BK215.out 0
                have hfz137_1 := blk_frozen BK215.out 1
                have hnb138 := NB216_213.out
                have hnc138 := NB213_216.out
                have hnb139 := NB216_214.out
                have hnc139 := NB214_216.out
                have hnb140 := NB216_225.out
                have hnc140 := NB225_216.out
                have hnb141 := NB216_226.out
                have hnc141 := NB226_216.out
                have hcz142_0 : w49.cell? ⟨gb216, 0, none⟩ = some (.int .i32 a3_0) := (blk_cell BK216.out 0).trans rfl
                have hcz142_1 : w49.cell? ⟨gb216, 1, none⟩ = some (.int .i32 a3_1) := (blk_cell BK216.out 1).trans rfl
                have hfz142_0 := blk_frozen BK216.out 0
                have hfz142_1 := blk_frozen BK216.out 1
                have hnb143 := NB213_214.out
                have hnc143 := NB214_213.out
                have hnb144 := NB213_225.out
                have hnc144 := NB225_213.out
                have hnb145 := NB213_226.out
                have hnc145 := NB226_213.out
                have hcz146_0 : w49.cell? ⟨gb213, 0, none⟩ = some (.int .i32 a0_0) := (blk_cell BK213.out 0).trans rfl
                have hcz146_1 : w49.cell? ⟨gb213, 1, none⟩ = some (.int .i32 a0_1) := (blk_cell BK213.out 1).trans rfl
                have hfz146_0 := blk_frozen BK213.out 0
                have hfz146_1 := blk_frozen BK213.out 1
                go_wp2_with (first | ((with_reducible refine gate_callee (f := 14) rfl ?_); refine goesL_ (some 40) rfl rfl Try.func14 (by kernel_rfl) rfl #[.agg #[.int .i32 a2_0, .int .i32 a2_1], .agg #[.int .i32 a3_0, .int .i32 a3_1], .agg #[.int .i32 a0_0, .int .i32 a0_1]] rfl (by (try simp only [List.map_toArray, List.map_cons, List.map_nil]); first | done | rfl | (simp only [List.length_drop, List.length_take]; rfl)) ?_; (with_reducible refine (billiardref12_DistSq.calls a2_0 a2_1 a3_0 a3_1 a0_0 a0_1 t227 _ A61.out).mono ?_); rintro e w147 ⟨rfl, hb⟩; refine ⟨_, rfl, ?_⟩; have n0_ := Aside0.mk (blk_below (g := gb213) (o := .cells #[.int .i32 a0_0, .int .i32 a0_1] 23 (0, 0)) (by (with_reducible repeat (first | refine blk_drewN ?_ _ | refine blk_drew ?_ | refine blk_alloc ?_ _)); refine blk_far ?_ NB213_226.out _; (with_reducible repeat (first | refine blk_drewN ?_ _ | refine blk_drew ?_ | refine blk_alloc ?_ _)); refine blk_far ?_ NB213_226.out _; (with_reducible repeat (first | refine blk_drewN ?_ _ | refine blk_drew ?_ | refine blk_alloc ?_ _)); refine blk_far ?_ NB213_225.out _; (with_reducible repeat (first | refine blk_drewN ?_ _ | refine blk_drew ?_ | refine blk_alloc ?_ _)); refine blk_far ?_ NB213_225.out _; (with_reducible repeat (first | refine blk_drewN ?_ _ | refine blk_drew ?_ | refine blk_alloc ?_ _)); exact BK213.out) hb); have n1_ := Aside0.mk (blk_below (g := gb214) (o := .cells #[.int .i32 a1_0, .int .i32 a1_1] 23 (0, 0)) (by (with_reducible repeat (first | refine blk_drewN ?_ _ | refine blk_drew ?_ | refine blk_alloc ?_ _)); refine blk_far ?_ NB214_226.out _; (with_reducible repeat (first | refine blk_drewN ?_ _ | refine blk_drew ?_ | refine blk_alloc ?_ _)); refine blk_far ?_ NB214_226.out _; (with_reducible repeat (first | refine blk_drewN ?_ _ | refine blk_drew ?_ | refine blk_alloc ?_ _)); refine blk_far ?_ NB214_225.out _; (with_reducible repeat (first | refine blk_drewN ?_ _ | refine blk_drew ?_ | refine blk_alloc ?_ _)); refine blk_far ?_ NB214_225.out _; (with_reducible repeat (first | refine blk_drewN ?_ _ | refine blk_drew ?_ | refine blk_alloc ?_ _)); exact BK214.out) hb); have n2_ := Aside0.mk (blk_below (g := gb215) (o := .cells #[.int .i32 a2_0, .int .i32 a2_1] 23 (0, 0)) (by (with_reducible repeat (first | refine blk_drewN ?_ _ | refine blk_drew ?_ | refine blk_alloc ?_ _)); refine blk_far ?_ NB215_226.out _; (with_reducible repeat (first | refine blk_drewN ?_ _ | refine blk_drew ?_ | refine blk_alloc ?_ _)); refine blk_far ?_ NB215_226.out _; (with_reducible repeat (first | refine blk_drewN ?_ _ | refine blk_drew ?_ | refine blk_alloc ?_ _)); refine blk_far ?_ NB215_225.out _; (with_reducible repeat (first | refine blk_drewN ?_ _ | refine blk_drew ?_ | refine blk_alloc ?_ _)); refine blk_far ?_ NB215_225.out _; (with_reducible repeat (first | refine blk_drewN ?_ _ | refine blk_drew ?_ | refine blk_alloc ?_ _)); exact BK215.out) hb); have n3_ := Aside0.mk (blk_below (g := gb216) (o := .cells #[.int .i32 a3_0, .int .i32 a3_1] 23 (0, 0)) (by (with_reducible repeat (first | refine blk_drewN ?_ _ | refine blk_drew ?_ | refine blk_alloc ?_ _)); refine blk_far ?_ NB216_226.out _; (with_reducible repeat (first | refine blk_drewN ?_ _ | refine blk_drew ?_ | refine blk_alloc ?_ _)); refine blk_far ?_ NB216_226.out _; (with_reducible repeat (first | refine blk_drewN ?_ _ | refine blk_drew ?_ | refine blk_alloc ?_ _)); refine blk_far ?_ NB216_225.out _; (with_reducible repeat (first | refine blk_drewN ?_ _ | refine blk_drew ?_ | refine blk_alloc ?_ _)); refine blk_far ?_ NB216_225.out _; (with_reducible repeat (first | refine blk_drewN ?_ _ | refine blk_drew ?_ | refine blk_alloc ?_ _)); exact BK216.out) hb); have n4_ := Aside0.mk (blk_below (g := gb225) (o := .cells #[.int .i32 t221, .int .i32 t222] 23 (0, 0)) (by (with_reducible repeat (first | refine blk_drewN ?_ _ | refine blk_drew ?_ | refine blk_alloc ?_ _)); refine blk_far ?_ NB225_226.out _; (with_reducible repeat (first | refine blk_drewN ?_ _ | refine blk_drew ?_ | refine blk_alloc ?_ _)); refine blk_far ?_ NB225_226.out _; (with_reducible repeat (first | refine blk_drewN ?_ _ | refine blk_drew ?_ | refine blk_alloc ?_ _)); refine blk_put (cs := #[.int .i32 t221, .int .i32 0]) ?_ 1 _ rfl; (with_reducible repeat (first | refine blk_drewN ?_ _ | refine blk_drew ?_ | refine blk_alloc ?_ _)); refine blk_put (cs := #[.int .i32 0, .int .i32 0]) ?_ 0 _ rfl; (with_reducible repeat (first | refine blk_drewN ?_ _ | refine blk_drew ?_ | refine blk_alloc ?_ _)); exact BK225.out) hb); have n5_ := Aside0.mk (blk_below (g := gb226) (o := .cells #[.int .i32 t223, .int .i32 t224] 23 (0, 0)) (by (with_reducible repeat (first | refine blk_drewN ?_ _ | refine blk_drew ?_ | refine blk_alloc ?_ _)); refine blk_put (cs := #[.int .i32 t223, .int .i32 0]) ?_ 1 _ rfl; (with_reducible repeat (first | refine blk_drewN ?_ _ | refine blk_drew ?_ | refine blk_alloc ?_ _)); refine blk_put (cs := #[.int .i32 0, .int .i32 0]) ?_ 0 _ rfl; (with_reducible repeat (first | refine blk_drewN ?_ _ | refine blk_drew ?_ | refine blk_alloc ?_ _)); refine blk_far ?_ NB226_225.out _; (with_reducible repeat (first | refine blk_drewN ?_ _ | refine blk_drew ?_ | refine blk_alloc ?_ _)); refine blk_far ?_ NB226_225.out _; (with_reducible repeat (first | refine blk_drewN ?_ _ | refine blk_drew ?_ | refine blk_alloc ?_ _)); exact BK226.out) hb); have n6_ := Aside0.mk (below_step (by repeat (first | (with_reducible first | exact HB.out | apply below_alloc | apply pw_below_drewN | apply below_drew1 | refine below_set ?_ GE213.out | refine below_set ?_ GE214.out | refine below_set ?_ GE215.out | refine below_set ?_ GE216.out | refine below_set ?_ GE225.out | refine below_set ?_ GE226.out) | exact HB.out)) hb); clear BK213; clear BK214; clear BK215; clear BK216; clear BK225; clear BK226; clear HB; have BK213 := n0_; have BK214 := n1_; have BK215 := n2_; have BK216 := n3_; have BK225 := n4_; have BK226 := n5_; have HB := n6_; clear n0_ n1_ n2_ n3_ n4_ n5_ n6_; (try clear hb); (try clear hb2); (try clear hk); (try clear hi); have hcz148_0 : w147.cell? ⟨gb215, 0, none⟩ = some (.int .i32 a2_0) := (blk_cell BK215.out 0).trans rfl; have hcz148_1 : w147.cell? ⟨gb215, 1, none⟩ = some (.int .i32 a2_1) := (blk_cell BK215.out 1).trans rfl; have hfz148_0 := blk_frozen BK215.out 0; have hfz148_1 := blk_frozen BK215.out 1; have hcz149_0 : w147.cell? ⟨gb216, 0, none⟩ = some (.int .i32 a3_0) := (blk_cell BK216.out 0).trans rfl; have hcz149_1 : w147.cell? ⟨gb216, 1, none⟩ = some (.int .i32 a3_1) := (blk_cell BK216.out 1).trans rfl; have hfz149_0 := blk_frozen BK216.out 0; have hfz149_1 := blk_frozen BK216.out 1; have hnb150 := NB214_225.out; have hnc150 := NB225_214.out; have hnb151 := NB214_226.out; have hnc151 := NB226_214.out; have hcz152_0 : w147.cell? ⟨gb214, 0, none⟩ = some (.int .i32 a1_0) := (blk_cell BK214.out 0).trans rfl; have hcz152_1 : w147.cell? ⟨gb214, 1, none⟩ = some (.int .i32 a1_1) := (blk_cell BK214.out 1).trans rfl; have hfz152_0 := blk_frozen BK214.out 0; have hfz152_1 := blk_frozen BK214.out 1) | (go_at_call 14; (with_reducible refine (billiardref12_DistSq.calls a2_0 a2_1 a3_0 a3_1 a1_0 a1_1 t228 _ A79.out).mono ?_); rintro e w153 ⟨rfl, hb⟩; have n0_ := Aside0.mk (blk_below (g := gb213) (o := .cells #[.int .i32 a0_0, .int .i32 a0_1] 23 (0, 0)) (by (with_reducible repeat (first | refine blk_drewN ?_ _ | refine blk_drew ?_ | refine blk_alloc ?_ _)); exact BK213.out) hb); have n1_ := Aside0.mk (blk_below (g := gb214) (o := .cells #[.int .i32 a1_0, .int .i32 a1_1] 23 (0, 0)) (by (with_reducible repeat (first | refine blk_drewN ?_ _ | refine blk_drew ?_ | refine blk_alloc ?_ _)); exact BK214.out) hb); have n2_ := Aside0.mk (blk_below (g := gb215) (o := .cells #[.int .i32 a2_0, .int .i32 a2_1] 23 (0, 0)) (by (with_reducible repeat (first | refine blk_drewN ?_ _ | refine blk_drew ?_ | refine blk_alloc ?_ _)); exact BK215.out) hb); have n3_ := Aside0.mk (blk_below (g := gb216) (o := .cells #[.int .i32 a3_0, .int .i32 a3_1] 23 (0, 0)) (by (with_reducible repeat (first | refine blk_drewN ?_ _ | refine blk_drew ?_ | refine blk_alloc ?_ _)); exact BK216.out) hb); have n4_ := Aside0.mk (blk_below (g := gb225) (o := .cells #[.int .i32 t221, .int .i32 t222] 23 (0, 0)) (by (with_reducible repeat (first | refine blk_drewN ?_ _ | refine blk_drew ?_ | refine blk_alloc ?_ _)); exact BK225.out) hb); have n5_ := Aside0.mk (blk_below (g := gb226) (o := .cells #[.int .i32 t223, .int .i32 t224] 23 (0, 0)) (by (with_reducible repeat (first | refine blk_drewN ?_ _ | refine blk_drew ?_ | refine blk_alloc ?_ _)); exact BK226.out) hb); have n6_ := Aside0.mk (below_step (by repeat (first | (with_reducible first | exact HB.out | apply below_alloc | apply pw_below_drewN | apply below_drew1 | refine below_set ?_ GE213.out | refine below_set ?_ GE214.out | refine below_set ?_ GE215.out | refine below_set ?_ GE216.out | refine below_set ?_ GE225.out | refine below_set ?_ GE226.out) | exact HB.out)) hb); clear BK213; clear BK214; clear BK215; clear BK216; clear BK225; clear BK226; clear HB; have BK213 := n0_; have BK214 := n1_; have BK215 := n2_; have BK216 := n3_; have BK225 := n4_; have BK226 := n5_; have HB := n6_; clear n0_ n1_ n2_ n3_ n4_ n5_ n6_; (try clear hb); (try clear hb2); (try clear hk); (try clear hi); have hcz154_0 : w153.cell? ⟨gb213, 0, none⟩ = some (.int .i32 a0_0) := (blk_cell BK213.out 0).trans rfl; have hcz154_1 : w153.cell? ⟨gb213, 1, none⟩ = some (.int .i32 a0_1) := (blk_cell BK213.out 1).trans rfl; have hfz154_0 := blk_frozen BK213.out 0; have hfz154_1 := blk_frozen BK213.out 1; have hcz155_0 : w153.cell? ⟨gb214, 0, none⟩ = some (.int .i32 a1_0) := (blk_cell BK214.out 0).trans rfl; have hcz155_1 : w153.cell? ⟨gb214, 1, none⟩ = some (.int .i32 a1_1) := (blk_cell BK214.out 1).trans rfl; have hfz155_0 := blk_frozen BK214.out 0; have hfz155_1 := blk_frozen BK214.out 1; have hcz156_0 : w153.cell? ⟨gb215, 0, none⟩ = some (.int .i32 a2_0) := (blk_cell BK215.out 0).trans rfl; have hcz156_1 : w153.cell? ⟨gb215, 1, none⟩ = some (.int .i32 a2_1) := (blk_cell BK215.out 1).trans rfl; have hfz156_0 := blk_frozen BK215.out 0; have hfz156_1 := blk_frozen BK215.out 1) | (go_at_call 14; (with_reducible refine (billiardref12_DistSq.calls a0_0 a0_1 a1_0 a1_1 a2_0 a2_1 t229 _ A103.out).mono ?_); rintro e w157 ⟨rfl, hb⟩; have n0_ := Aside0.mk (blk_below (g := gb213) (o := .cells #[.int .i32 a0_0, .int .i32 a0_1] 23 (0, 0)) (by (with_reducible repeat (first | refine blk_drewN ?_ _ | refine blk_drew ?_ | refine blk_alloc ?_ _)); exact BK213.out) hb); have n1_ := Aside0.mk (blk_below (g := gb214) (o := .cells #[.int .i32 a1_0, .int .i32 a1_1] 23 (0, 0)) (by (with_reducible repeat (first | refine blk_drewN ?_ _ | refine blk_drew ?_ | refine blk_alloc ?_ _)); exact BK214.out) hb); have n2_ := Aside0.mk (blk_below (g := gb215) (o := .cells #[.int .i32 a2_0, .int .i32 a2_1] 23 (0, 0)) (by (with_reducible repeat (first | refine blk_drewN ?_ _ | refine blk_drew ?_ | refine blk_alloc ?_ _)); exact BK215.out) hb); have n3_ := Aside0.mk (blk_below (g := gb216) (o := .cells #[.int .i32 a3_0, .int .i32 a3_1] 23 (0, 0)) (by (with_reducible repeat (first | refine blk_drewN ?_ _ | refine blk_drew ?_ | refine blk_alloc ?_ _)); exact BK216.out) hb); have n4_ := Aside0.mk (blk_below (g := gb225) (o := .cells #[.int .i32 t221, .int .i32 t222] 23 (0, 0)) (by (with_reducible repeat (first | refine blk_drewN ?_ _ | refine blk_drew ?_ | refine blk_alloc ?_ _)); exact BK225.out) hb); have n5_ := Aside0.mk (blk_below (g := gb226) (o := .cells #[.int .i32 t223, .int .i32 t224] 23 (0, 0)) (by (with_reducible repeat (first | refine blk_drewN ?_ _ | refine blk_drew ?_ | refine blk_alloc ?_ _)); exact BK226.out) hb); have n6_ := Aside0.mk (below_step (by repeat (first | (with_reducible first | exact HB.out | apply below_alloc | apply pw_below_drewN | apply below_drew1 | refine below_set ?_ GE213.out | refine below_set ?_ GE214.out | refine below_set ?_ GE215.out | refine below_set ?_ GE216.out | refine below_set ?_ GE225.out | refine below_set ?_ GE226.out) | exact HB.out)) hb); clear BK213; clear BK214; clear BK215; clear BK216; clear BK225; clear BK226; clear HB; have BK213 := n0_; have BK214 := n1_; have BK215 := n2_; have BK216 := n3_; have BK225 := n4_; have BK226 := n5_; have HB := n6_; clear n0_ n1_ n2_ n3_ n4_ n5_ n6_; (try clear hb); (try clear hb2); (try clear hk); (try clear hi); have hcz158_0 : w157.cell? ⟨gb213, 0, none⟩ = some (.int .i32 a0_0) := (blk_cell BK213.out 0).trans rfl; have hcz158_1 : w157.cell? ⟨gb213, 1, none⟩ = some (.int .i32 a0_1) := (blk_cell BK213.out 1).trans rfl; have hfz158_0 := blk_frozen BK213.out 0; have hfz158_1 := blk_frozen BK213.out 1; have hcz159_0 : w157.cell? ⟨gb214, 0, none⟩ = some (.int .i32 a1_0) := (blk_cell BK214.out 0).trans rfl; have hcz159_1 : w157.cell? ⟨gb214, 1, none⟩ = some (.int .i32 a1_1) := (blk_cell BK214.out 1).trans rfl; have hfz159_0 := blk_frozen BK214.out 0; have hfz159_1 := blk_frozen BK214.out 1; have hcz160_0 : w157.cell? ⟨gb216, 0, none⟩ = some (.int .i32 a3_0) := (blk_cell BK216.out 0).trans rfl; have hcz160_1 : w157.cell? ⟨gb216, 1, none⟩ = some (.int .i32 a3_1) := (blk_cell BK216.out 1).trans rfl; have hfz160_0 := blk_frozen BK216.out 0; have hfz160_1 := blk_frozen BK216.out 1) | (go_at_call 14; (with_reducible refine (billiardref12_DistSq.calls a0_0 a0_1 a1_0 a1_1 a3_0 a3_1 t230 _ A131.out).mono ?_); rintro e w161 ⟨rfl, hb⟩; have n0_ := Aside0.mk (blk_below (g := gb213) (o := .cells #[.int .i32 a0_0, .int .i32 a0_1] 23 (0, 0)) (by (with_reducible repeat (first | refine blk_drewN ?_ _ | refine blk_drew ?_ | refine blk_alloc ?_ _)); exact BK213.out) hb); have n1_ := Aside0.mk (blk_below (g := gb214) (o := .cells #[.int .i32 a1_0, .int .i32 a1_1] 23 (0, 0)) (by (with_reducible repeat (first | refine blk_drewN ?_ _ | refine blk_drew ?_ | refine blk_alloc ?_ _)); exact BK214.out) hb); have n2_ := Aside0.mk (blk_below (g := gb215) (o := .cells #[.int .i32 a2_0, .int .i32 a2_1] 23 (0, 0)) (by (with_reducible repeat (first | refine blk_drewN ?_ _ | refine blk_drew ?_ | refine blk_alloc ?_ _)); exact BK215.out) hb); have n3_ := Aside0.mk (blk_below (g := gb216) (o := .cells #[.int .i32 a3_0, .int .i32 a3_1] 23 (0, 0)) (by (with_reducible repeat (first | refine blk_drewN ?_ _ | refine blk_drew ?_ | refine blk_alloc ?_ _)); exact BK216.out) hb); have n4_ := Aside0.mk (blk_below (g := gb225) (o := .cells #[.int .i32 t221, .int .i32 t222] 23 (0, 0)) (by (with_reducible repeat (first | refine blk_drewN ?_ _ | refine blk_drew ?_ | refine blk_alloc ?_ _)); exact BK225.out) hb); have n5_ := Aside0.mk (blk_below (g := gb226) (o := .cells #[.int .i32 t223, .int .i32 t224] 23 (0, 0)) (by (with_reducible repeat (first | refine blk_drewN ?_ _ | refine blk_drew ?_ | refine blk_alloc ?_ _)); exact BK226.out) hb); have n6_ := Aside0.mk (below_step (by repeat (first | (with_reducible first | exact HB.out | apply below_alloc | apply pw_below_drewN | apply below_drew1 | refine below_set ?_ GE213.out | refine below_set ?_ GE214.out | refine below_set ?_ GE215.out | refine below_set ?_ GE216.out | refine below_set ?_ GE225.out | refine below_set ?_ GE226.out) | exact HB.out)) hb); clear BK213; clear BK214; clear BK215; clear BK216; clear BK225; clear BK226; clear HB; have BK213 := n0_; have BK214 := n1_; have BK215 := n2_; have BK216 := n3_; have BK225 := n4_; have BK226 := n5_; have HB := n6_; clear n0_ n1_ n2_ n3_ n4_ n5_ n6_; (try clear hb); (try clear hb2); (try clear hk); (try clear hi)))
                go_meet
                case rel => exact ⟨_, (decide (t220 > t230)), (by first | rfl | (simp; done) | (simp [*]; done)), H', ⟨by have := HJ4.out; first | omega | exact Nat.le_refl _⟩, ⟨by (with_reducible repeat (first | refine blk_drewN ?_ _ | refine blk_drew ?_ | refine blk_alloc ?_ _)); exact BK213.out⟩, ⟨by (with_reducible repeat (first | refine blk_drewN ?_ _ | refine blk_drew ?_ | refine blk_alloc ?_ _)); exact BK214.out⟩, ⟨by (with_reducible repeat (first | refine blk_drewN ?_ _ | refine blk_drew ?_ | refine blk_alloc ?_ _)); exact BK215.out⟩, ⟨by (with_reducible repeat (first | refine blk_drewN ?_ _ | refine blk_drew ?_ | refine blk_alloc ?_ _)); exact BK216.out⟩, ⟨by (with_reducible repeat (first | refine blk_drewN ?_ _ | refine blk_drew ?_ | refine blk_alloc ?_ _)); exact BK225.out⟩, ⟨by (with_reducible repeat (first | refine blk_drewN ?_ _ | refine blk_drew ?_ | refine blk_alloc ?_ _)); exact BK226.out⟩, ⟨by repeat (first | (with_reducible first | exact HB.out | apply below_alloc | apply pw_below_drewN | apply below_drew1 | refine below_set ?_ GE213.out | refine below_set ?_ GE214.out | refine below_set ?_ GE215.out | refine below_set ?_ GE216.out | refine below_set ?_ GE225.out | refine below_set ?_ GE226.out) | exact HB.out)⟩⟩
        case rest =>
          clear HC31
          try clear c1
          try clear c2
          try clear p2
          try clear c3
          try clear c4
          try clear c5
          try clear c6
          try clear c7
          try clear c8
          try clear c9
          try clear c10
          try clear c11
          try clear c12
          try clear c13
          try clear c14
          try clear c15
          try clear c16
          try clear c18
          try clear c19
          try clear c21
          try clear c26
          try clear c32
          try clear c33
          try clear c34
          try clear c36
          try clear c37
          try clear c39
          try clear c50
          try clear c51
          try clear c52
          try clear c53
          try clear c54
          try clear c56
          try clear c57
          try clear c58
          try clear c59
          try clear c62
          try clear c62b0
          try clear c63
          try clear c64
          try clear c65
          try clear c66
          try clear c67
          try clear c69
          try clear c70
          try clear c71
          try clear c72
          try clear c74
          try clear c75
          try clear c76
          try clear c80
          try clear c80b0
          try clear c81
          try clear c82
          try clear c83
          try clear c84
          try clear c85
          try clear c87
          try clear c88
          try clear c89
          try clear c90
          try clear c92
          try clear c93
          try clear c94
          try clear c99
          try clear c100
          try clear c104
          try clear c104b0
          try clear c105
          try clear c106
          try clear c107
          try clear c108
          try clear c109
          try clear c111
          try clear c112
          try clear c113
          try clear c114
          try clear c116
          try clear c117
          try clear c118
          try clear c123
          try clear c124
          try clear c132
          try clear c133
          try clear c134
          try clear c135
          try clear c136
          try clear c138
          try clear c139
          try clear c140
          try clear c141
          try clear c143
          try clear c144
          try clear c145
          try clear c150
          try clear c151
          try clear hcz101_0
          try clear hcz101_1
          try clear hcz110_0
          try clear hcz110_1
          try clear hcz115_0
          try clear hcz115_1
          try clear hcz119_0
          try clear hcz119_1
          try clear hcz121_0
          try clear hcz121_1
          try clear hcz122_0
          try clear hcz122_1
          try clear hcz125_0
          try clear hcz125_1
          try clear hcz127_0
          try clear hcz127_1
          try clear hcz128_0
          try clear hcz128_1
          try clear hcz129_0
          try clear hcz129_1
          try clear hcz137_0
          try clear hcz137_1
          try clear hcz142_0
          try clear hcz142_1
          try clear hcz146_0
          try clear hcz146_1
          try clear hcz148_0
          try clear hcz148_1
          try clear hcz149_0
          try clear hcz149_1
          try clear hcz152_0
          try clear hcz152_1
          try clear hcz154_0
          try clear hcz154_1
          try clear hcz155_0
          try clear hcz155_1
          try clear hcz156_0
          try clear hcz156_1
          try clear hcz158_0
          try clear hcz158_1
          try clear hcz159_0
          try clear hcz159_1
          try clear hcz160_0
          try clear hcz160_1
          try clear hcz17_0
          try clear hcz17_1
          try clear hcz20_0
          try clear hcz20_1
          try clear hcz22_0
          try clear hcz22_1
          try clear hcz23_0
          try clear hcz23_1
          try clear hcz35_0
          try clear hcz35_1
          try clear hcz38_0
          try clear hcz38_1
          try clear hcz40_0
          try clear hcz40_1
          try clear hcz41_0
          try clear hcz41_1
          try clear hcz43_0
          try clear hcz43_1
          try clear hcz44_0
          try clear hcz44_1
          try clear hcz45_0
          try clear hcz45_1
          try clear hcz46_0
          try clear hcz46_1
          try clear hcz55_0
          try clear hcz55_1
          try clear hcz60_0
          try clear hcz60_1
          try clear hcz68_0
          try clear hcz68_1
          try clear hcz73_0
          try clear hcz73_1
          try clear hcz77_0
          try clear hcz77_1
          try clear hcz86_0
          try clear hcz86_1
          try clear hcz91_0
          try clear hcz91_1
          try clear hcz95_0
          try clear hcz95_1
          try clear hcz97_0
          try clear hcz97_1
          try clear hcz98_0
          try clear hcz98_1
          try clear hfz101_0
          try clear hfz101_1
          try clear hfz110_0
          try clear hfz110_1
          try clear hfz115_0
          try clear hfz115_1
          try clear hfz119_0
          try clear hfz119_1
          try clear hfz121_0
          try clear hfz121_1
          try clear hfz122_0
          try clear hfz122_1
          try clear hfz125_0
          try clear hfz125_1
          try clear hfz127_0
          try clear hfz127_1
          try clear hfz128_0
          try clear hfz128_1
          try clear hfz129_0
          try clear hfz129_1
          try clear hfz137_0
          try clear hfz137_1
          try clear hfz142_0
          try clear hfz142_1
          try clear hfz146_0
          try clear hfz146_1
          try clear hfz148_0
          try clear hfz148_1
          try clear hfz149_0
          try clear hfz149_1
          try clear hfz152_0
          try clear hfz152_1
          try clear hfz154_0
          try clear hfz154_1
          try clear hfz155_0
          try clear hfz155_1
          try clear hfz156_0
          try clear hfz156_1
          try clear hfz158_0
          try clear hfz158_1
          try clear hfz159_0
          try clear hfz159_1
          try clear hfz160_0
          try clear hfz160_1
          try clear hfz17_0
          try clear hfz17_1
          try clear hfz20_0
          try clear hfz20_1
          try clear hfz22_0
          try clear hfz22_1
          try clear hfz23_0
          try clear hfz23_1
          try clear hfz35_0
          try clear hfz35_1
          try clear hfz38_0
          try clear hfz38_1
          try clear hfz40_0
          try clear hfz40_1
          try clear hfz41_0
          try clear hfz41_1
          try clear hfz43_0
          try clear hfz43_1
          try clear hfz44_0
          try clear hfz44_1
          try clear hfz45_0
          try clear hfz45_1
          try clear hfz46_0
          try clear hfz46_1
          try clear hfz55_0
          try clear hfz55_1
          try clear hfz60_0
          try clear hfz60_1
          try clear hfz68_0
          try clear hfz68_1
          try clear hfz73_0
          try clear hfz73_1
          try clear hfz77_0
          try clear hfz77_1
          try clear hfz86_0
          try clear hfz86_1
          try clear hfz91_0
          try clear hfz91_1
          try clear hfz95_0
          try clear hfz95_1
          try clear hfz97_0
          try clear hfz97_1
          try clear hfz98_0
          try clear hfz98_1
          try clear p2
          obtain ⟨kq, x65_30, rfl, HA, HJ30, BK213, BK214, BK215, BK216, BK225, BK226, HB⟩ := hcut
          cases kq with
          | zero => exact absurd HA.out (by simp [billiardlaw13_SegmentLeast.j1])
          | succ kj30 =>
            have H := HA.out
            clear HA
            simp only [billiardlaw13_SegmentLeast.j1] at H
            by_cases c162 : x65_30 = true
            · subst c162
              have H1 : (some false) = some r := by rw [if_pos rfl] at H; exact H
              clear H
              have H := H1
              clear H1
              obtain rfl := Option.some.inj H
              go_wp2
              go_ret
              exact ⟨by first | rfl | (simp [errW_none, errW_some] <;> rfl) | (simp [*, errW_none, errW_some] <;> rfl), by repeat (first | (with_reducible first | exact HB.out | apply below_alloc | apply pw_below_drewN | apply below_drew1 | refine below_set ?_ GE213.out | refine below_set ?_ GE214.out | refine below_set ?_ GE215.out | refine below_set ?_ GE216.out | refine below_set ?_ GE225.out | refine below_set ?_ GE226.out) | exact HB.out)⟩
            · replace c162 := Bool.eq_false_iff.mpr c162
              subst c162
              have H1 : (if (t221 == a0_0 && (t222 == a0_1)) = true then ((billiardref13_DistSq.f t221 t222 t223 t224).bind fun t231 => (some (t231 == t220))) else (if (t221 == a1_0 && (t222 == a1_1)) = true then ((billiardref13_DistSq.f t221 t222 t223 t224).bind fun t232 => (some (t232 == t220))) else (if (t223 == a2_0 && (t224 == a2_1)) = true then ((billiardref13_DistSq.f t221 t222 t223 t224).bind fun t233 => (some (t233 == t220))) else (if (t223 == a3_0 && (t224 == a3_1)) = true then ((billiardref13_DistSq.f t221 t222 t223 t224).bind fun t234 => (some (t234 == t220))) else (some false))))) = some r := by rw [if_neg (show ¬ (false = true) by decide)] at H; exact H
              clear H
              have H := H1
              clear H1
              by_cases c163 : (t221 == a0_0 && (t222 == a0_1)) = true
              · rw [if_pos c163] at H
                have c163b0 : (t221 == a0_0 && (t222 == a0_1)) = true := c163
                (try (have c163b1 : decide (t221 = a0_0 && (t222 == a0_1)) = true := by simpa using c163))
                (try (have c163b2 : (t221 == a0_0 && (t222 == a0_1)) = true := by simpa using c163))
                clear c163
                replace H := Option.bind_eq_some_iff.mp H
                obtain ⟨t231, A1640, H⟩ := H
                replace H : (some (t231 == t220)) = some r := H
                have A164 := Aside0.mk A1640
                clear A1640
                obtain rfl := Option.some.inj H
                have hnb165 := NB225_213.out
                have hnc165 := NB213_225.out
                have hnb166 := NB225_214.out
                have hnc166 := NB214_225.out
                have hnb167 := NB225_215.out
                have hnc167 := NB215_225.out
                have hnb168 := NB225_216.out
                have hnc168 := NB216_225.out
                have hnb169 := NB225_226.out
                have hnc169 := NB226_225.out
                have hcz170_0 : wc.cell? ⟨gb225, 0, none⟩ = some (.int .i32 t221) := (blk_cell BK225.out 0).trans rfl
                have hcz170_1 : wc.cell? ⟨gb225, 1, none⟩ = some (.int .i32 t222) := (blk_cell BK225.out 1).trans rfl
                have hfz170_0 := blk_frozen BK225.out 0
                have hfz170_1 := blk_frozen BK225.out 1
                have hnb171 := NB213_214.out
                have hnc171 := NB214_213.out
                have hnb172 := NB213_215.out
                have hnc172 := NB215_213.out
                have hnb173 := NB213_216.out
                have hnc173 := NB216_213.out
                have hnb174 := NB213_226.out
                have hnc174 := NB226_213.out
                have hcz175_0 : wc.cell? ⟨gb213, 0, none⟩ = some (.int .i32 a0_0) := (blk_cell BK213.out 0).trans rfl
                have hcz175_1 : wc.cell? ⟨gb213, 1, none⟩ = some (.int .i32 a0_1) := (blk_cell BK213.out 1).trans rfl
                have hfz175_0 := blk_frozen BK213.out 0
                have hfz175_1 := blk_frozen BK213.out 1
                have hnb176 := NB226_214.out
                have hnc176 := NB214_226.out
                have hnb177 := NB226_215.out
                have hnc177 := NB215_226.out
                have hnb178 := NB226_216.out
                have hnc178 := NB216_226.out
                have hcz179_0 : wc.cell? ⟨gb226, 0, none⟩ = some (.int .i32 t223) := (blk_cell BK226.out 0).trans rfl
                have hcz179_1 : wc.cell? ⟨gb226, 1, none⟩ = some (.int .i32 t224) := (blk_cell BK226.out 1).trans rfl
                have hfz179_0 := blk_frozen BK226.out 0
                have hfz179_1 := blk_frozen BK226.out 1
                go_wp2_with (first | (go_at_call 13; (with_reducible refine (billiardref13_DistSq.calls t221 t222 t223 t224 t231 _ A164.out).mono ?_); rintro e w180 ⟨rfl, hb⟩; have n0_ := Aside0.mk (blk_below (g := gb213) (o := .cells #[.int .i32 a0_0, .int .i32 a0_1] 23 (0, 0)) (by (with_reducible repeat (first | refine blk_drewN ?_ _ | refine blk_drew ?_ | refine blk_alloc ?_ _)); exact BK213.out) hb); have n1_ := Aside0.mk (blk_below (g := gb214) (o := .cells #[.int .i32 a1_0, .int .i32 a1_1] 23 (0, 0)) (by (with_reducible repeat (first | refine blk_drewN ?_ _ | refine blk_drew ?_ | refine blk_alloc ?_ _)); exact BK214.out) hb); have n2_ := Aside0.mk (blk_below (g := gb215) (o := .cells #[.int .i32 a2_0, .int .i32 a2_1] 23 (0, 0)) (by (with_reducible repeat (first | refine blk_drewN ?_ _ | refine blk_drew ?_ | refine blk_alloc ?_ _)); exact BK215.out) hb); have n3_ := Aside0.mk (blk_below (g := gb216) (o := .cells #[.int .i32 a3_0, .int .i32 a3_1] 23 (0, 0)) (by (with_reducible repeat (first | refine blk_drewN ?_ _ | refine blk_drew ?_ | refine blk_alloc ?_ _)); exact BK216.out) hb); have n4_ := Aside0.mk (blk_below (g := gb225) (o := .cells #[.int .i32 t221, .int .i32 t222] 23 (0, 0)) (by (with_reducible repeat (first | refine blk_drewN ?_ _ | refine blk_drew ?_ | refine blk_alloc ?_ _)); exact BK225.out) hb); have n5_ := Aside0.mk (blk_below (g := gb226) (o := .cells #[.int .i32 t223, .int .i32 t224] 23 (0, 0)) (by (with_reducible repeat (first | refine blk_drewN ?_ _ | refine blk_drew ?_ | refine blk_alloc ?_ _)); exact BK226.out) hb); have n6_ := Aside0.mk (below_step (by repeat (first | (with_reducible first | exact HB.out | apply below_alloc | apply pw_below_drewN | apply below_drew1 | refine below_set ?_ GE213.out | refine below_set ?_ GE214.out | refine below_set ?_ GE215.out | refine below_set ?_ GE216.out | refine below_set ?_ GE225.out | refine below_set ?_ GE226.out) | exact HB.out)) hb); clear BK213; clear BK214; clear BK215; clear BK216; clear BK225; clear BK226; clear HB; have BK213 := n0_; have BK214 := n1_; have BK215 := n2_; have BK216 := n3_; have BK225 := n4_; have BK226 := n5_; have HB := n6_; clear n0_ n1_ n2_ n3_ n4_ n5_ n6_; (try clear hb); (try clear hb2); (try clear hk); (try clear hi)))
                go_ret
                exact ⟨by first | rfl | (simp [errW_none, errW_some] <;> rfl) | (simp [*, errW_none, errW_some] <;> rfl), by repeat (first | (with_reducible first | exact HB.out | apply below_alloc | apply pw_below_drewN | apply below_drew1 | refine below_set ?_ GE213.out | refine below_set ?_ GE214.out | refine below_set ?_ GE215.out | refine below_set ?_ GE216.out | refine below_set ?_ GE225.out | refine below_set ?_ GE226.out) | exact HB.out)⟩
              · rw [if_neg c163] at H
                have c163b0 : (t221 == a0_0 && (t222 == a0_1)) = false := by simpa using c163
                (try (have c163b1 : decide (t221 = a0_0 && (t222 == a0_1)) = false := by simpa using c163))
                (try (have c163b2 : (t221 == a0_0 && (t222 == a0_1)) = false := by simpa using c163))
                (try (have c163b3 : ¬ (t221 = a0_0 && (t222 == a0_1)) := by simpa using c163))
                clear c163
                by_cases c181 : (t221 == a1_0 && (t222 == a1_1)) = true
                · rw [if_pos c181] at H
                  have c181b0 : (t221 == a1_0 && (t222 == a1_1)) = true := c181
                  (try (have c181b1 : decide (t221 = a1_0 && (t222 == a1_1)) = true := by simpa using c181))
                  (try (have c181b2 : (t221 == a1_0 && (t222 == a1_1)) = true := by simpa using c181))
                  clear c181
                  replace H := Option.bind_eq_some_iff.mp H
                  obtain ⟨t232, A1820, H⟩ := H
                  replace H : (some (t232 == t220)) = some r := H
                  have A182 := Aside0.mk A1820
                  clear A1820
                  obtain rfl := Option.some.inj H
                  have hnb183 := NB225_213.out
                  have hnc183 := NB213_225.out
                  have hnb184 := NB225_214.out
                  have hnc184 := NB214_225.out
                  have hnb185 := NB225_215.out
                  have hnc185 := NB215_225.out
                  have hnb186 := NB225_216.out
                  have hnc186 := NB216_225.out
                  have hnb187 := NB225_226.out
                  have hnc187 := NB226_225.out
                  have hcz188_0 : wc.cell? ⟨gb225, 0, none⟩ = some (.int .i32 t221) := (blk_cell BK225.out 0).trans rfl
                  have hcz188_1 : wc.cell? ⟨gb225, 1, none⟩ = some (.int .i32 t222) := (blk_cell BK225.out 1).trans rfl
                  have hfz188_0 := blk_frozen BK225.out 0
                  have hfz188_1 := blk_frozen BK225.out 1
                  have hnb189 := NB213_214.out
                  have hnc189 := NB214_213.out
                  have hnb190 := NB213_215.out
                  have hnc190 := NB215_213.out
                  have hnb191 := NB213_216.out
                  have hnc191 := NB216_213.out
                  have hnb192 := NB213_226.out
                  have hnc192 := NB226_213.out
                  have hcz193_0 : wc.cell? ⟨gb213, 0, none⟩ = some (.int .i32 a0_0) := (blk_cell BK213.out 0).trans rfl
                  have hcz193_1 : wc.cell? ⟨gb213, 1, none⟩ = some (.int .i32 a0_1) := (blk_cell BK213.out 1).trans rfl
                  have hfz193_0 := blk_frozen BK213.out 0
                  have hfz193_1 := blk_frozen BK213.out 1
                  have hnb194 := NB214_215.out
                  have hnc194 := NB215_214.out
                  have hnb195 := NB214_216.out
                  have hnc195 := NB216_214.out
                  have hnb196 := NB214_226.out
                  have hnc196 := NB226_214.out
                  have hcz197_0 : wc.cell? ⟨gb214, 0, none⟩ = some (.int .i32 a1_0) := (blk_cell BK214.out 0).trans rfl
                  have hcz197_1 : wc.cell? ⟨gb214, 1, none⟩ = some (.int .i32 a1_1) := (blk_cell BK214.out 1).trans rfl
                  have hfz197_0 := blk_frozen BK214.out 0
                  have hfz197_1 := blk_frozen BK214.out 1
                  have hnb198 := NB226_215.out
                  have hnc198 := NB215_226.out
                  have hnb199 := NB226_216.out
                  have hnc199 := NB216_226.out
                  have hcz200_0 : wc.cell? ⟨gb226, 0, none⟩ = some (.int .i32 t223) := (blk_cell BK226.out 0).trans rfl
                  have hcz200_1 : wc.cell? ⟨gb226, 1, none⟩ = some (.int .i32 t224) := (blk_cell BK226.out 1).trans rfl
                  have hfz200_0 := blk_frozen BK226.out 0
                  have hfz200_1 := blk_frozen BK226.out 1
                  go_wp2_with (first | (go_at_call 13; (with_reducible refine (billiardref13_DistSq.calls t221 t222 t223 t224 t232 _ A182.out).mono ?_); rintro e w201 ⟨rfl, hb⟩; have n0_ := Aside0.mk (blk_below (g := gb213) (o := .cells #[.int .i32 a0_0, .int .i32 a0_1] 23 (0, 0)) (by (with_reducible repeat (first | refine blk_drewN ?_ _ | refine blk_drew ?_ | refine blk_alloc ?_ _)); exact BK213.out) hb); have n1_ := Aside0.mk (blk_below (g := gb214) (o := .cells #[.int .i32 a1_0, .int .i32 a1_1] 23 (0, 0)) (by (with_reducible repeat (first | refine blk_drewN ?_ _ | refine blk_drew ?_ | refine blk_alloc ?_ _)); exact BK214.out) hb); have n2_ := Aside0.mk (blk_below (g := gb215) (o := .cells #[.int .i32 a2_0, .int .i32 a2_1] 23 (0, 0)) (by (with_reducible repeat (first | refine blk_drewN ?_ _ | refine blk_drew ?_ | refine blk_alloc ?_ _)); exact BK215.out) hb); have n3_ := Aside0.mk (blk_below (g := gb216) (o := .cells #[.int .i32 a3_0, .int .i32 a3_1] 23 (0, 0)) (by (with_reducible repeat (first | refine blk_drewN ?_ _ | refine blk_drew ?_ | refine blk_alloc ?_ _)); exact BK216.out) hb); have n4_ := Aside0.mk (blk_below (g := gb225) (o := .cells #[.int .i32 t221, .int .i32 t222] 23 (0, 0)) (by (with_reducible repeat (first | refine blk_drewN ?_ _ | refine blk_drew ?_ | refine blk_alloc ?_ _)); exact BK225.out) hb); have n5_ := Aside0.mk (blk_below (g := gb226) (o := .cells #[.int .i32 t223, .int .i32 t224] 23 (0, 0)) (by (with_reducible repeat (first | refine blk_drewN ?_ _ | refine blk_drew ?_ | refine blk_alloc ?_ _)); exact BK226.out) hb); have n6_ := Aside0.mk (below_step (by repeat (first | (with_reducible first | exact HB.out | apply below_alloc | apply pw_below_drewN | apply below_drew1 | refine below_set ?_ GE213.out | refine below_set ?_ GE214.out | refine below_set ?_ GE215.out | refine below_set ?_ GE216.out | refine below_set ?_ GE225.out | refine below_set ?_ GE226.out) | exact HB.out)) hb); clear BK213; clear BK214; clear BK215; clear BK216; clear BK225; clear BK226; clear HB; have BK213 := n0_; have BK214 := n1_; have BK215 := n2_; have BK216 := n3_; have BK225 := n4_; have BK226 := n5_; have HB := n6_; clear n0_ n1_ n2_ n3_ n4_ n5_ n6_; (try clear hb); (try clear hb2); (try clear hk); (try clear hi)))
                  go_ret
                  exact ⟨by first | rfl | (simp [errW_none, errW_some] <;> rfl) | (simp [*, errW_none, errW_some] <;> rfl), by repeat (first | (with_reducible first | exact HB.out | apply below_alloc | apply pw_below_drewN | apply below_drew1 | refine below_set ?_ GE213.out | refine below_set ?_ GE214.out | refine below_set ?_ GE215.out | refine below_set ?_ GE216.out | refine below_set ?_ GE225.out | refine below_set ?_ GE226.out) | exact HB.out)⟩
                · rw [if_neg c181] at H
                  have c181b0 : (t221 == a1_0 && (t222 == a1_1)) = false := by simpa using c181
                  (try (have c181b1 : decide (t221 = a1_0 && (t222 == a1_1)) = false := by simpa using c181))
                  (try (have c181b2 : (t221 == a1_0 && (t222 == a1_1)) = false := by simpa using c181))
                  (try (have c181b3 : ¬ (t221 = a1_0 && (t222 == a1_1)) := by simpa using c181))
                  clear c181
                  by_cases c202 : (t223 == a2_0 && (t224 == a2_1)) = true
                  · rw [if_pos c202] at H
                    have c202b0 : (t223 == a2_0 && (t224 == a2_1)) = true := c202
                    (try (have c202b1 : decide (t223 = a2_0 && (t224 == a2_1)) = true := by simpa using c202))
                    (try (have c202b2 : (t223 == a2_0 && (t224 == a2_1)) = true := by simpa using c202))
                    clear c202
                    replace H := Option.bind_eq_some_iff.mp H
                    obtain ⟨t233, A2030, H⟩ := H
                    replace H : (some (t233 == t220)) = some r := H
                    have A203 := Aside0.mk A2030
                    clear A2030
                    obtain rfl := Option.some.inj H
                    have hnb204 := NB225_213.out
                    have hnc204 := NB213_225.out
                    have hnb205 := NB225_214.out
                    have hnc205 := NB214_225.out
                    have hnb206 := NB225_215.out
                    have hnc206 := NB215_225.out
                    have hnb207 := NB225_216.out
                    have hnc207 := NB216_225.out
                    have hnb208 := NB225_226.out
                    have hnc208 := NB226_225.out
                    have hcz209_0 : wc.cell? ⟨gb225, 0, none⟩ = some (.int .i32 t221) := (blk_cell BK225.out 0).trans rfl
                    have hcz209_1 : wc.cell? ⟨gb225, 1, none⟩ = some (.int .i32 t222) := (blk_cell BK225.out 1).trans rfl
                    have hfz209_0 := blk_frozen BK225.out 0
                    have hfz209_1 := blk_frozen BK225.out 1
                    have hnb210 := NB213_214.out
                    have hnc210 := NB214_213.out
                    have hnb211 := NB213_215.out
                    have hnc211 := NB215_213.out
                    have hnb212 := NB213_216.out
                    have hnc212 := NB216_213.out
                    have hnb213 := NB213_226.out
                    have hnc213 := NB226_213.out
                    have hcz214_0 : wc.cell? ⟨gb213, 0, none⟩ = some (.int .i32 a0_0) := (blk_cell BK213.out 0).trans rfl
                    have hcz214_1 : wc.cell? ⟨gb213, 1, none⟩ = some (.int .i32 a0_1) := (blk_cell BK213.out 1).trans rfl
                    have hfz214_0 := blk_frozen BK213.out 0
                    have hfz214_1 := blk_frozen BK213.out 1
                    have hnb215 := NB214_215.out
                    have hnc215 := NB215_214.out
                    have hnb216 := NB214_216.out
                    have hnc216 := NB216_214.out
                    have hnb217 := NB214_226.out
                    have hnc217 := NB226_214.out
                    have hcz218_0 : wc.cell? ⟨gb214, 0, none⟩ = some (.int .i32 a1_0) := (blk_cell BK214.out 0).trans rfl
                    have hcz218_1 : wc.cell? ⟨gb214, 1, none⟩ = some (.int .i32 a1_1) := (blk_cell BK214.out 1).trans rfl
                    have hfz218_0 := blk_frozen BK214.out 0
                    have hfz218_1 := blk_frozen BK214.out 1
                    have hnb219 := NB226_215.out
                    have hnc219 := NB215_226.out
                    have hnb220 := NB226_216.out
                    have hnc220 := NB216_226.out
                    have hcz221_0 : wc.cell? ⟨gb226, 0, none⟩ = some (.int .i32 t223) := (blk_cell BK226.out 0).trans rfl
                    have hcz221_1 : wc.cell? ⟨gb226, 1, none⟩ = some (.int .i32 t224) := (blk_cell BK226.out 1).trans rfl
                    have hfz221_0 := blk_frozen BK226.out 0
                    have hfz221_1 := blk_frozen BK226.out 1
                    have hnb222 := NB215_216.out
                    have hnc222 := NB216_215.out
                    have hcz223_0 : wc.cell? ⟨gb215, 0, none⟩ = some (.int .i32 a2_0) := (blk_cell BK215.out 0).trans rfl
                    have hcz223_1 : wc.cell? ⟨gb215, 1, none⟩ = some (.int .i32 a2_1) := (blk_cell BK215.out 1).trans rfl
                    have hfz223_0 := blk_frozen BK215.out 0
                    have hfz223_1 := blk_frozen BK215.out 1
                    go_wp2_with (first | (go_at_call 13; (with_reducible refine (billiardref13_DistSq.calls t221 t222 t223 t224 t233 _ A203.out).mono ?_); rintro e w224 ⟨rfl, hb⟩; have n0_ := Aside0.mk (blk_below (g := gb213) (o := .cells #[.int .i32 a0_0, .int .i32 a0_1] 23 (0, 0)) (by (with_reducible repeat (first | refine blk_drewN ?_ _ | refine blk_drew ?_ | refine blk_alloc ?_ _)); exact BK213.out) hb); have n1_ := Aside0.mk (blk_below (g := gb214) (o := .cells #[.int .i32 a1_0, .int .i32 a1_1] 23 (0, 0)) (by (with_reducible repeat (first | refine blk_drewN ?_ _ | refine blk_drew ?_ | refine blk_alloc ?_ _)); exact BK214.out) hb); have n2_ := Aside0.mk (blk_below (g := gb215) (o := .cells #[.int .i32 a2_0, .int .i32 a2_1] 23 (0, 0)) (by (with_reducible repeat (first | refine blk_drewN ?_ _ | refine blk_drew ?_ | refine blk_alloc ?_ _)); exact BK215.out) hb); have n3_ := Aside0.mk (blk_below (g := gb216) (o := .cells #[.int .i32 a3_0, .int .i32 a3_1] 23 (0, 0)) (by (with_reducible repeat (first | refine blk_drewN ?_ _ | refine blk_drew ?_ | refine blk_alloc ?_ _)); exact BK216.out) hb); have n4_ := Aside0.mk (blk_below (g := gb225) (o := .cells #[.int .i32 t221, .int .i32 t222] 23 (0, 0)) (by (with_reducible repeat (first | refine blk_drewN ?_ _ | refine blk_drew ?_ | refine blk_alloc ?_ _)); exact BK225.out) hb); have n5_ := Aside0.mk (blk_below (g := gb226) (o := .cells #[.int .i32 t223, .int .i32 t224] 23 (0, 0)) (by (with_reducible repeat (first | refine blk_drewN ?_ _ | refine blk_drew ?_ | refine blk_alloc ?_ _)); exact BK226.out) hb); have n6_ := Aside0.mk (below_step (by repeat (first | (with_reducible first | exact HB.out | apply below_alloc | apply pw_below_drewN | apply below_drew1 | refine below_set ?_ GE213.out | refine below_set ?_ GE214.out | refine below_set ?_ GE215.out | refine below_set ?_ GE216.out | refine below_set ?_ GE225.out | refine below_set ?_ GE226.out) | exact HB.out)) hb); clear BK213; clear BK214; clear BK215; clear BK216; clear BK225; clear BK226; clear HB; have BK213 := n0_; have BK214 := n1_; have BK215 := n2_; have BK216 := n3_; have BK225 := n4_; have BK226 := n5_; have HB := n6_; clear n0_ n1_ n2_ n3_ n4_ n5_ n6_; (try clear hb); (try clear hb2); (try clear hk); (try clear hi)))
                    go_ret
                    exact ⟨by first | rfl | (simp [errW_none, errW_some] <;> rfl) | (simp [*, errW_none, errW_some] <;> rfl), by repeat (first | (with_reducible first | exact HB.out | apply below_alloc | apply pw_below_drewN | apply below_drew1 | refine below_set ?_ GE213.out | refine below_set ?_ GE214.out | refine below_set ?_ GE215.out | refine below_set ?_ GE216.out | refine below_set ?_ GE225.out | refine below_set ?_ GE226.out) | exact HB.out)⟩
                  · rw [if_neg c202] at H
                    have c202b0 : (t223 == a2_0 && (t224 == a2_1)) = false := by simpa using c202
                    (try (have c202b1 : decide (t223 = a2_0 && (t224 == a2_1)) = false := by simpa using c202))
                    (try (have c202b2 : (t223 == a2_0 && (t224 == a2_1)) = false := by simpa using c202))
                    (try (have c202b3 : ¬ (t223 = a2_0 && (t224 == a2_1)) := by simpa using c202))
                    clear c202
                    by_cases c225 : (t223 == a3_0 && (t224 == a3_1)) = true
                    · rw [if_pos c225] at H
                      have c225b0 : (t223 == a3_0 && (t224 == a3_1)) = true := c225
                      (try (have c225b1 : decide (t223 = a3_0 && (t224 == a3_1)) = true := by simpa using c225))
                      (try (have c225b2 : (t223 == a3_0 && (t224 == a3_1)) = true := by simpa using c225))
                      clear c225
                      replace H := Option.bind_eq_some_iff.mp H
                      obtain ⟨t234, A2260, H⟩ := H
                      replace H : (some (t234 == t220)) = some r := H
                      have A226 := Aside0.mk A2260
                      clear A2260
                      obtain rfl := Option.some.inj H
                      have hnb227 := NB225_213.out
                      have hnc227 := NB213_225.out
                      have hnb228 := NB225_214.out
                      have hnc228 := NB214_225.out
                      have hnb229 := NB225_215.out
                      have hnc229 := NB215_225.out
                      have hnb230 := NB225_216.out
                      have hnc230 := NB216_225.out
                      have hnb231 := NB225_226.out
                      have hnc231 := NB226_225.out
                      have hcz232_0 : wc.cell? ⟨gb225, 0, none⟩ = some (.int .i32 t221) := (blk_cell BK225.out 0).trans rfl
                      have hcz232_1 : wc.cell? ⟨gb225, 1, none⟩ = some (.int .i32 t222) := (blk_cell BK225.out 1).trans rfl
                      have hfz232_0 := blk_frozen BK225.out 0
                      have hfz232_1 := blk_frozen BK225.out 1
                      have hnb233 := NB213_214.out
                      have hnc233 := NB214_213.out
                      have hnb234 := NB213_215.out
                      have hnc234 := NB215_213.out
                      have hnb235 := NB213_216.out
                      have hnc235 := NB216_213.out
                      have hnb236 := NB213_226.out
                      have hnc236 := NB226_213.out
                      have hcz237_0 : wc.cell? ⟨gb213, 0, none⟩ = some (.int .i32 a0_0) := (blk_cell BK213.out 0).trans rfl
                      have hcz237_1 : wc.cell? ⟨gb213, 1, none⟩ = some (.int .i32 a0_1) := (blk_cell BK213.out 1).trans rfl
                      have hfz237_0 := blk_frozen BK213.out 0
                      have hfz237_1 := blk_frozen BK213.out 1
                      have hnb238 := NB214_215.out
                      have hnc238 := NB215_214.out
                      have hnb239 := NB214_216.out
                      have hnc239 := NB216_214.out
                      have hnb240 := NB214_226.out
                      have hnc240 := NB226_214.out
                      have hcz241_0 : wc.cell? ⟨gb214, 0, none⟩ = some (.int .i32 a1_0) := (blk_cell BK214.out 0).trans rfl
                      have hcz241_1 : wc.cell? ⟨gb214, 1, none⟩ = some (.int .i32 a1_1) := (blk_cell BK214.out 1).trans rfl
                      have hfz241_0 := blk_frozen BK214.out 0
                      have hfz241_1 := blk_frozen BK214.out 1
                      have hnb242 := NB226_215.out
                      have hnc242 := NB215_226.out
                      have hnb243 := NB226_216.out
                      have hnc243 := NB216_226.out
                      have hcz244_0 : wc.cell? ⟨gb226, 0, none⟩ = some (.int .i32 t223) := (blk_cell BK226.out 0).trans rfl
                      have hcz244_1 : wc.cell? ⟨gb226, 1, none⟩ = some (.int .i32 t224) := (blk_cell BK226.out 1).trans rfl
                      have hfz244_0 := blk_frozen BK226.out 0
                      have hfz244_1 := blk_frozen BK226.out 1
                      have hnb245 := NB215_216.out
                      have hnc245 := NB216_215.out
                      have hcz246_0 : wc.cell? ⟨gb215, 0, none⟩ = some (.int .i32 a2_0) := (blk_cell BK215.out 0).trans rfl
                      have hcz246_1 : wc.cell? ⟨gb215, 1, none⟩ = some (.int .i32 a2_1) := (blk_cell BK215.out 1).trans rfl
                      have hfz246_0 := blk_frozen BK215.out 0
                      have hfz246_1 := blk_frozen BK215.out 1
                      have hcz247_0 : wc.cell? ⟨gb216, 0, none⟩ = some (.int .i32 a3_0) := (blk_cell BK216.out 0).trans rfl
                      have hcz247_1 : wc.cell? ⟨gb216, 1, none⟩ = some (.int .i32 a3_1) := (blk_cell BK216.out 1).trans rfl
                      have hfz247_0 := blk_frozen BK216.out 0
                      have hfz247_1 := blk_frozen BK216.out 1
                      go_wp2_with (first | (go_at_call 13; (with_reducible refine (billiardref13_DistSq.calls t221 t222 t223 t224 t234 _ A226.out).mono ?_); rintro e w248 ⟨rfl, hb⟩; have n0_ := Aside0.mk (blk_below (g := gb213) (o := .cells #[.int .i32 a0_0, .int .i32 a0_1] 23 (0, 0)) (by (with_reducible repeat (first | refine blk_drewN ?_ _ | refine blk_drew ?_ | refine blk_alloc ?_ _)); exact BK213.out) hb); have n1_ := Aside0.mk (blk_below (g := gb214) (o := .cells #[.int .i32 a1_0, .int .i32 a1_1] 23 (0, 0)) (by (with_reducible repeat (first | refine blk_drewN ?_ _ | refine blk_drew ?_ | refine blk_alloc ?_ _)); exact BK214.out) hb); have n2_ := Aside0.mk (blk_below (g := gb215) (o := .cells #[.int .i32 a2_0, .int .i32 a2_1] 23 (0, 0)) (by (with_reducible repeat (first | refine blk_drewN ?_ _ | refine blk_drew ?_ | refine blk_alloc ?_ _)); exact BK215.out) hb); have n3_ := Aside0.mk (blk_below (g := gb216) (o := .cells #[.int .i32 a3_0, .int .i32 a3_1] 23 (0, 0)) (by (with_reducible repeat (first | refine blk_drewN ?_ _ | refine blk_drew ?_ | refine blk_alloc ?_ _)); exact BK216.out) hb); have n4_ := Aside0.mk (blk_below (g := gb225) (o := .cells #[.int .i32 t221, .int .i32 t222] 23 (0, 0)) (by (with_reducible repeat (first | refine blk_drewN ?_ _ | refine blk_drew ?_ | refine blk_alloc ?_ _)); exact BK225.out) hb); have n5_ := Aside0.mk (blk_below (g := gb226) (o := .cells #[.int .i32 t223, .int .i32 t224] 23 (0, 0)) (by (with_reducible repeat (first | refine blk_drewN ?_ _ | refine blk_drew ?_ | refine blk_alloc ?_ _)); exact BK226.out) hb); have n6_ := Aside0.mk (below_step (by repeat (first | (with_reducible first | exact HB.out | apply below_alloc | apply pw_below_drewN | apply below_drew1 | refine below_set ?_ GE213.out | refine below_set ?_ GE214.out | refine below_set ?_ GE215.out | refine below_set ?_ GE216.out | refine below_set ?_ GE225.out | refine below_set ?_ GE226.out) | exact HB.out)) hb); clear BK213; clear BK214; clear BK215; clear BK216; clear BK225; clear BK226; clear HB; have BK213 := n0_; have BK214 := n1_; have BK215 := n2_; have BK216 := n3_; have BK225 := n4_; have BK226 := n5_; have HB := n6_; clear n0_ n1_ n2_ n3_ n4_ n5_ n6_; (try clear hb); (try clear hb2); (try clear hk); (try clear hi)))
                      go_ret
                      exact ⟨by first | rfl | (simp [errW_none, errW_some] <;> rfl) | (simp [*, errW_none, errW_some] <;> rfl), by repeat (first | (with_reducible first | exact HB.out | apply below_alloc | apply pw_below_drewN | apply below_drew1 | refine below_set ?_ GE213.out | refine below_set ?_ GE214.out | refine below_set ?_ GE215.out | refine below_set ?_ GE216.out | refine below_set ?_ GE225.out | refine below_set ?_ GE226.out) | exact HB.out)⟩
                    · rw [if_neg c225] at H
                      have c225b0 : (t223 == a3_0 && (t224 == a3_1)) = false := by simpa using c225
                      (try (have c225b1 : decide (t223 = a3_0 && (t224 == a3_1)) = false := by simpa using c225))
                      (try (have c225b2 : (t223 == a3_0 && (t224 == a3_1)) = false := by simpa using c225))
                      (try (have c225b3 : ¬ (t223 = a3_0 && (t224 == a3_1)) := by simpa using c225))
                      clear c225
                      obtain rfl := Option.some.inj H
                      have hnb249 := NB225_213.out
                      have hnc249 := NB213_225.out
                      have hnb250 := NB225_214.out
                      have hnc250 := NB214_225.out
                      have hnb251 := NB225_215.out
                      have hnc251 := NB215_225.out
                      have hnb252 := NB225_216.out
                      have hnc252 := NB216_225.out
                      have hnb253 := NB225_226.out
                      have hnc253 := NB226_225.out
                      have hcz254_0 : wc.cell? ⟨gb225, 0, none⟩ = some (.int .i32 t221) := (blk_cell BK225.out 0).trans rfl
                      have hcz254_1 : wc.cell? ⟨gb225, 1, none⟩ = some (.int .i32 t222) := (blk_cell BK225.out 1).trans rfl
                      have hfz254_0 := blk_frozen BK225.out 0
                      have hfz254_1 := blk_frozen BK225.out 1
                      have hnb255 := NB213_214.out
                      have hnc255 := NB214_213.out
                      have hnb256 := NB213_215.out
                      have hnc256 := NB215_213.out
                      have hnb257 := NB213_216.out
                      have hnc257 := NB216_213.out
                      have hnb258 := NB213_226.out
                      have hnc258 := NB226_213.out
                      have hcz259_0 : wc.cell? ⟨gb213, 0, none⟩ = some (.int .i32 a0_0) := (blk_cell BK213.out 0).trans rfl
                      have hcz259_1 : wc.cell? ⟨gb213, 1, none⟩ = some (.int .i32 a0_1) := (blk_cell BK213.out 1).trans rfl
                      have hfz259_0 := blk_frozen BK213.out 0
                      have hfz259_1 := blk_frozen BK213.out 1
                      have hnb260 := NB214_215.out
                      have hnc260 := NB215_214.out
                      have hnb261 := NB214_216.out
                      have hnc261 := NB216_214.out
                      have hnb262 := NB214_226.out
                      have hnc262 := NB226_214.out
                      have hcz263_0 : wc.cell? ⟨gb214, 0, none⟩ = some (.int .i32 a1_0) := (blk_cell BK214.out 0).trans rfl
                      have hcz263_1 : wc.cell? ⟨gb214, 1, none⟩ = some (.int .i32 a1_1) := (blk_cell BK214.out 1).trans rfl
                      have hfz263_0 := blk_frozen BK214.out 0
                      have hfz263_1 := blk_frozen BK214.out 1
                      have hnb264 := NB226_215.out
                      have hnc264 := NB215_226.out
                      have hnb265 := NB226_216.out
                      have hnc265 := NB216_226.out
                      have hcz266_0 : wc.cell? ⟨gb226, 0, none⟩ = some (.int .i32 t223) := (blk_cell BK226.out 0).trans rfl
                      have hcz266_1 : wc.cell? ⟨gb226, 1, none⟩ = some (.int .i32 t224) := (blk_cell BK226.out 1).trans rfl
                      have hfz266_0 := blk_frozen BK226.out 0
                      have hfz266_1 := blk_frozen BK226.out 1
                      have hnb267 := NB215_216.out
                      have hnc267 := NB216_215.out
                      have hcz268_0 : wc.cell? ⟨gb215, 0, none⟩ = some (.int .i32 a2_0) := (blk_cell BK215.out 0).trans rfl
                      have hcz268_1 : wc.cell? ⟨gb215, 1, none⟩ = some (.int .i32 a2_1) := (blk_cell BK215.out 1).trans rfl
                      have hfz268_0 := blk_frozen BK215.out 0
                      have hfz268_1 := blk_frozen BK215.out 1
                      have hcz269_0 : wc.cell? ⟨gb216, 0, none⟩ = some (.int .i32 a3_0) := (blk_cell BK216.out 0).trans rfl
                      have hcz269_1 : wc.cell? ⟨gb216, 1, none⟩ = some (.int .i32 a3_1) := (blk_cell BK216.out 1).trans rfl
                      have hfz269_0 := blk_frozen BK216.out 0
                      have hfz269_1 := blk_frozen BK216.out 1
                      go_wp2
                      go_ret
                      exact ⟨by first | rfl | (simp [errW_none, errW_some] <;> rfl) | (simp [*, errW_none, errW_some] <;> rfl), by repeat (first | (with_reducible first | exact HB.out | apply below_alloc | apply pw_below_drewN | apply below_drew1 | refine below_set ?_ GE213.out | refine below_set ?_ GE214.out | refine below_set ?_ GE215.out | refine below_set ?_ GE216.out | refine below_set ?_ GE225.out | refine below_set ?_ GE226.out) | exact HB.out)⟩

/-- THE ONE PURE STATEMENT of billiardlaw13_SegmentLeast: yours. -/
def billiardlaw13_SegmentLeast.Pure : Prop := ∀ (a0_0 : Int) (a0_1 : Int) (a1_0 : Int) (a1_1 : Int) (a2_0 : Int) (a2_1 : Int) (a3_0 : Int) (a3_1 : Int), (Lit.int .i32 a0_0).wf = true → (Lit.int .i32 a0_1).wf = true → (Lit.int .i32 a1_0).wf = true → (Lit.int .i32 a1_1).wf = true → (Lit.int .i32 a2_0).wf = true → (Lit.int .i32 a2_1).wf = true → (Lit.int .i32 a3_0).wf = true → (Lit.int .i32 a3_1).wf = true → ∃ k, billiardlaw13_SegmentLeast.f k a0_0 a0_1 a1_0 a1_1 a2_0 a2_1 a3_0 a3_1 = some true
theorem billiardlaw13_SegmentLeast.walk (P : billiardlaw13_SegmentLeast.Pure) (a0_0 : Int) (a0_1 : Int) (a1_0 : Int) (a1_1 : Int) (a2_0 : Int) (a2_1 : Int) (a3_0 : Int) (a3_1 : Int) (w : World) (w0_0 : (Lit.int .i32 a0_0).wf = true) (w0_1 : (Lit.int .i32 a0_1).wf = true) (w1_0 : (Lit.int .i32 a1_0).wf = true) (w1_1 : (Lit.int .i32 a1_1).wf = true) (w2_0 : (Lit.int .i32 a2_0).wf = true) (w2_1 : (Lit.int .i32 a2_1).wf = true) (w3_0 : (Lit.int .i32 a3_0).wf = true) (w3_1 : (Lit.int .i32 a3_1).wf = true) :
    Calls Try.prog 4 #[.agg #[.int .i32 a0_0, .int .i32 a0_1], .agg #[.int .i32 a1_0, .int .i32 a1_1], .agg #[.int .i32 a2_0, .int .i32 a2_1], .agg #[.int .i32 a3_0, .int .i32 a3_1]] w fun e w' => e = .returned (.bool true) ∧ Below w.heap.size w w' := by
  obtain ⟨k, h⟩ := P a0_0 a0_1 a1_0 a1_1 a2_0 a2_1 a3_0 a3_1 w0_0 w0_1 w1_0 w1_1 w2_0 w2_1 w3_0 w3_1
  refine (billiardlaw13_SegmentLeast.calls k a0_0 a0_1 a1_0 a1_1 a2_0 a2_1 a3_0 a3_1 true w h).mono ?_
  rintro e w' ⟨rfl, hd⟩
  exact ⟨rfl, hd⟩

end Go.Proofs.Ytddooigcnbpliaa.Q
