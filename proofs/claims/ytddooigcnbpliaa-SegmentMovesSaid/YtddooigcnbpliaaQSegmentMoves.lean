-- PRINTED by print.py (a twelfth state) out of the translation. Not trusted: Lean checks it.
import Derived.Test.YtddooigcnbpliaaQ0
import Derived.Test.YtddooigcnbpliaaMkeep
import Derived.Test.YtddooigcnbpliaaQE0
import Derived.Test.YtddooigcnbpliaaQbilliardlaw13
import Derived.Test.YtddooigcnbpliaaQbilliardref13
import Derived.Test.YtddooigcnbpliaaQsegment
namespace Go.Proofs.Ytddooigcnbpliaa.Q
open Go.RowKit.Below renaming refl → lR
open Go.RowKit Go.Proofs.YtddooigcnbpliaaW.PrintWords Go.Proofs.YtddooigcnbpliaaW.PrintLast Go.Proofs.YtddooigcnbpliaaW.PrintMore
open Go.Proofs.YtddooigcnbpliaaW.PrintWords renaming blk_drewN → bN, blk_drew → bD, blk_alloc → bA, blk_below → bB, blk_cell → bC, blk_frozen → bF, blk_far → bR, blk_lt → bL, blk_put → bP, cell_far → cF, below_alloc → lA, pw_below_drewN → lN, below_drew1 → lD, below_set → lS, below_step → lT, below_size → lZ, Aside0.mk → aM
open List renaming setIfInBounds_toArray → sA, set_cons_zero → sB, set_cons_succ → sC
open Bool renaming true → T, false → F
attribute [local go_sem] max2_int min2_int max_two min_two max_three min_three max_four min_four   -- for this text's walks alone
set_option linter.unusedVariables false
set_option linter.unusedSimpArgs false

attribute [local go_sem high] eqA23
/-! ### billiardlaw13_SegmentMoves: function 6 -/
def billiardlaw13_SegmentMoves.j0 : Nat → Bool → Int → Int → Int → Int → Int → Int → Int → Int → Int → Int → Option (Bool)
 | 0, _, _, _, _, _, _, _, _, _, _, _ => none
 | k + 1, x44, x255000, x255001, x256000, x256001, x257000, x257001, x258000, x258001, x259000, x259001 => if x44 = true then ((billiardlaw13_awake.f).bind fun t261 => (some t261)) else ((billiardlaw13_move.f x255000 x255001 x259000 x259001).bind fun bt262 => ((billiardlaw13_move.f x256000 x256001 x259000 x259001).bind fun bt264 => ((billiardlaw13_move.f x257000 x257001 x259000 x259001).bind fun bt266 => ((billiardlaw13_move.f x258000 x258001 x259000 x259001).bind fun bt268 => ((billiardref13_Right.f bt262.1 bt262.2 bt264.1 bt264.2 bt266.1 bt266.2 bt268.1 bt268.2).bind fun t270 => (if t270 = true then ((segment_Chosen.f x255000 x255001 x256000 x256001 x257000 x257001 x258000 x258001).bind fun bt271 => ((billiardlaw13_move.f x255000 x255001 x259000 x259001).bind fun bt277 => ((billiardlaw13_move.f x256000 x256001 x259000 x259001).bind fun bt279 => ((billiardlaw13_move.f x257000 x257001 x259000 x259001).bind fun bt281 => ((billiardlaw13_move.f x258000 x258001 x259000 x259001).bind fun bt283 => ((segment_Chosen.f bt277.1 bt277.2 bt279.1 bt279.2 bt281.1 bt281.2 bt283.1 bt283.2).bind fun bt285 => ((billiardlaw13_move.f bt271.1 bt271.2.1 x259000 x259001).bind fun bt291 => (if (bt285.1 == bt291.1 && (bt285.2.1 == bt291.2)) = true then ((billiardlaw13_move.f bt271.2.2.1 bt271.2.2.2 x259000 x259001).bind fun bt293 => (some (bt285.2.2.1 == bt293.1 && (bt285.2.2.2 == bt293.2)))) else (some false))))))))) else (some true)))))))
def billiardlaw13_SegmentMoves.f (k : Nat) (a0_0 : Int) (a0_1 : Int) (a1_0 : Int) (a1_1 : Int) (a2_0 : Int) (a2_1 : Int) (a3_0 : Int) (a3_1 : Int) (a4_0 : Int) (a4_1 : Int) : Option (Bool) := (billiardlaw13_awake.f).bind fun t259 => (if t259 = true then ((billiardref13_Right.f a0_0 a0_1 a1_0 a1_1 a2_0 a2_1 a3_0 a3_1).bind fun t260 => (if t260 = true then (if a4_0 < (-1000000000) then (billiardlaw13_SegmentMoves.j0 k true a0_0 a0_1 a1_0 a1_1 a2_0 a2_1 a3_0 a3_1 a4_0 a4_1) else (if a4_0 > 1000000000 then (billiardlaw13_SegmentMoves.j0 k true a0_0 a0_1 a1_0 a1_1 a2_0 a2_1 a3_0 a3_1 a4_0 a4_1) else (if a4_1 < (-1000000000) then (billiardlaw13_SegmentMoves.j0 k true a0_0 a0_1 a1_0 a1_1 a2_0 a2_1 a3_0 a3_1 a4_0 a4_1) else (billiardlaw13_SegmentMoves.j0 k (decide (a4_1 > 1000000000)) a0_0 a0_1 a1_0 a1_1 a2_0 a2_1 a3_0 a3_1 a4_0 a4_1)))) else (billiardlaw13_SegmentMoves.j0 k true a0_0 a0_1 a1_0 a1_1 a2_0 a2_1 a3_0 a3_1 a4_0 a4_1))) else (billiardlaw13_SegmentMoves.j0 k true a0_0 a0_1 a1_0 a1_1 a2_0 a2_1 a3_0 a3_1 a4_0 a4_1))
theorem billiardlaw13_SegmentMoves.mono_l : ∀ k, (∀ y0 y1 y2 y3 y4 y5 y6 y7 y8 y9 y10, LeO (billiardlaw13_SegmentMoves.j0 k y0 y1 y2 y3 y4 y5 y6 y7 y8 y9 y10) (billiardlaw13_SegmentMoves.j0 (k + 1) y0 y1 y2 y3 y4 y5 y6 y7 y8 y9 y10))
 | 0 => fun _ _ _ _ _ _ _ _ _ _ _ r h => by simp [billiardlaw13_SegmentMoves.j0] at h
 | k + 1 => by
  have ih0 := billiardlaw13_SegmentMoves.mono_l k
  ·intro y0 y1 y2 y3 y4 y5 y6 y7 y8 y9 y10
   unfold billiardlaw13_SegmentMoves.j0
   repeat' first
   | (with_reducible exact ih0 _ _ _ _ _ _ _ _ _ _ _)
   | (with_reducible exact LeO.refl _)
   | (with_reducible exact LeO.none _)
   | (with_reducible refine LeO.ite ?_ ?_)
   | (with_reducible refine LeO.bind ?_ (fun _ => ?_))
   | exact ih0 _ _ _ _ _ _ _ _ _ _ _
   | exact LeO.none _
   | refine LeO.ite ?_ ?_
   | refine LeO.bind ?_ (fun _ => ?_)
theorem billiardlaw13_SegmentMoves.mono : ∀ a0 a1 a2 a3 a4 a5 a6 a7 a8 a9 k, LeO (billiardlaw13_SegmentMoves.f k a0 a1 a2 a3 a4 a5 a6 a7 a8 a9) (billiardlaw13_SegmentMoves.f (k + 1) a0 a1 a2 a3 a4 a5 a6 a7 a8 a9) := by
 intro a0 a1 a2 a3 a4 a5 a6 a7 a8 a9 k
 have ih0 := billiardlaw13_SegmentMoves.mono_l k
 unfold billiardlaw13_SegmentMoves.f
 repeat' first
   | (with_reducible exact ih0 _ _ _ _ _ _ _ _ _ _ _)
   | (with_reducible exact LeO.refl _)
   | (with_reducible exact LeO.none _)
   | (with_reducible refine LeO.ite ?_ ?_)
   | (with_reducible refine LeO.bind ?_ (fun _ => ?_))
   | exact ih0 _ _ _ _ _ _ _ _ _ _ _
   | exact LeO.none _
   | refine LeO.ite ?_ ?_
   | refine LeO.bind ?_ (fun _ => ?_)
def billiardlaw13_SegmentMoves.T3 : Bool × List (List Nat × List Nat) := (true, [([], []), ([], []), ([0, 1], [0, 1]), ([], []), ([], []), ([3, 4, 2], [3, 4]), ([], []), ([], []), ([6, 7, 5], [6, 7]), ([], []), ([], []), ([9, 10, 8], [9, 10]), ([2, 5, 8, 11, 11], [2, 5, 8, 11]), ([12], [12])])
def billiardlaw13_SegmentMoves.B3 : List Nat := [0, 0, 3, 0, 0, 31, 0, 0, 255, 0, 0, 2047, 4095, 8191]
theorem billiardlaw13_SegmentMoves.tab3 : rtab .any (opsOf Try.f6 3) = billiardlaw13_SegmentMoves.T3 := by kernel_rfl
theorem billiardlaw13_SegmentMoves.bits3 : waitsOk billiardlaw13_SegmentMoves.T3.2 billiardlaw13_SegmentMoves.B3 = true := by kernel_rfl
def billiardlaw13_SegmentMoves.T6 : Bool × List (List Nat × List Nat) := (true, [([], []), ([], []), ([0, 1], [0, 1]), ([], []), ([], []), ([3, 4, 2], [3, 4]), ([], []), ([], []), ([6, 7, 5], [6, 7]), ([], []), ([], []), ([9, 10, 8], [9, 10]), ([2, 5, 8, 11, 11], [2, 5, 8, 11]), ([12], [12]), ([13], [13]), ([13], [13]), ([], []), ([], []), ([16, 14, 12, 0, 1, 2, 3, 4, 5, 6, 7, 8, 9, 10, 11, 12, 13, 14, 16, 17], [14, 16]), ([17, 15, 18, 0, 1, 2, 3, 4, 5, 6, 7, 8, 9, 10, 11, 12, 13, 14, 15, 16, 17, 18], [15, 17])])
def billiardlaw13_SegmentMoves.B6 : List Nat := [0, 0, 3, 0, 0, 31, 0, 0, 255, 0, 0, 2047, 4095, 8191, 16383, 16383, 0, 0, 229375, 524287]
theorem billiardlaw13_SegmentMoves.tab6 : rtab .any (opsOf Try.f6 6) = billiardlaw13_SegmentMoves.T6 := by kernel_rfl
theorem billiardlaw13_SegmentMoves.bits6 : waitsOk billiardlaw13_SegmentMoves.T6.2 billiardlaw13_SegmentMoves.B6 = true := by kernel_rfl
def billiardlaw13_SegmentMoves.T7 : Bool × List (List Nat × List Nat) := (true, [([], []), ([], []), ([], []), ([1, 2], [1, 2]), ([0, 3], [0, 3]), ([4, 3], [4]), ([5], [5]), ([5], [5]), ([5], [5]), ([7, 8, 5, 5], [5, 7, 8]), ([6, 9, 5], [5, 6, 9]), ([5, 10], [5, 10]), ([11, 9, 0, 1, 2, 3, 4, 5, 6, 7, 8, 9, 10, 11], [11])])
def billiardlaw13_SegmentMoves.B7 : List Nat := [0, 0, 0, 6, 15, 31, 63, 63, 63, 447, 1023, 2047, 4095]
theorem billiardlaw13_SegmentMoves.tab7 : rtab .any (opsOf Try.f6 7) = billiardlaw13_SegmentMoves.T7 := by kernel_rfl
theorem billiardlaw13_SegmentMoves.bits7 : waitsOk billiardlaw13_SegmentMoves.T7.2 billiardlaw13_SegmentMoves.B7 = true := by kernel_rfl
set_option maxHeartbeats 8000000 in
set_option maxRecDepth 100000 in
theorem billiardlaw13_SegmentMoves.calls (k : Nat) (a0_0 : Int) (a0_1 : Int) (a1_0 : Int) (a1_1 : Int) (a2_0 : Int) (a2_1 : Int) (a3_0 : Int) (a3_1 : Int) (a4_0 : Int) (a4_1 : Int) (r : Bool) (w : World) (h : billiardlaw13_SegmentMoves.f k a0_0 a0_1 a1_0 a1_1 a2_0 a2_1 a3_0 a3_1 a4_0 a4_1 = some r) (hr : r = true) :
  Calls Try.prog 6 #[.agg #[.int .i32 a0_0, .int .i32 a0_1], .agg #[.int .i32 a1_0, .int .i32 a1_1], .agg #[.int .i32 a2_0, .int .i32 a2_1], .agg #[.int .i32 a3_0, .int .i32 a3_1], .agg #[.int .i32 a4_0, .int .i32 a4_1]] w fun e w' => e = .returned (.bool r) ∧ Below w.heap.size w w' := by
 have HR := aM hr
 clear hr
 have hu23 := Try.underlying23
 have HB := aM (Below.refl w.heap.size w)
 have H : ((billiardlaw13_awake.f).bind fun t259 => (if t259 = true then ((billiardref13_Right.f a0_0 a0_1 a1_0 a1_1 a2_0 a2_1 a3_0 a3_1).bind fun t260 => (if t260 = true then (if a4_0 < (-1000000000) then (billiardlaw13_SegmentMoves.j0 k true a0_0 a0_1 a1_0 a1_1 a2_0 a2_1 a3_0 a3_1 a4_0 a4_1) else (if a4_0 > 1000000000 then (billiardlaw13_SegmentMoves.j0 k true a0_0 a0_1 a1_0 a1_1 a2_0 a2_1 a3_0 a3_1 a4_0 a4_1) else (if a4_1 < (-1000000000) then (billiardlaw13_SegmentMoves.j0 k true a0_0 a0_1 a1_0 a1_1 a2_0 a2_1 a3_0 a3_1 a4_0 a4_1) else (billiardlaw13_SegmentMoves.j0 k (decide (a4_1 > 1000000000)) a0_0 a0_1 a1_0 a1_1 a2_0 a2_1 a3_0 a3_1 a4_0 a4_1)))) else (billiardlaw13_SegmentMoves.j0 k true a0_0 a0_1 a1_0 a1_1 a2_0 a2_1 a3_0 a3_1 a4_0 a4_1))) else (billiardlaw13_SegmentMoves.j0 k true a0_0 a0_1 a1_0 a1_1 a2_0 a2_1 a3_0 a3_1 a4_0 a4_1))) = some r := h
 clear h
 have HC6 := aM H
 clear H
 go_enter Try.func6, Try.ntmps6
 go_upto_region 1 with (first | ((with_reducible refine gate_dst (N := 5) rfl ?_); refine box_event ?hg (N := 5) ?hd (cs := #[.int .i32 a0_0, .int .i32 a0_1]) (t := 23) ?hr ?_; (case hd => rfl); (case hg => rfl); (case hr => first | (go_simp; done) | (go_simp; rfl)); intro b254 hg w7 hbox hb; have n0_ := aM (lT (by repeat (first | (with_reducible first | exact HB.out | apply lA | apply lN | apply lD) | exact HB.out)) hb); have n1_ := aM (hbox); have n2_ := aM ((by rw [hg]; exact (lZ (by repeat (first | (with_reducible first | exact HB.out | apply lA | apply lN | apply lD) | exact HB.out))) : w.heap.size ≤ b254)); have n3_ := aM ((by rw [hg]; exact (lZ (by repeat (first | (with_reducible first | exact HB.out | apply lA | apply lN | apply lD) | exact HB.out))) : w.heap.size ≤ b254)); clear HB; have HB := n0_; have BK254 := n1_; have GW254 := n2_; have GE254 := n3_; clear n0_ n1_ n2_ n3_; clear hb hbox hg) | ((with_reducible refine gate_dst (N := 6) rfl ?_); refine box_event ?hg (N := 6) ?hd (cs := #[.int .i32 a1_0, .int .i32 a1_1]) (t := 23) ?hr ?_; (case hd => rfl); (case hg => rfl); (case hr => first | (go_simp; done) | (go_simp; rfl)); intro b255 hg w8 hbox hb; have n0_ := aM (bB (by (with_reducible repeat first | apply bN | apply bD | apply bA); exact BK254.out) hb); have n1_ := aM (lT (by repeat (first | (with_reducible first | exact HB.out | apply lA | apply lN | apply lD | refine lS ?_ GE254.out) | exact HB.out)) hb); have n2_ := aM (hbox); have n3_ := aM ((by rw [hg]; exact (lZ (by repeat (first | (with_reducible first | exact HB.out | apply lA | apply lN | apply lD | refine lS ?_ GE254.out) | exact HB.out))) : w.heap.size ≤ b255)); have n4_ := aM ((by rw [hg]; exact (lZ (by repeat (first | (with_reducible first | exact HB.out | apply lA | apply lN | apply lD | refine lS ?_ GE254.out) | exact HB.out))) : w.heap.size ≤ b255)); have n5_ := aM ((by rw [hg]; exact Nat.ne_of_lt (bL (g := b254) (by (with_reducible repeat first | apply bN | apply bD | apply bA); exact BK254.out)) : b254 ≠ b255)); have n6_ := aM ((by rw [hg]; exact Nat.ne_of_gt (bL (g := b254) (by (with_reducible repeat first | apply bN | apply bD | apply bA); exact BK254.out)) : b255 ≠ b254)); clear BK254; clear HB; have BK254 := n0_; have HB := n1_; have BK255 := n2_; have GW255 := n3_; have GE255 := n4_; have N0_ := n5_; have N1_ := n6_; clear n0_ n1_ n2_ n3_ n4_ n5_ n6_; clear hb hbox hg) | ((with_reducible refine gate_dst (N := 7) rfl ?_); refine box_event ?hg (N := 7) ?hd (cs := #[.int .i32 a2_0, .int .i32 a2_1]) (t := 23) ?hr ?_; (case hd => rfl); (case hg => rfl); (case hr => first | (go_simp; done) | (go_simp; rfl)); intro b256 hg w9 hbox hb; have n0_ := aM (bB (by (with_reducible repeat first | apply bN | apply bD | apply bA); exact BK254.out) hb); have n1_ := aM (bB (by (with_reducible repeat first | apply bN | apply bD | apply bA); exact BK255.out) hb); have n2_ := aM (lT (by repeat (first | (with_reducible first | exact HB.out | apply lA | apply lN | apply lD | refine lS ?_ GE254.out | refine lS ?_ GE255.out) | exact HB.out)) hb); have n3_ := aM (hbox); have n4_ := aM ((by rw [hg]; exact (lZ (by repeat (first | (with_reducible first | exact HB.out | apply lA | apply lN | apply lD | refine lS ?_ GE254.out | refine lS ?_ GE255.out) | exact HB.out))) : w.heap.size ≤ b256)); have n5_ := aM ((by rw [hg]; exact (lZ (by repeat (first | (with_reducible first | exact HB.out | apply lA | apply lN | apply lD | refine lS ?_ GE254.out | refine lS ?_ GE255.out) | exact HB.out))) : w.heap.size ≤ b256)); have n6_ := aM ((by rw [hg]; exact Nat.ne_of_lt (bL (g := b254) (by (with_reducible repeat first | apply bN | apply bD | apply bA); exact BK254.out)) : b254 ≠ b256)); have n7_ := aM ((by rw [hg]; exact Nat.ne_of_gt (bL (g := b254) (by (with_reducible repeat first | apply bN | apply bD | apply bA); exact BK254.out)) : b256 ≠ b254)); have n8_ := aM ((by rw [hg]; exact Nat.ne_of_lt (bL (g := b255) (by (with_reducible repeat first | apply bN | apply bD | apply bA); exact BK255.out)) : b255 ≠ b256)); have n9_ := aM ((by rw [hg]; exact Nat.ne_of_gt (bL (g := b255) (by (with_reducible repeat first | apply bN | apply bD | apply bA); exact BK255.out)) : b256 ≠ b255)); clear BK254; clear BK255; clear HB; have BK254 := n0_; have BK255 := n1_; have HB := n2_; have BK256 := n3_; have GW256 := n4_; have GE256 := n5_; have N2_ := n6_; have N3_ := n7_; have N4_ := n8_; have N5_ := n9_; clear n0_ n1_ n2_ n3_ n4_ n5_ n6_ n7_ n8_ n9_; clear hb hbox hg) | ((with_reducible refine gate_dst (N := 8) rfl ?_); refine box_event ?hg (N := 8) ?hd (cs := #[.int .i32 a3_0, .int .i32 a3_1]) (t := 23) ?hr ?_; (case hd => rfl); (case hg => rfl); (case hr => first | (go_simp; done) | (go_simp; rfl)); intro b257 hg w10 hbox hb; have n0_ := aM (bB (by (with_reducible repeat first | apply bN | apply bD | apply bA); exact BK254.out) hb); have n1_ := aM (bB (by (with_reducible repeat first | apply bN | apply bD | apply bA); exact BK255.out) hb); have n2_ := aM (bB (by (with_reducible repeat first | apply bN | apply bD | apply bA); exact BK256.out) hb); have n3_ := aM (lT (by repeat (first | (with_reducible first | exact HB.out | apply lA | apply lN | apply lD | refine lS ?_ GE254.out | refine lS ?_ GE255.out | refine lS ?_ GE256.out) | exact HB.out)) hb); have n4_ := aM (hbox); have n5_ := aM ((by rw [hg]; exact (lZ (by repeat (first | (with_reducible first | exact HB.out | apply lA | apply lN | apply lD | refine lS ?_ GE254.out | refine lS ?_ GE255.out | refine lS ?_ GE256.out) | exact HB.out))) : w.heap.size ≤ b257)); have n6_ := aM ((by rw [hg]; exact (lZ (by repeat (first | (with_reducible first | exact HB.out | apply lA | apply lN | apply lD | refine lS ?_ GE254.out | refine lS ?_ GE255.out | refine lS ?_ GE256.out) | exact HB.out))) : w.heap.size ≤ b257)); have n7_ := aM ((by rw [hg]; exact Nat.ne_of_lt (bL (g := b254) (by (with_reducible repeat first | apply bN | apply bD | apply bA); exact BK254.out)) : b254 ≠ b257)); have n8_ := aM ((by rw [hg]; exact Nat.ne_of_gt (bL (g := b254) (by (with_reducible repeat first | apply bN | apply bD | apply bA); exact BK254.out)) : b257 ≠ b254)); have n9_ := aM ((by rw [hg]; exact Nat.ne_of_lt (bL (g := b255) (by (with_reducible repeat first | apply bN | apply bD | apply bA); exact BK255.out)) : b255 ≠ b257)); have n10_ := aM ((by rw [hg]; exact Nat.ne_of_gt (bL (g := b255) (by (with_reducible repeat first | apply bN | apply bD | apply bA); exact BK255.out)) : b257 ≠ b255)); have n11_ := aM ((by rw [hg]; exact Nat.ne_of_lt (bL (g := b256) (by (with_reducible repeat first | apply bN | apply bD | apply bA); exact BK256.out)) : b256 ≠ b257)); have n12_ := aM ((by rw [hg]; exact Nat.ne_of_gt (bL (g := b256) (by (with_reducible repeat first | apply bN | apply bD | apply bA); exact BK256.out)) : b257 ≠ b256)); clear BK254; clear BK255; clear BK256; clear HB; have BK254 := n0_; have BK255 := n1_; have BK256 := n2_; have HB := n3_; have BK257 := n4_; have GW257 := n5_; have GE257 := n6_; have N6_ := n7_; have N7_ := n8_; have N8_ := n9_; have N9_ := n10_; have N10_ := n11_; have N11_ := n12_; clear n0_ n1_ n2_ n3_ n4_ n5_ n6_ n7_ n8_ n9_ n10_ n11_ n12_; clear hb hbox hg) | ((with_reducible refine gate_dst (N := 9) rfl ?_); refine box_event ?hg (N := 9) ?hd (cs := #[.int .i32 a4_0, .int .i32 a4_1]) (t := 23) ?hr ?_; (case hd => rfl); (case hg => rfl); (case hr => first | (go_simp; done) | (go_simp; rfl)); intro b258 hg w11 hbox hb; have n0_ := aM (bB (by (with_reducible repeat first | apply bN | apply bD | apply bA); exact BK254.out) hb); have n1_ := aM (bB (by (with_reducible repeat first | apply bN | apply bD | apply bA); exact BK255.out) hb); have n2_ := aM (bB (by (with_reducible repeat first | apply bN | apply bD | apply bA); exact BK256.out) hb); have n3_ := aM (bB (by (with_reducible repeat first | apply bN | apply bD | apply bA); exact BK257.out) hb); have n4_ := aM (lT (by repeat (first | (with_reducible first | exact HB.out | apply lA | apply lN | apply lD | refine lS ?_ GE254.out | refine lS ?_ GE255.out | refine lS ?_ GE256.out | refine lS ?_ GE257.out) | exact HB.out)) hb); have n5_ := aM (hbox); have n6_ := aM ((by rw [hg]; exact (lZ (by repeat (first | (with_reducible first | exact HB.out | apply lA | apply lN | apply lD | refine lS ?_ GE254.out | refine lS ?_ GE255.out | refine lS ?_ GE256.out | refine lS ?_ GE257.out) | exact HB.out))) : w.heap.size ≤ b258)); have n7_ := aM ((by rw [hg]; exact (lZ (by repeat (first | (with_reducible first | exact HB.out | apply lA | apply lN | apply lD | refine lS ?_ GE254.out | refine lS ?_ GE255.out | refine lS ?_ GE256.out | refine lS ?_ GE257.out) | exact HB.out))) : w.heap.size ≤ b258)); have n8_ := aM ((by rw [hg]; exact Nat.ne_of_lt (bL (g := b254) (by (with_reducible repeat first | apply bN | apply bD | apply bA); exact BK254.out)) : b254 ≠ b258)); have n9_ := aM ((by rw [hg]; exact Nat.ne_of_gt (bL (g := b254) (by (with_reducible repeat first | apply bN | apply bD | apply bA); exact BK254.out)) : b258 ≠ b254)); have n10_ := aM ((by rw [hg]; exact Nat.ne_of_lt (bL (g := b255) (by (with_reducible repeat first | apply bN | apply bD | apply bA); exact BK255.out)) : b255 ≠ b258)); have n11_ := aM ((by rw [hg]; exact Nat.ne_of_gt (bL (g := b255) (by (with_reducible repeat first | apply bN | apply bD | apply bA); exact BK255.out)) : b258 ≠ b255)); have n12_ := aM ((by rw [hg]; exact Nat.ne_of_lt (bL (g := b256) (by (with_reducible repeat first | apply bN | apply bD | apply bA); exact BK256.out)) : b256 ≠ b258)); have n13_ := aM ((by rw [hg]; exact Nat.ne_of_gt (bL (g := b256) (by (with_reducible repeat first | apply bN | apply bD | apply bA); exact BK256.out)) : b258 ≠ b256)); have n14_ := aM ((by rw [hg]; exact Nat.ne_of_lt (bL (g := b257) (by (with_reducible repeat first | apply bN | apply bD | apply bA); exact BK257.out)) : b257 ≠ b258)); have n15_ := aM ((by rw [hg]; exact Nat.ne_of_gt (bL (g := b257) (by (with_reducible repeat first | apply bN | apply bD | apply bA); exact BK257.out)) : b258 ≠ b257)); clear BK254; clear BK255; clear BK256; clear BK257; clear HB; have BK254 := n0_; have BK255 := n1_; have BK256 := n2_; have BK257 := n3_; have HB := n4_; have BK258 := n5_; have GW258 := n6_; have GE258 := n7_; have N12_ := n8_; have N13_ := n9_; have N14_ := n10_; have N15_ := n11_; have N16_ := n12_; have N17_ := n13_; have N18_ := n14_; have N19_ := n15_; clear n0_ n1_ n2_ n3_ n4_ n5_ n6_ n7_ n8_ n9_ n10_ n11_ n12_ n13_ n14_ n15_; clear hb hbox hg))
 (try simp only [Act.put, sA, sB, sC])
 go_cut [44] (fun v44 wc => ∃ (kq : Nat) (x44_5 : Bool), v44 = .bool x44_5 ∧ Aside0 (billiardlaw13_SegmentMoves.j0 kq x44_5 a0_0 a0_1 a1_0 a1_1 a2_0 a2_1 a3_0 a3_1 a4_0 a4_1 = some r) ∧ Aside0 (kq ≤ k) ∧ Aside0 (wc.heap[b254]? = some (.cells #[.int .i32 a0_0, .int .i32 a0_1] 23 (0, 0))) ∧ Aside0 (wc.heap[b255]? = some (.cells #[.int .i32 a1_0, .int .i32 a1_1] 23 (0, 0))) ∧ Aside0 (wc.heap[b256]? = some (.cells #[.int .i32 a2_0, .int .i32 a2_1] 23 (0, 0))) ∧ Aside0 (wc.heap[b257]? = some (.cells #[.int .i32 a3_0, .int .i32 a3_1] 23 (0, 0))) ∧ Aside0 (wc.heap[b258]? = some (.cells #[.int .i32 a4_0, .int .i32 a4_1] 23 (0, 0))) ∧ Aside0 (Below w.heap.size w wc))
 case first =>
  have H := HC6.out
  clear HC6
  replace H := Option.bind_eq_some_iff.mp H
  obtain ⟨t259, A120, H⟩ := H
  try dsimp only at H
  have A12 := aM A120
  clear A120
  by_cases c13 : t259 = true
  ·subst c13
   rw [if_pos rfl] at H
   replace H := Option.bind_eq_some_iff.mp H
   obtain ⟨t260, A140, H⟩ := H
   try dsimp only at H
   have A14 := aM A140
   clear A140
   by_cases c15 : t260 = true
   ·subst c15
    rw [if_pos rfl] at H
    by_cases c16 : a4_0 < (-1000000000)
    ·rw [if_pos c16] at H
     have c16b0 : decide (a4_0 < (-1000000000)) = true := decide_eq_true c16
     clear c16
     (first | rw [c16b0] | (simp only [i64_w, i32_w]; rw [c16b0]) | skip)
     have H' := aM H
     clear H
     go_wp2_with (first | ((with_reducible refine gate_callee (f := 8) rfl ?_); refine goesL_ (some 15) rfl rfl Try.func8 (by kernel_rfl) rfl #[] rfl (by (try simp only [List.map_toArray, List.map_cons, List.map_nil]); first | done | rfl | (simp only [List.length_drop, List.length_take]; rfl)) ?_; (with_reducible refine (billiardlaw13_awake.calls  true _ A12.out).mono ?_); rintro e w17 ⟨rfl, hb⟩; refine ⟨_, rfl, ?_⟩; have n_ := kB5 BK254 BK255 BK256 BK257 BK258 HB (by repeat first | exact lR _ _ | apply lN | apply lD | apply lA) hb; clear BK254 BK255 BK256 BK257 BK258 HB; obtain ⟨BK254, BK255, BK256, BK257, BK258, HB⟩ := n_; (try clear hb); (try clear hb2); (try clear hk); (try clear hi); have hnb18 := N0_.out; have hnc18 := N1_.out; have hnb19 := N2_.out; have hnc19 := N3_.out; have hnb20 := N6_.out; have hnc20 := N7_.out; have hnb21 := N12_.out; have hnc21 := N13_.out; have hcz22_0 : w17.cell? ⟨b254, 0, none⟩ = some (.int .i32 a0_0) := (bC BK254.out 0).trans rfl; have hcz22_1 : w17.cell? ⟨b254, 1, none⟩ = some (.int .i32 a0_1) := (bC BK254.out 1).trans rfl; have hfz22_0 := bF BK254.out 0; have hfz22_1 := bF BK254.out 1; have hnb23 := N4_.out; have hnc23 := N5_.out; have hnb24 := N8_.out; have hnc24 := N9_.out; have hnb25 := N14_.out; have hnc25 := N15_.out; have hcz26_0 : w17.cell? ⟨b255, 0, none⟩ = some (.int .i32 a1_0) := (bC BK255.out 0).trans rfl; have hcz26_1 : w17.cell? ⟨b255, 1, none⟩ = some (.int .i32 a1_1) := (bC BK255.out 1).trans rfl; have hfz26_0 := bF BK255.out 0; have hfz26_1 := bF BK255.out 1; have hnb27 := N10_.out; have hnc27 := N11_.out; have hnb28 := N16_.out; have hnc28 := N17_.out; have hcz29_0 : w17.cell? ⟨b256, 0, none⟩ = some (.int .i32 a2_0) := (bC BK256.out 0).trans rfl; have hcz29_1 : w17.cell? ⟨b256, 1, none⟩ = some (.int .i32 a2_1) := (bC BK256.out 1).trans rfl; have hfz29_0 := bF BK256.out 0; have hfz29_1 := bF BK256.out 1; have hnb30 := N18_.out; have hnc30 := N19_.out; have hcz31_0 : w17.cell? ⟨b257, 0, none⟩ = some (.int .i32 a3_0) := (bC BK257.out 0).trans rfl; have hcz31_1 : w17.cell? ⟨b257, 1, none⟩ = some (.int .i32 a3_1) := (bC BK257.out 1).trans rfl; have hfz31_0 := bF BK257.out 0; have hfz31_1 := bF BK257.out 1) | (go_at_call 9; (with_reducible refine (billiardref13_Right.calls a0_0 a0_1 a1_0 a1_1 a2_0 a2_1 a3_0 a3_1 true _ A14.out).mono ?_); rintro e w32 ⟨rfl, hb⟩; have n_ := kB5 BK254 BK255 BK256 BK257 BK258 HB (by repeat first | exact lR _ _ | apply lN | apply lD | apply lA) hb; clear BK254 BK255 BK256 BK257 BK258 HB; obtain ⟨BK254, BK255, BK256, BK257, BK258, HB⟩ := n_; (try clear hb); (try clear hb2); (try clear hk); (try clear hi); have hcz33_0 : w32.cell? ⟨b258, 0, none⟩ = some (.int .i32 a4_0) := (bC BK258.out 0).trans rfl; have hcz33_1 : w32.cell? ⟨b258, 1, none⟩ = some (.int .i32 a4_1) := (bC BK258.out 1).trans rfl; have hfz33_0 := bF BK258.out 0; have hfz33_1 := bF BK258.out 1))
     go_meet
     case rel => exact ⟨_, (true), (by first | rfl | (simp; done) | (simp [*]; done)), H', ⟨by first | omega | exact Nat.le_refl _⟩, ⟨by (with_reducible repeat first | apply bN | apply bD | apply bA); exact BK254.out⟩, ⟨by (with_reducible repeat first | apply bN | apply bD | apply bA); exact BK255.out⟩, ⟨by (with_reducible repeat first | apply bN | apply bD | apply bA); exact BK256.out⟩, ⟨by (with_reducible repeat first | apply bN | apply bD | apply bA); exact BK257.out⟩, ⟨by (with_reducible repeat first | apply bN | apply bD | apply bA); exact BK258.out⟩, ⟨by repeat (first | (with_reducible first | exact HB.out | apply lA | apply lN | apply lD | refine lS ?_ GE254.out | refine lS ?_ GE255.out | refine lS ?_ GE256.out | refine lS ?_ GE257.out | refine lS ?_ GE258.out) | exact HB.out)⟩⟩
    ·rw [if_neg c16] at H
     have c16b0 : decide (a4_0 < (-1000000000)) = false := decide_eq_false c16
     clear c16
     (first | rw [c16b0] | (simp only [i64_w, i32_w]; rw [c16b0]) | skip)
     by_cases c34 : a4_0 > 1000000000
     ·rw [if_pos c34] at H
      have c34b0 : decide (1000000000 < a4_0) = true := decide_eq_true c34
      clear c34
      have H' := aM H
      clear H
      go_wp2_with (first | ((with_reducible refine gate_callee (f := 8) rfl ?_); refine goesL_ (some 15) rfl rfl Try.func8 (by kernel_rfl) rfl #[] rfl (by (try simp only [List.map_toArray, List.map_cons, List.map_nil]); first | done | rfl | (simp only [List.length_drop, List.length_take]; rfl)) ?_; (with_reducible refine (billiardlaw13_awake.calls  true _ A12.out).mono ?_); rintro e w35 ⟨rfl, hb⟩; refine ⟨_, rfl, ?_⟩; have n_ := kB5 BK254 BK255 BK256 BK257 BK258 HB (by repeat first | exact lR _ _ | apply lN | apply lD | apply lA) hb; clear BK254 BK255 BK256 BK257 BK258 HB; obtain ⟨BK254, BK255, BK256, BK257, BK258, HB⟩ := n_; (try clear hb); (try clear hb2); (try clear hk); (try clear hi); have hnb36 := N0_.out; have hnc36 := N1_.out; have hnb37 := N2_.out; have hnc37 := N3_.out; have hnb38 := N6_.out; have hnc38 := N7_.out; have hnb39 := N12_.out; have hnc39 := N13_.out; have hcz40_0 : w35.cell? ⟨b254, 0, none⟩ = some (.int .i32 a0_0) := (bC BK254.out 0).trans rfl; have hcz40_1 : w35.cell? ⟨b254, 1, none⟩ = some (.int .i32 a0_1) := (bC BK254.out 1).trans rfl; have hfz40_0 := bF BK254.out 0; have hfz40_1 := bF BK254.out 1; have hnb41 := N4_.out; have hnc41 := N5_.out; have hnb42 := N8_.out; have hnc42 := N9_.out; have hnb43 := N14_.out; have hnc43 := N15_.out; have hcz44_0 : w35.cell? ⟨b255, 0, none⟩ = some (.int .i32 a1_0) := (bC BK255.out 0).trans rfl; have hcz44_1 : w35.cell? ⟨b255, 1, none⟩ = some (.int .i32 a1_1) := (bC BK255.out 1).trans rfl; have hfz44_0 := bF BK255.out 0; have hfz44_1 := bF BK255.out 1; have hnb45 := N10_.out; have hnc45 := N11_.out; have hnb46 := N16_.out; have hnc46 := N17_.out; have hcz47_0 : w35.cell? ⟨b256, 0, none⟩ = some (.int .i32 a2_0) := (bC BK256.out 0).trans rfl; have hcz47_1 : w35.cell? ⟨b256, 1, none⟩ = some (.int .i32 a2_1) := (bC BK256.out 1).trans rfl; have hfz47_0 := bF BK256.out 0; have hfz47_1 := bF BK256.out 1; have hnb48 := N18_.out; have hnc48 := N19_.out; have hcz49_0 : w35.cell? ⟨b257, 0, none⟩ = some (.int .i32 a3_0) := (bC BK257.out 0).trans rfl; have hcz49_1 : w35.cell? ⟨b257, 1, none⟩ = some (.int .i32 a3_1) := (bC BK257.out 1).trans rfl; have hfz49_0 := bF BK257.out 0; have hfz49_1 := bF BK257.out 1) | (go_at_call 9; (with_reducible refine (billiardref13_Right.calls a0_0 a0_1 a1_0 a1_1 a2_0 a2_1 a3_0 a3_1 true _ A14.out).mono ?_); rintro e w50 ⟨rfl, hb⟩; have n_ := kB5 BK254 BK255 BK256 BK257 BK258 HB (by repeat first | exact lR _ _ | apply lN | apply lD | apply lA) hb; clear BK254 BK255 BK256 BK257 BK258 HB; obtain ⟨BK254, BK255, BK256, BK257, BK258, HB⟩ := n_; (try clear hb); (try clear hb2); (try clear hk); (try clear hi); have hcz51_0 : w50.cell? ⟨b258, 0, none⟩ = some (.int .i32 a4_0) := (bC BK258.out 0).trans rfl; have hcz51_1 : w50.cell? ⟨b258, 1, none⟩ = some (.int .i32 a4_1) := (bC BK258.out 1).trans rfl; have hfz51_0 := bF BK258.out 0; have hfz51_1 := bF BK258.out 1))
      go_meet
      case rel => exact ⟨_, (true), (by first | rfl | (simp; done) | (simp [*]; done)), H', ⟨by first | omega | exact Nat.le_refl _⟩, ⟨by (with_reducible repeat first | apply bN | apply bD | apply bA); exact BK254.out⟩, ⟨by (with_reducible repeat first | apply bN | apply bD | apply bA); exact BK255.out⟩, ⟨by (with_reducible repeat first | apply bN | apply bD | apply bA); exact BK256.out⟩, ⟨by (with_reducible repeat first | apply bN | apply bD | apply bA); exact BK257.out⟩, ⟨by (with_reducible repeat first | apply bN | apply bD | apply bA); exact BK258.out⟩, ⟨by repeat (first | (with_reducible first | exact HB.out | apply lA | apply lN | apply lD | refine lS ?_ GE254.out | refine lS ?_ GE255.out | refine lS ?_ GE256.out | refine lS ?_ GE257.out | refine lS ?_ GE258.out) | exact HB.out)⟩⟩
     ·rw [if_neg c34] at H
      have c34b0 : decide (1000000000 < a4_0) = false := decide_eq_false c34
      clear c34
      by_cases c52 : a4_1 < (-1000000000)
      ·rw [if_pos c52] at H
       have c52b0 : decide (a4_1 < (-1000000000)) = true := decide_eq_true c52
       clear c52
       have H' := aM H
       clear H
       go_wp2_with (first | ((with_reducible refine gate_callee (f := 8) rfl ?_); refine goesL_ (some 15) rfl rfl Try.func8 (by kernel_rfl) rfl #[] rfl (by (try simp only [List.map_toArray, List.map_cons, List.map_nil]); first | done | rfl | (simp only [List.length_drop, List.length_take]; rfl)) ?_; (with_reducible refine (billiardlaw13_awake.calls  true _ A12.out).mono ?_); rintro e w53 ⟨rfl, hb⟩; refine ⟨_, rfl, ?_⟩; have n_ := kB5 BK254 BK255 BK256 BK257 BK258 HB (by repeat first | exact lR _ _ | apply lN | apply lD | apply lA) hb; clear BK254 BK255 BK256 BK257 BK258 HB; obtain ⟨BK254, BK255, BK256, BK257, BK258, HB⟩ := n_; (try clear hb); (try clear hb2); (try clear hk); (try clear hi); have hnb54 := N0_.out; have hnc54 := N1_.out; have hnb55 := N2_.out; have hnc55 := N3_.out; have hnb56 := N6_.out; have hnc56 := N7_.out; have hnb57 := N12_.out; have hnc57 := N13_.out; have hcz58_0 : w53.cell? ⟨b254, 0, none⟩ = some (.int .i32 a0_0) := (bC BK254.out 0).trans rfl; have hcz58_1 : w53.cell? ⟨b254, 1, none⟩ = some (.int .i32 a0_1) := (bC BK254.out 1).trans rfl; have hfz58_0 := bF BK254.out 0; have hfz58_1 := bF BK254.out 1; have hnb59 := N4_.out; have hnc59 := N5_.out; have hnb60 := N8_.out; have hnc60 := N9_.out; have hnb61 := N14_.out; have hnc61 := N15_.out; have hcz62_0 : w53.cell? ⟨b255, 0, none⟩ = some (.int .i32 a1_0) := (bC BK255.out 0).trans rfl; have hcz62_1 : w53.cell? ⟨b255, 1, none⟩ = some (.int .i32 a1_1) := (bC BK255.out 1).trans rfl; have hfz62_0 := bF BK255.out 0; have hfz62_1 := bF BK255.out 1; have hnb63 := N10_.out; have hnc63 := N11_.out; have hnb64 := N16_.out; have hnc64 := N17_.out; have hcz65_0 : w53.cell? ⟨b256, 0, none⟩ = some (.int .i32 a2_0) := (bC BK256.out 0).trans rfl; have hcz65_1 : w53.cell? ⟨b256, 1, none⟩ = some (.int .i32 a2_1) := (bC BK256.out 1).trans rfl; have hfz65_0 := bF BK256.out 0; have hfz65_1 := bF BK256.out 1; have hnb66 := N18_.out; have hnc66 := N19_.out; have hcz67_0 : w53.cell? ⟨b257, 0, none⟩ = some (.int .i32 a3_0) := (bC BK257.out 0).trans rfl; have hcz67_1 : w53.cell? ⟨b257, 1, none⟩ = some (.int .i32 a3_1) := (bC BK257.out 1).trans rfl; have hfz67_0 := bF BK257.out 0; have hfz67_1 := bF BK257.out 1) | (go_at_call 9; (with_reducible refine (billiardref13_Right.calls a0_0 a0_1 a1_0 a1_1 a2_0 a2_1 a3_0 a3_1 true _ A14.out).mono ?_); rintro e w68 ⟨rfl, hb⟩; have n_ := kB5 BK254 BK255 BK256 BK257 BK258 HB (by repeat first | exact lR _ _ | apply lN | apply lD | apply lA) hb; clear BK254 BK255 BK256 BK257 BK258 HB; obtain ⟨BK254, BK255, BK256, BK257, BK258, HB⟩ := n_; (try clear hb); (try clear hb2); (try clear hk); (try clear hi); have hcz69_0 : w68.cell? ⟨b258, 0, none⟩ = some (.int .i32 a4_0) := (bC BK258.out 0).trans rfl; have hcz69_1 : w68.cell? ⟨b258, 1, none⟩ = some (.int .i32 a4_1) := (bC BK258.out 1).trans rfl; have hfz69_0 := bF BK258.out 0; have hfz69_1 := bF BK258.out 1))
       go_meet
       case rel => exact ⟨_, (true), (by first | rfl | (simp; done) | (simp [*]; done)), H', ⟨by first | omega | exact Nat.le_refl _⟩, ⟨by (with_reducible repeat first | apply bN | apply bD | apply bA); exact BK254.out⟩, ⟨by (with_reducible repeat first | apply bN | apply bD | apply bA); exact BK255.out⟩, ⟨by (with_reducible repeat first | apply bN | apply bD | apply bA); exact BK256.out⟩, ⟨by (with_reducible repeat first | apply bN | apply bD | apply bA); exact BK257.out⟩, ⟨by (with_reducible repeat first | apply bN | apply bD | apply bA); exact BK258.out⟩, ⟨by repeat (first | (with_reducible first | exact HB.out | apply lA | apply lN | apply lD | refine lS ?_ GE254.out | refine lS ?_ GE255.out | refine lS ?_ GE256.out | refine lS ?_ GE257.out | refine lS ?_ GE258.out) | exact HB.out)⟩⟩
      ·rw [if_neg c52] at H
       have c52b0 : decide (a4_1 < (-1000000000)) = false := decide_eq_false c52
       clear c52
       have H' := aM H
       clear H
       go_wp2_with (first | ((with_reducible refine gate_callee (f := 8) rfl ?_); refine goesL_ (some 15) rfl rfl Try.func8 (by kernel_rfl) rfl #[] rfl (by (try simp only [List.map_toArray, List.map_cons, List.map_nil]); first | done | rfl | (simp only [List.length_drop, List.length_take]; rfl)) ?_; (with_reducible refine (billiardlaw13_awake.calls  true _ A12.out).mono ?_); rintro e w70 ⟨rfl, hb⟩; refine ⟨_, rfl, ?_⟩; have n_ := kB5 BK254 BK255 BK256 BK257 BK258 HB (by repeat first | exact lR _ _ | apply lN | apply lD | apply lA) hb; clear BK254 BK255 BK256 BK257 BK258 HB; obtain ⟨BK254, BK255, BK256, BK257, BK258, HB⟩ := n_; (try clear hb); (try clear hb2); (try clear hk); (try clear hi); have hnb71 := N0_.out; have hnc71 := N1_.out; have hnb72 := N2_.out; have hnc72 := N3_.out; have hnb73 := N6_.out; have hnc73 := N7_.out; have hnb74 := N12_.out; have hnc74 := N13_.out; have hcz75_0 : w70.cell? ⟨b254, 0, none⟩ = some (.int .i32 a0_0) := (bC BK254.out 0).trans rfl; have hcz75_1 : w70.cell? ⟨b254, 1, none⟩ = some (.int .i32 a0_1) := (bC BK254.out 1).trans rfl; have hfz75_0 := bF BK254.out 0; have hfz75_1 := bF BK254.out 1; have hnb76 := N4_.out; have hnc76 := N5_.out; have hnb77 := N8_.out; have hnc77 := N9_.out; have hnb78 := N14_.out; have hnc78 := N15_.out; have hcz79_0 : w70.cell? ⟨b255, 0, none⟩ = some (.int .i32 a1_0) := (bC BK255.out 0).trans rfl; have hcz79_1 : w70.cell? ⟨b255, 1, none⟩ = some (.int .i32 a1_1) := (bC BK255.out 1).trans rfl; have hfz79_0 := bF BK255.out 0; have hfz79_1 := bF BK255.out 1; have hnb80 := N10_.out; have hnc80 := N11_.out; have hnb81 := N16_.out; have hnc81 := N17_.out; have hcz82_0 : w70.cell? ⟨b256, 0, none⟩ = some (.int .i32 a2_0) := (bC BK256.out 0).trans rfl; have hcz82_1 : w70.cell? ⟨b256, 1, none⟩ = some (.int .i32 a2_1) := (bC BK256.out 1).trans rfl; have hfz82_0 := bF BK256.out 0; have hfz82_1 := bF BK256.out 1; have hnb83 := N18_.out; have hnc83 := N19_.out; have hcz84_0 : w70.cell? ⟨b257, 0, none⟩ = some (.int .i32 a3_0) := (bC BK257.out 0).trans rfl; have hcz84_1 : w70.cell? ⟨b257, 1, none⟩ = some (.int .i32 a3_1) := (bC BK257.out 1).trans rfl; have hfz84_0 := bF BK257.out 0; have hfz84_1 := bF BK257.out 1) | (go_at_call 9; (with_reducible refine (billiardref13_Right.calls a0_0 a0_1 a1_0 a1_1 a2_0 a2_1 a3_0 a3_1 true _ A14.out).mono ?_); rintro e w85 ⟨rfl, hb⟩; have n_ := kB5 BK254 BK255 BK256 BK257 BK258 HB (by repeat first | exact lR _ _ | apply lN | apply lD | apply lA) hb; clear BK254 BK255 BK256 BK257 BK258 HB; obtain ⟨BK254, BK255, BK256, BK257, BK258, HB⟩ := n_; (try clear hb); (try clear hb2); (try clear hk); (try clear hi); have hcz86_0 : w85.cell? ⟨b258, 0, none⟩ = some (.int .i32 a4_0) := (bC BK258.out 0).trans rfl; have hcz86_1 : w85.cell? ⟨b258, 1, none⟩ = some (.int .i32 a4_1) := (bC BK258.out 1).trans rfl; have hfz86_0 := bF BK258.out 0; have hfz86_1 := bF BK258.out 1))
       go_meet
       case rel => exact ⟨_, (decide (a4_1 > 1000000000)), (by first | rfl | (simp; done) | (simp [*]; done)), H', ⟨by first | omega | exact Nat.le_refl _⟩, ⟨by (with_reducible repeat first | apply bN | apply bD | apply bA); exact BK254.out⟩, ⟨by (with_reducible repeat first | apply bN | apply bD | apply bA); exact BK255.out⟩, ⟨by (with_reducible repeat first | apply bN | apply bD | apply bA); exact BK256.out⟩, ⟨by (with_reducible repeat first | apply bN | apply bD | apply bA); exact BK257.out⟩, ⟨by (with_reducible repeat first | apply bN | apply bD | apply bA); exact BK258.out⟩, ⟨by repeat (first | (with_reducible first | exact HB.out | apply lA | apply lN | apply lD | refine lS ?_ GE254.out | refine lS ?_ GE255.out | refine lS ?_ GE256.out | refine lS ?_ GE257.out | refine lS ?_ GE258.out) | exact HB.out)⟩⟩
   ·replace c15 := Bool.eq_false_iff.mpr c15
    subst c15
    rw [if_neg (show ¬ (false = true) by decide)] at H
    have H' := aM H
    clear H
    go_wp2_with (first | ((with_reducible refine gate_callee (f := 8) rfl ?_); refine goesL_ (some 15) rfl rfl Try.func8 (by kernel_rfl) rfl #[] rfl (by (try simp only [List.map_toArray, List.map_cons, List.map_nil]); first | done | rfl | (simp only [List.length_drop, List.length_take]; rfl)) ?_; (with_reducible refine (billiardlaw13_awake.calls  true _ A12.out).mono ?_); rintro e w87 ⟨rfl, hb⟩; refine ⟨_, rfl, ?_⟩; have n_ := kB5 BK254 BK255 BK256 BK257 BK258 HB (by repeat first | exact lR _ _ | apply lN | apply lD | apply lA) hb; clear BK254 BK255 BK256 BK257 BK258 HB; obtain ⟨BK254, BK255, BK256, BK257, BK258, HB⟩ := n_; (try clear hb); (try clear hb2); (try clear hk); (try clear hi); have hnb88 := N0_.out; have hnc88 := N1_.out; have hnb89 := N2_.out; have hnc89 := N3_.out; have hnb90 := N6_.out; have hnc90 := N7_.out; have hnb91 := N12_.out; have hnc91 := N13_.out; have hcz92_0 : w87.cell? ⟨b254, 0, none⟩ = some (.int .i32 a0_0) := (bC BK254.out 0).trans rfl; have hcz92_1 : w87.cell? ⟨b254, 1, none⟩ = some (.int .i32 a0_1) := (bC BK254.out 1).trans rfl; have hfz92_0 := bF BK254.out 0; have hfz92_1 := bF BK254.out 1; have hnb93 := N4_.out; have hnc93 := N5_.out; have hnb94 := N8_.out; have hnc94 := N9_.out; have hnb95 := N14_.out; have hnc95 := N15_.out; have hcz96_0 : w87.cell? ⟨b255, 0, none⟩ = some (.int .i32 a1_0) := (bC BK255.out 0).trans rfl; have hcz96_1 : w87.cell? ⟨b255, 1, none⟩ = some (.int .i32 a1_1) := (bC BK255.out 1).trans rfl; have hfz96_0 := bF BK255.out 0; have hfz96_1 := bF BK255.out 1; have hnb97 := N10_.out; have hnc97 := N11_.out; have hnb98 := N16_.out; have hnc98 := N17_.out; have hcz99_0 : w87.cell? ⟨b256, 0, none⟩ = some (.int .i32 a2_0) := (bC BK256.out 0).trans rfl; have hcz99_1 : w87.cell? ⟨b256, 1, none⟩ = some (.int .i32 a2_1) := (bC BK256.out 1).trans rfl; have hfz99_0 := bF BK256.out 0; have hfz99_1 := bF BK256.out 1; have hnb100 := N18_.out; have hnc100 := N19_.out; have hcz101_0 : w87.cell? ⟨b257, 0, none⟩ = some (.int .i32 a3_0) := (bC BK257.out 0).trans rfl; have hcz101_1 : w87.cell? ⟨b257, 1, none⟩ = some (.int .i32 a3_1) := (bC BK257.out 1).trans rfl; have hfz101_0 := bF BK257.out 0; have hfz101_1 := bF BK257.out 1) | (go_at_call 9; (with_reducible refine (billiardref13_Right.calls a0_0 a0_1 a1_0 a1_1 a2_0 a2_1 a3_0 a3_1 false _ A14.out).mono ?_); rintro e w102 ⟨rfl, hb⟩; have n_ := kB5 BK254 BK255 BK256 BK257 BK258 HB (by repeat first | exact lR _ _ | apply lN | apply lD | apply lA) hb; clear BK254 BK255 BK256 BK257 BK258 HB; obtain ⟨BK254, BK255, BK256, BK257, BK258, HB⟩ := n_; (try clear hb); (try clear hb2); (try clear hk); (try clear hi)))
    go_meet
    case rel => exact ⟨_, (true), (by first | rfl | (simp; done) | (simp [*]; done)), H', ⟨by first | omega | exact Nat.le_refl _⟩, ⟨by (with_reducible repeat first | apply bN | apply bD | apply bA); exact BK254.out⟩, ⟨by (with_reducible repeat first | apply bN | apply bD | apply bA); exact BK255.out⟩, ⟨by (with_reducible repeat first | apply bN | apply bD | apply bA); exact BK256.out⟩, ⟨by (with_reducible repeat first | apply bN | apply bD | apply bA); exact BK257.out⟩, ⟨by (with_reducible repeat first | apply bN | apply bD | apply bA); exact BK258.out⟩, ⟨by repeat (first | (with_reducible first | exact HB.out | apply lA | apply lN | apply lD | refine lS ?_ GE254.out | refine lS ?_ GE255.out | refine lS ?_ GE256.out | refine lS ?_ GE257.out | refine lS ?_ GE258.out) | exact HB.out)⟩⟩
  ·replace c13 := Bool.eq_false_iff.mpr c13
   subst c13
   exact absurd (billiardlaw13_awake.only A12.out) (by decide)
 case rest =>
  clear HC6
  try clear c1
  try clear c2
  try clear p2
  try clear c3
  try clear c4
  try clear c5
  try clear c6
  try clear c7
  try clear c8
  try clear c9
  try clear c10
  try clear c13
  try clear c15
  try clear c16
  try clear c16b0
  try clear c18
  try clear c19
  try clear c20
  try clear c21
  try clear c23
  try clear c24
  try clear c25
  try clear c27
  try clear c28
  try clear c30
  try clear c34
  try clear c34b0
  try clear c36
  try clear c37
  try clear c38
  try clear c39
  try clear c41
  try clear c42
  try clear c43
  try clear c45
  try clear c46
  try clear c48
  try clear c52
  try clear c52b0
  try clear c54
  try clear c55
  try clear c56
  try clear c57
  try clear c59
  try clear c60
  try clear c61
  try clear c63
  try clear c64
  try clear c66
  try clear c71
  try clear c72
  try clear c73
  try clear c74
  try clear c76
  try clear c77
  try clear c78
  try clear c80
  try clear c81
  try clear c83
  try clear c88
  try clear c89
  try clear c90
  try clear c91
  try clear c93
  try clear c94
  try clear c95
  try clear c97
  try clear c98
  try clear c100
  try clear hcz101_0
  try clear hcz101_1
  try clear hcz22_0
  try clear hcz22_1
  try clear hcz26_0
  try clear hcz26_1
  try clear hcz29_0
  try clear hcz29_1
  try clear hcz31_0
  try clear hcz31_1
  try clear hcz33_0
  try clear hcz33_1
  try clear hcz40_0
  try clear hcz40_1
  try clear hcz44_0
  try clear hcz44_1
  try clear hcz47_0
  try clear hcz47_1
  try clear hcz49_0
  try clear hcz49_1
  try clear hcz51_0
  try clear hcz51_1
  try clear hcz58_0
  try clear hcz58_1
  try clear hcz62_0
  try clear hcz62_1
  try clear hcz65_0
  try clear hcz65_1
  try clear hcz67_0
  try clear hcz67_1
  try clear hcz69_0
  try clear hcz69_1
  try clear hcz75_0
  try clear hcz75_1
  try clear hcz79_0
  try clear hcz79_1
  try clear hcz82_0
  try clear hcz82_1
  try clear hcz84_0
  try clear hcz84_1
  try clear hcz86_0
  try clear hcz86_1
  try clear hcz92_0
  try clear hcz92_1
  try clear hcz96_0
  try clear hcz96_1
  try clear hcz99_0
  try clear hcz99_1
  try clear hfz101_0
  try clear hfz101_1
  try clear hfz22_0
  try clear hfz22_1
  try clear hfz26_0
  try clear hfz26_1
  try clear hfz29_0
  try clear hfz29_1
  try clear hfz31_0
  try clear hfz31_1
  try clear hfz33_0
  try clear hfz33_1
  try clear hfz40_0
  try clear hfz40_1
  try clear hfz44_0
  try clear hfz44_1
  try clear hfz47_0
  try clear hfz47_1
  try clear hfz49_0
  try clear hfz49_1
  try clear hfz51_0
  try clear hfz51_1
  try clear hfz58_0
  try clear hfz58_1
  try clear hfz62_0
  try clear hfz62_1
  try clear hfz65_0
  try clear hfz65_1
  try clear hfz67_0
  try clear hfz67_1
  try clear hfz69_0
  try clear hfz69_1
  try clear hfz75_0
  try clear hfz75_1
  try clear hfz79_0
  try clear hfz79_1
  try clear hfz82_0
  try clear hfz82_1
  try clear hfz84_0
  try clear hfz84_1
  try clear hfz86_0
  try clear hfz86_1
  try clear hfz92_0
  try clear hfz92_1
  try clear hfz96_0
  try clear hfz96_1
  try clear hfz99_0
  try clear hfz99_1
  obtain ⟨kq, x44_5, rfl, HA, HJ5, BK254, BK255, BK256, BK257, BK258, HB⟩ := hcut
  cases kq with
  | zero => exact absurd HA.out (by simp [billiardlaw13_SegmentMoves.j0])
  | succ kj5 =>
   have H := HA.out
   clear HA
   simp only [billiardlaw13_SegmentMoves.j0] at H
   by_cases c103 : x44_5 = true
   ·subst c103
    rw [if_pos rfl] at H
    replace H := Option.bind_eq_some_iff.mp H
    obtain ⟨t261, A1040, H⟩ := H
    try dsimp only at H
    have A104 := aM A1040
    clear A1040
    obtain rfl := Option.some.inj H
    go_wp2_with (first | ((with_reducible refine gate_callee (f := 8) rfl ?_); refine goesL_ (some 45) rfl rfl Try.func8 (by kernel_rfl) rfl #[] rfl (by (try simp only [List.map_toArray, List.map_cons, List.map_nil]); first | done | rfl | (simp only [List.length_drop, List.length_take]; rfl)) ?_; (with_reducible refine (billiardlaw13_awake.calls  t261 _ A104.out).mono ?_); rintro e w105 ⟨rfl, hb⟩; refine ⟨_, rfl, ?_⟩; have n_ := kB5 BK254 BK255 BK256 BK257 BK258 HB (by repeat first | exact lR _ _ | apply lN | apply lD | apply lA) hb; clear BK254 BK255 BK256 BK257 BK258 HB; obtain ⟨BK254, BK255, BK256, BK257, BK258, HB⟩ := n_; (try clear hb); (try clear hb2); (try clear hk); (try clear hi)))
    go_ret
    exact ⟨by first | rfl | (simp [errW_none, errW_some] <;> rfl) | (simp [*, errW_none, errW_some] <;> rfl), by repeat (first | (with_reducible first | exact HB.out | apply lA | apply lN | apply lD | refine lS ?_ GE254.out | refine lS ?_ GE255.out | refine lS ?_ GE256.out | refine lS ?_ GE257.out | refine lS ?_ GE258.out) | exact HB.out)⟩
   ·replace c103 := Bool.eq_false_iff.mpr c103
    subst c103
    rw [if_neg (show ¬ (false = true) by decide)] at H
    replace H := Option.bind_eq_some_iff.mp H
    obtain ⟨⟨t262, t263⟩, A1060, H⟩ := H
    try dsimp only at H
    have A106 := aM A1060
    clear A1060
    replace H := Option.bind_eq_some_iff.mp H
    obtain ⟨⟨t264, t265⟩, A1070, H⟩ := H
    try dsimp only at H
    have A107 := aM A1070
    clear A1070
    replace H := Option.bind_eq_some_iff.mp H
    obtain ⟨⟨t266, t267⟩, A1080, H⟩ := H
    try dsimp only at H
    have A108 := aM A1080
    clear A1080
    replace H := Option.bind_eq_some_iff.mp H
    obtain ⟨⟨t268, t269⟩, A1090, H⟩ := H
    try dsimp only at H
    have A109 := aM A1090
    clear A1090
    replace H := Option.bind_eq_some_iff.mp H
    obtain ⟨t270, A1100, H⟩ := H
    try dsimp only at H
    have A110 := aM A1100
    clear A1100
    by_cases c111 : t270 = true
    ·subst c111
     rw [if_pos rfl] at H
     replace H := Option.bind_eq_some_iff.mp H
     obtain ⟨⟨t271, t272, t273, t274⟩, A1120, H⟩ := H
     try dsimp only at H
     have A112 := aM A1120
     clear A1120
     replace H := Option.bind_eq_some_iff.mp H
     obtain ⟨⟨t277, t278⟩, A1130, H⟩ := H
     try dsimp only at H
     have A113 := aM A1130
     clear A1130
     replace H := Option.bind_eq_some_iff.mp H
     obtain ⟨⟨t279, t280⟩, A1140, H⟩ := H
     try dsimp only at H
     have A114 := aM A1140
     clear A1140
     replace H := Option.bind_eq_some_iff.mp H
     obtain ⟨⟨t281, t282⟩, A1150, H⟩ := H
     try dsimp only at H
     have A115 := aM A1150
     clear A1150
     replace H := Option.bind_eq_some_iff.mp H
     obtain ⟨⟨t283, t284⟩, A1160, H⟩ := H
     try dsimp only at H
     have A116 := aM A1160
     clear A1160
     replace H := Option.bind_eq_some_iff.mp H
     obtain ⟨⟨t285, t286, t287, t288⟩, A1170, H⟩ := H
     try dsimp only at H
     have A117 := aM A1170
     clear A1170
     replace H := Option.bind_eq_some_iff.mp H
     obtain ⟨⟨t291, t292⟩, A1180, H⟩ := H
     try dsimp only at H
     have A118 := aM A1180
     clear A1180
     by_cases c119 : (t285 == t291 && (t286 == t292)) = true
     ·rw [if_pos c119] at H
      have c119b0 : (t285 == t291 && (t286 == t292)) = true := c119
      (try (have c119b1 : decide (t285 = t291 && (t286 == t292)) = true := by simpa using c119))
      (try (have c119b2 : (t285 == t291 && (t286 == t292)) = true := by simpa using c119))
      clear c119
      replace H := Option.bind_eq_some_iff.mp H
      obtain ⟨⟨t293, t294⟩, A1200, H⟩ := H
      try dsimp only at H
      have A120 := aM A1200
      clear A1200
      obtain rfl := Option.some.inj H
      try go_wp2
      have n_ := kA5 BK254 BK255 BK256 BK257 BK258 HB (lD (lR _ _))
      clear BK254 BK255 BK256 BK257 BK258 HB
      obtain ⟨BK254, BK255, BK256, BK257, BK258, HB⟩ := n_
      refine start_ (n := 14) (S := fun w' => w'.cell? ⟨b254, 0, none⟩ = some (.int .i32 a0_0) ∧ w'.cell? ⟨b254, 1, none⟩ = some (.int .i32 a0_1) ∧ w'.cell? ⟨b258, 0, none⟩ = some (.int .i32 a4_0) ∧ w'.cell? ⟨b258, 1, none⟩ = some (.int .i32 a4_1) ∧ w'.cell? ⟨b255, 0, none⟩ = some (.int .i32 a1_0) ∧ w'.cell? ⟨b255, 1, none⟩ = some (.int .i32 a1_1) ∧ w'.cell? ⟨b256, 0, none⟩ = some (.int .i32 a2_0) ∧ w'.cell? ⟨b256, 1, none⟩ = some (.int .i32 a2_1) ∧ w'.cell? ⟨b257, 0, none⟩ = some (.int .i32 a3_0) ∧ w'.cell? ⟨b257, 1, none⟩ = some (.int .i32 a3_1)) (ds := []) #[F,F,F,F,F,F,F,F,F,F,F,F,F,F] (by kernel_rfl) rfl rfl ⟨(bC BK254.out 0).trans rfl, (bC BK254.out 1).trans rfl, (bC BK258.out 0).trans rfl, (bC BK258.out 1).trans rfl, (bC BK255.out 0).trans rfl, (bC BK255.out 1).trans rfl, (bC BK256.out 0).trans rfl, (bC BK256.out 1).trans rfl, (bC BK257.out 0).trans rfl, (bC BK257.out 1).trans rfl⟩ (fun hHeld => ?_); refine with_tabW billiardlaw13_SegmentMoves.tab3 billiardlaw13_SegmentMoves.bits3 (fun HT_ HW_ => ?_)
      generalize wc.drew = w121 at BK254 BK255 BK256 BK257 BK258 HB hHeld ⊢
      refine take_ (i := 0) (N := some 46) (v := ?_) (a' := ?_) #[T,F,F,F,F,F,F,F,F,F,F,F,F,F] rfl rfl (take_ofW HT_.out HW_.out (by kernel_rfl)) (fun _ _ _ h => h) (Or.inl ⟨by rfl, ?_⟩) hHeld ?_ ?_
      rotate_left
      ·rintro w' ⟨s0, s1, s2, s3, s4, s5, s6, s7, s8, s9⟩
       go_simp
       with_reducible rfl
      rotate_left
      ·simp only [Act.put, sA, sB, sC, i64_w, i32_w]
       rfl
      refine take_ (i := 1) (N := some 47) (v := ?_) (a' := ?_) #[T,T,F,F,F,F,F,F,F,F,F,F,F,F] rfl rfl (take_ofW HT_.out HW_.out (by kernel_rfl)) (fun _ _ _ h => h) (Or.inl ⟨by rfl, ?_⟩) hHeld ?_ ?_
      rotate_left
      ·rintro w' ⟨s0, s1, s2, s3, s4, s5, s6, s7, s8, s9⟩
       go_simp
       with_reducible rfl
      rotate_left
      ·simp only [Act.put, sA, sB, sC, i64_w, i32_w]
       rfl
      refine take_ (i := 3) (N := some 49) (v := ?_) (a' := ?_) #[T,T,F,T,F,F,F,F,F,F,F,F,F,F] rfl rfl (take_ofW HT_.out HW_.out (by kernel_rfl)) (fun _ _ _ h => h) (Or.inl ⟨by rfl, ?_⟩) hHeld ?_ ?_
      rotate_left
      ·rintro w' ⟨s0, s1, s2, s3, s4, s5, s6, s7, s8, s9⟩
       go_simp
       with_reducible rfl
      rotate_left
      ·simp only [Act.put, sA, sB, sC, i64_w, i32_w]
       rfl
      refine take_ (i := 4) (N := some 50) (v := ?_) (a' := ?_) #[T,T,F,T,T,F,F,F,F,F,F,F,F,F] rfl rfl (take_ofW HT_.out HW_.out (by kernel_rfl)) (fun _ _ _ h => h) (Or.inl ⟨by rfl, ?_⟩) hHeld ?_ ?_
      rotate_left
      ·rintro w' ⟨s0, s1, s2, s3, s4, s5, s6, s7, s8, s9⟩
       go_simp
       with_reducible rfl
      rotate_left
      ·simp only [Act.put, sA, sB, sC, i64_w, i32_w]
       rfl
      refine take_ (i := 6) (N := some 52) (v := ?_) (a' := ?_) #[T,T,F,T,T,F,T,F,F,F,F,F,F,F] rfl rfl (take_ofW HT_.out HW_.out (by kernel_rfl)) (fun _ _ _ h => h) (Or.inl ⟨by rfl, ?_⟩) hHeld ?_ ?_
      rotate_left
      ·rintro w' ⟨s0, s1, s2, s3, s4, s5, s6, s7, s8, s9⟩
       go_simp
       with_reducible rfl
      rotate_left
      ·simp only [Act.put, sA, sB, sC, i64_w, i32_w]
       rfl
      refine take_ (i := 7) (N := some 53) (v := ?_) (a' := ?_) #[T,T,F,T,T,F,T,T,F,F,F,F,F,F] rfl rfl (take_ofW HT_.out HW_.out (by kernel_rfl)) (fun _ _ _ h => h) (Or.inl ⟨by rfl, ?_⟩) hHeld ?_ ?_
      rotate_left
      ·rintro w' ⟨s0, s1, s2, s3, s4, s5, s6, s7, s8, s9⟩
       go_simp
       with_reducible rfl
      rotate_left
      ·simp only [Act.put, sA, sB, sC, i64_w, i32_w]
       rfl
      refine take_ (i := 9) (N := some 55) (v := ?_) (a' := ?_) #[T,T,F,T,T,F,T,T,F,T,F,F,F,F] rfl rfl (take_ofW HT_.out HW_.out (by kernel_rfl)) (fun _ _ _ h => h) (Or.inl ⟨by rfl, ?_⟩) hHeld ?_ ?_
      rotate_left
      ·rintro w' ⟨s0, s1, s2, s3, s4, s5, s6, s7, s8, s9⟩
       go_simp
       with_reducible rfl
      rotate_left
      ·simp only [Act.put, sA, sB, sC, i64_w, i32_w]
       rfl
      refine take_ (i := 10) (N := some 56) (v := ?_) (a' := ?_) #[T,T,F,T,T,F,T,T,F,T,T,F,F,F] rfl rfl (take_ofW HT_.out HW_.out (by kernel_rfl)) (fun _ _ _ h => h) (Or.inl ⟨by rfl, ?_⟩) hHeld ?_ ?_
      rotate_left
      ·rintro w' ⟨s0, s1, s2, s3, s4, s5, s6, s7, s8, s9⟩
       go_simp
       with_reducible rfl
      rotate_left
      ·simp only [Act.put, sA, sB, sC, i64_w, i32_w]
       rfl
      refine one_ (i := 2) (N := some 48) #[T,T,T,T,T,F,T,T,F,T,T,F,F,F] rfl rfl (one_of HT_.out (by kernel_rfl)) (by decide) (fun K hK => ?_)
      refine goes_ Try.func15 (by kernel_rfl) rfl #[.agg #[.int .i32 a0_0, .int .i32 a0_1], .agg #[.int .i32 a4_0, .int .i32 a4_1]] (by rfl) rfl rfl (by (try simp only [List.map_toArray, List.map_cons, List.map_nil]); first | done | rfl | (simp only [List.length_drop, List.length_take]; rfl)) ?_
      with_reducible refine (billiardlaw13_move.calls a0_0 a0_1 a4_0 a4_1 t262 t263 _ A106.out).mono ?_
      rintro e w122 ⟨rfl, hb⟩
      refine ⟨_, rfl, ?_⟩
      have n_ := kB5 BK254 BK255 BK256 BK257 BK258 HB (by repeat first | exact lR _ _ | apply lN | apply lD | apply lA) hb
      clear BK254 BK255 BK256 BK257 BK258 HB
      obtain ⟨BK254, BK255, BK256, BK257, BK258, HB⟩ := n_
      (try clear hb)
      (try clear hb2)
      (try clear hk)
      (try clear hi)
      refine hK.out _ _ ⟨bC BK254.out 0, bC BK254.out 1, bC BK258.out 0, bC BK258.out 1, bC BK255.out 0, bC BK255.out 1, bC BK256.out 0, bC BK256.out 1, bC BK257.out 0, bC BK257.out 1⟩ (fun hHeld => ?_)
      clear hK K
      refine norm_ (a' := ?_) ?_ ?_
      rotate_left
      ·show Act.put _ (some 48) _ = _
       simp only [Act.put, sA, sB, sC, i64_w, i32_w]
       rfl
      refine one_ (i := 5) (N := some 51) #[T,T,T,T,T,T,T,T,F,T,T,F,F,F] rfl rfl (one_of HT_.out (by kernel_rfl)) (by decide) (fun K hK => ?_)
      refine goes_ Try.func15 (by kernel_rfl) rfl #[.agg #[.int .i32 a1_0, .int .i32 a1_1], .agg #[.int .i32 a4_0, .int .i32 a4_1]] (by rfl) rfl rfl (by (try simp only [List.map_toArray, List.map_cons, List.map_nil]); first | done | rfl | (simp only [List.length_drop, List.length_take]; rfl)) ?_
      with_reducible refine (billiardlaw13_move.calls a1_0 a1_1 a4_0 a4_1 t264 t265 _ A107.out).mono ?_
      rintro e w123 ⟨rfl, hb⟩
      refine ⟨_, rfl, ?_⟩
      have n_ := kB5 BK254 BK255 BK256 BK257 BK258 HB (by repeat first | exact lR _ _ | apply lN | apply lD | apply lA) hb
      clear BK254 BK255 BK256 BK257 BK258 HB
      obtain ⟨BK254, BK255, BK256, BK257, BK258, HB⟩ := n_
      (try clear hb)
      (try clear hb2)
      (try clear hk)
      (try clear hi)
      refine hK.out _ _ ⟨bC BK254.out 0, bC BK254.out 1, bC BK258.out 0, bC BK258.out 1, bC BK255.out 0, bC BK255.out 1, bC BK256.out 0, bC BK256.out 1, bC BK257.out 0, bC BK257.out 1⟩ (fun hHeld => ?_)
      clear hK K
      refine norm_ (a' := ?_) ?_ ?_
      rotate_left
      ·show Act.put _ (some 51) _ = _
       simp only [Act.put, sA, sB, sC, i64_w, i32_w]
       rfl
      refine one_ (i := 8) (N := some 54) #[T,T,T,T,T,T,T,T,T,T,T,F,F,F] rfl rfl (one_of HT_.out (by kernel_rfl)) (by decide) (fun K hK => ?_)
      refine goes_ Try.func15 (by kernel_rfl) rfl #[.agg #[.int .i32 a2_0, .int .i32 a2_1], .agg #[.int .i32 a4_0, .int .i32 a4_1]] (by rfl) rfl rfl (by (try simp only [List.map_toArray, List.map_cons, List.map_nil]); first | done | rfl | (simp only [List.length_drop, List.length_take]; rfl)) ?_
      with_reducible refine (billiardlaw13_move.calls a2_0 a2_1 a4_0 a4_1 t266 t267 _ A108.out).mono ?_
      rintro e w124 ⟨rfl, hb⟩
      refine ⟨_, rfl, ?_⟩
      have n_ := kB5 BK254 BK255 BK256 BK257 BK258 HB (by repeat first | exact lR _ _ | apply lN | apply lD | apply lA) hb
      clear BK254 BK255 BK256 BK257 BK258 HB
      obtain ⟨BK254, BK255, BK256, BK257, BK258, HB⟩ := n_
      (try clear hb)
      (try clear hb2)
      (try clear hk)
      (try clear hi)
      refine hK.out _ _ ⟨bC BK254.out 0, bC BK254.out 1, bC BK258.out 0, bC BK258.out 1, bC BK255.out 0, bC BK255.out 1, bC BK256.out 0, bC BK256.out 1, bC BK257.out 0, bC BK257.out 1⟩ (fun hHeld => ?_)
      clear hK K
      refine norm_ (a' := ?_) ?_ ?_
      rotate_left
      ·show Act.put _ (some 54) _ = _
       simp only [Act.put, sA, sB, sC, i64_w, i32_w]
       rfl
      refine one_ (i := 11) (N := some 57) #[T,T,T,T,T,T,T,T,T,T,T,T,F,F] rfl rfl (one_of HT_.out (by kernel_rfl)) (by decide) (fun K hK => ?_)
      refine goes_ Try.func15 (by kernel_rfl) rfl #[.agg #[.int .i32 a3_0, .int .i32 a3_1], .agg #[.int .i32 a4_0, .int .i32 a4_1]] (by rfl) rfl rfl (by (try simp only [List.map_toArray, List.map_cons, List.map_nil]); first | done | rfl | (simp only [List.length_drop, List.length_take]; rfl)) ?_
      with_reducible refine (billiardlaw13_move.calls a3_0 a3_1 a4_0 a4_1 t268 t269 _ A109.out).mono ?_
      rintro e w125 ⟨rfl, hb⟩
      refine ⟨_, rfl, ?_⟩
      have n_ := kB5 BK254 BK255 BK256 BK257 BK258 HB (by repeat first | exact lR _ _ | apply lN | apply lD | apply lA) hb
      clear BK254 BK255 BK256 BK257 BK258 HB
      obtain ⟨BK254, BK255, BK256, BK257, BK258, HB⟩ := n_
      (try clear hb)
      (try clear hb2)
      (try clear hk)
      (try clear hi)
      refine hK.out _ _ ⟨bC BK254.out 0, bC BK254.out 1, bC BK258.out 0, bC BK258.out 1, bC BK255.out 0, bC BK255.out 1, bC BK256.out 0, bC BK256.out 1, bC BK257.out 0, bC BK257.out 1⟩ (fun hHeld => ?_)
      clear hK K
      refine norm_ (a' := ?_) ?_ ?_
      rotate_left
      ·show Act.put _ (some 57) _ = _
       simp only [Act.put, sA, sB, sC, i64_w, i32_w]
       rfl
      refine one_ (i := 12) (N := some 58) #[T,T,T,T,T,T,T,T,T,T,T,T,T,F] rfl rfl (one_of HT_.out (by kernel_rfl)) (by decide) (fun K hK => ?_)
      refine goes_ Try.func9 (by kernel_rfl) rfl #[.agg #[.int .i32 t262, .int .i32 t263], .agg #[.int .i32 t264, .int .i32 t265], .agg #[.int .i32 t266, .int .i32 t267], .agg #[.int .i32 t268, .int .i32 t269]] (by rfl) rfl rfl (by (try simp only [List.map_toArray, List.map_cons, List.map_nil]); first | done | rfl | (simp only [List.length_drop, List.length_take]; rfl)) ?_
      with_reducible refine (billiardref13_Right.calls t262 t263 t264 t265 t266 t267 t268 t269 true _ A110.out).mono ?_
      rintro e w126 ⟨rfl, hb⟩
      refine ⟨_, rfl, ?_⟩
      have n_ := kB5 BK254 BK255 BK256 BK257 BK258 HB (by repeat first | exact lR _ _ | apply lN | apply lD | apply lA) hb
      clear BK254 BK255 BK256 BK257 BK258 HB
      obtain ⟨BK254, BK255, BK256, BK257, BK258, HB⟩ := n_
      (try clear hb)
      (try clear hb2)
      (try clear hk)
      (try clear hi)
      refine hK.out _ _ ⟨bC BK254.out 0, bC BK254.out 1, bC BK258.out 0, bC BK258.out 1, bC BK255.out 0, bC BK255.out 1, bC BK256.out 0, bC BK256.out 1, bC BK257.out 0, bC BK257.out 1⟩ (fun hHeld => ?_)
      clear hK K
      refine norm_ (a' := ?_) ?_ ?_
      rotate_left
      ·show Act.put _ (some 58) _ = _
       simp only [Act.put, sA, sB, sC, i64_w, i32_w]
       rfl
      refine pure_ (i := 13) (N := some 59) (v := ?_) (a' := ?_) #[T,T,T,T,T,T,T,T,T,T,T,T,T,T] rfl rfl (any_of HT_.out (by kernel_rfl)) (fun _ _ _ h => h) (Or.inl ⟨by rfl, ?_⟩) ?_ ?_
      rotate_left
      ·intro w'
       go_simp
       with_reducible rfl
      rotate_left
      ·simp only [Act.put, sA, sB, sC, i64_w, i32_w]
       rfl
      refine done_ (done_of HT_.out (by kernel_rfl)) ?_
      have hnb127 := N0_.out
      have hnc127 := N1_.out
      have hnb128 := N2_.out
      have hnc128 := N3_.out
      have hnb129 := N6_.out
      have hnc129 := N7_.out
      have hnb130 := N12_.out
      have hnc130 := N13_.out
      have hcz131_0 : w126.cell? ⟨b254, 0, none⟩ = some (.int .i32 a0_0) := (bC BK254.out 0).trans rfl
      have hcz131_1 : w126.cell? ⟨b254, 1, none⟩ = some (.int .i32 a0_1) := (bC BK254.out 1).trans rfl
      have hfz131_0 := bF BK254.out 0
      have hfz131_1 := bF BK254.out 1
      have hnb132 := N4_.out
      have hnc132 := N5_.out
      have hnb133 := N8_.out
      have hnc133 := N9_.out
      have hnb134 := N14_.out
      have hnc134 := N15_.out
      have hcz135_0 : w126.cell? ⟨b255, 0, none⟩ = some (.int .i32 a1_0) := (bC BK255.out 0).trans rfl
      have hcz135_1 : w126.cell? ⟨b255, 1, none⟩ = some (.int .i32 a1_1) := (bC BK255.out 1).trans rfl
      have hfz135_0 := bF BK255.out 0
      have hfz135_1 := bF BK255.out 1
      have hnb136 := N10_.out
      have hnc136 := N11_.out
      have hnb137 := N16_.out
      have hnc137 := N17_.out
      have hcz138_0 : w126.cell? ⟨b256, 0, none⟩ = some (.int .i32 a2_0) := (bC BK256.out 0).trans rfl
      have hcz138_1 : w126.cell? ⟨b256, 1, none⟩ = some (.int .i32 a2_1) := (bC BK256.out 1).trans rfl
      have hfz138_0 := bF BK256.out 0
      have hfz138_1 := bF BK256.out 1
      have hnb139 := N18_.out
      have hnc139 := N19_.out
      have hcz140_0 : w126.cell? ⟨b257, 0, none⟩ = some (.int .i32 a3_0) := (bC BK257.out 0).trans rfl
      have hcz140_1 : w126.cell? ⟨b257, 1, none⟩ = some (.int .i32 a3_1) := (bC BK257.out 1).trans rfl
      have hfz140_0 := bF BK257.out 0
      have hfz140_1 := bF BK257.out 1
      try go_wp2_with (first | ((with_reducible refine gate_callee (f := 10) rfl ?_); refine goesL_ (some 65) rfl rfl Try.func10 (by kernel_rfl) rfl #[.agg #[.int .i32 a0_0, .int .i32 a0_1], .agg #[.int .i32 a1_0, .int .i32 a1_1], .agg #[.int .i32 a2_0, .int .i32 a2_1], .agg #[.int .i32 a3_0, .int .i32 a3_1]] rfl (by (try simp only [List.map_toArray, List.map_cons, List.map_nil]); first | done | rfl | (simp only [List.length_drop, List.length_take]; rfl)) ?_; (with_reducible refine (segment_Chosen.calls a0_0 a0_1 a1_0 a1_1 a2_0 a2_1 a3_0 a3_1 t271 t272 t273 t274 _ A112.out).mono ?_); rintro e w141 ⟨rfl, hb⟩; refine ⟨_, rfl, ?_⟩; have n_ := kB5 BK254 BK255 BK256 BK257 BK258 HB (by repeat first | exact lR _ _ | apply lN | apply lD | apply lA) hb; clear BK254 BK255 BK256 BK257 BK258 HB; obtain ⟨BK254, BK255, BK256, BK257, BK258, HB⟩ := n_; (try clear hb); (try clear hb2); (try clear hk); (try clear hi)) | ((with_reducible refine gate_dst (N := 11) rfl ?_); refine box_event ?hg (N := 11) ?hd (cs := #[.int .i32 0, .int .i32 0]) (t := 23) ?hr ?_; (case hd => rfl); (case hg => rfl); (case hr => first | (go_simp; done) | (go_simp; rfl)); intro b275 hg w142 hbox hb; have n0_ := aM (bB (by (with_reducible repeat first | apply bN | apply bD | apply bA); exact BK254.out) hb); have n1_ := aM (bB (by (with_reducible repeat first | apply bN | apply bD | apply bA); exact BK255.out) hb); have n2_ := aM (bB (by (with_reducible repeat first | apply bN | apply bD | apply bA); exact BK256.out) hb); have n3_ := aM (bB (by (with_reducible repeat first | apply bN | apply bD | apply bA); exact BK257.out) hb); have n4_ := aM (bB (by (with_reducible repeat first | apply bN | apply bD | apply bA); exact BK258.out) hb); have n5_ := aM (lT (by repeat (first | (with_reducible first | exact HB.out | apply lA | apply lN | apply lD | refine lS ?_ GE254.out | refine lS ?_ GE255.out | refine lS ?_ GE256.out | refine lS ?_ GE257.out | refine lS ?_ GE258.out) | exact HB.out)) hb); have n6_ := aM (hbox); have n7_ := aM ((by rw [hg]; exact (lZ (by repeat (first | (with_reducible first | exact HB.out | apply lA | apply lN | apply lD | refine lS ?_ GE254.out | refine lS ?_ GE255.out | refine lS ?_ GE256.out | refine lS ?_ GE257.out | refine lS ?_ GE258.out) | exact HB.out))) : w.heap.size ≤ b275)); have n8_ := aM ((by rw [hg]; exact (lZ (by repeat (first | (with_reducible first | exact HB.out | apply lA | apply lN | apply lD | refine lS ?_ GE254.out | refine lS ?_ GE255.out | refine lS ?_ GE256.out | refine lS ?_ GE257.out | refine lS ?_ GE258.out) | exact HB.out))) : w.heap.size ≤ b275)); have n9_ := aM ((by rw [hg]; exact Nat.ne_of_lt (bL (g := b254) (by (with_reducible repeat first | apply bN | apply bD | apply bA); exact BK254.out)) : b254 ≠ b275)); have n10_ := aM ((by rw [hg]; exact Nat.ne_of_gt (bL (g := b254) (by (with_reducible repeat first | apply bN | apply bD | apply bA); exact BK254.out)) : b275 ≠ b254)); have n11_ := aM ((by rw [hg]; exact Nat.ne_of_lt (bL (g := b255) (by (with_reducible repeat first | apply bN | apply bD | apply bA); exact BK255.out)) : b255 ≠ b275)); have n12_ := aM ((by rw [hg]; exact Nat.ne_of_gt (bL (g := b255) (by (with_reducible repeat first | apply bN | apply bD | apply bA); exact BK255.out)) : b275 ≠ b255)); have n13_ := aM ((by rw [hg]; exact Nat.ne_of_lt (bL (g := b256) (by (with_reducible repeat first | apply bN | apply bD | apply bA); exact BK256.out)) : b256 ≠ b275)); have n14_ := aM ((by rw [hg]; exact Nat.ne_of_gt (bL (g := b256) (by (with_reducible repeat first | apply bN | apply bD | apply bA); exact BK256.out)) : b275 ≠ b256)); have n15_ := aM ((by rw [hg]; exact Nat.ne_of_lt (bL (g := b257) (by (with_reducible repeat first | apply bN | apply bD | apply bA); exact BK257.out)) : b257 ≠ b275)); have n16_ := aM ((by rw [hg]; exact Nat.ne_of_gt (bL (g := b257) (by (with_reducible repeat first | apply bN | apply bD | apply bA); exact BK257.out)) : b275 ≠ b257)); have n17_ := aM ((by rw [hg]; exact Nat.ne_of_lt (bL (g := b258) (by (with_reducible repeat first | apply bN | apply bD | apply bA); exact BK258.out)) : b258 ≠ b275)); have n18_ := aM ((by rw [hg]; exact Nat.ne_of_gt (bL (g := b258) (by (with_reducible repeat first | apply bN | apply bD | apply bA); exact BK258.out)) : b275 ≠ b258)); clear BK254; clear BK255; clear BK256; clear BK257; clear BK258; clear HB; have BK254 := n0_; have BK255 := n1_; have BK256 := n2_; have BK257 := n3_; have BK258 := n4_; have HB := n5_; have BK275 := n6_; have GW275 := n7_; have GE275 := n8_; have N20_ := n9_; have N21_ := n10_; have N22_ := n11_; have N23_ := n12_; have N24_ := n13_; have N25_ := n14_; have N26_ := n15_; have N27_ := n16_; have N28_ := n17_; have N29_ := n18_; clear n0_ n1_ n2_ n3_ n4_ n5_ n6_ n7_ n8_ n9_ n10_ n11_ n12_ n13_ n14_ n15_ n16_ n17_ n18_; clear hb hbox hg) | ((with_reducible refine gate_dst (N := 12) rfl ?_); refine box_event ?hg (N := 12) ?hd (cs := #[.int .i32 0, .int .i32 0]) (t := 23) ?hr ?_; (case hd => rfl); (case hg => rfl); (case hr => first | (go_simp; done) | (go_simp; rfl)); intro b276 hg w143 hbox hb; have n0_ := aM (bB (by (with_reducible repeat first | apply bN | apply bD | apply bA); exact BK254.out) hb); have n1_ := aM (bB (by (with_reducible repeat first | apply bN | apply bD | apply bA); exact BK255.out) hb); have n2_ := aM (bB (by (with_reducible repeat first | apply bN | apply bD | apply bA); exact BK256.out) hb); have n3_ := aM (bB (by (with_reducible repeat first | apply bN | apply bD | apply bA); exact BK257.out) hb); have n4_ := aM (bB (by (with_reducible repeat first | apply bN | apply bD | apply bA); exact BK258.out) hb); have n5_ := aM (bB (by (with_reducible repeat first | apply bN | apply bD | apply bA); exact BK275.out) hb); have n6_ := aM (lT (by repeat (first | (with_reducible first | exact HB.out | apply lA | apply lN | apply lD | refine lS ?_ GE254.out | refine lS ?_ GE255.out | refine lS ?_ GE256.out | refine lS ?_ GE257.out | refine lS ?_ GE258.out | refine lS ?_ GE275.out) | exact HB.out)) hb); have n7_ := aM (hbox); have n8_ := aM ((by rw [hg]; exact (lZ (by repeat (first | (with_reducible first | exact HB.out | apply lA | apply lN | apply lD | refine lS ?_ GE254.out | refine lS ?_ GE255.out | refine lS ?_ GE256.out | refine lS ?_ GE257.out | refine lS ?_ GE258.out | refine lS ?_ GE275.out) | exact HB.out))) : w.heap.size ≤ b276)); have n9_ := aM ((by rw [hg]; exact (lZ (by repeat (first | (with_reducible first | exact HB.out | apply lA | apply lN | apply lD | refine lS ?_ GE254.out | refine lS ?_ GE255.out | refine lS ?_ GE256.out | refine lS ?_ GE257.out | refine lS ?_ GE258.out | refine lS ?_ GE275.out) | exact HB.out))) : w.heap.size ≤ b276)); have n10_ := aM ((by rw [hg]; exact Nat.ne_of_lt (bL (g := b254) (by (with_reducible repeat first | apply bN | apply bD | apply bA); exact BK254.out)) : b254 ≠ b276)); have n11_ := aM ((by rw [hg]; exact Nat.ne_of_gt (bL (g := b254) (by (with_reducible repeat first | apply bN | apply bD | apply bA); exact BK254.out)) : b276 ≠ b254)); have n12_ := aM ((by rw [hg]; exact Nat.ne_of_lt (bL (g := b255) (by (with_reducible repeat first | apply bN | apply bD | apply bA); exact BK255.out)) : b255 ≠ b276)); have n13_ := aM ((by rw [hg]; exact Nat.ne_of_gt (bL (g := b255) (by (with_reducible repeat first | apply bN | apply bD | apply bA); exact BK255.out)) : b276 ≠ b255)); have n14_ := aM ((by rw [hg]; exact Nat.ne_of_lt (bL (g := b256) (by (with_reducible repeat first | apply bN | apply bD | apply bA); exact BK256.out)) : b256 ≠ b276)); have n15_ := aM ((by rw [hg]; exact Nat.ne_of_gt (bL (g := b256) (by (with_reducible repeat first | apply bN | apply bD | apply bA); exact BK256.out)) : b276 ≠ b256)); have n16_ := aM ((by rw [hg]; exact Nat.ne_of_lt (bL (g := b257) (by (with_reducible repeat first | apply bN | apply bD | apply bA); exact BK257.out)) : b257 ≠ b276)); have n17_ := aM ((by rw [hg]; exact Nat.ne_of_gt (bL (g := b257) (by (with_reducible repeat first | apply bN | apply bD | apply bA); exact BK257.out)) : b276 ≠ b257)); have n18_ := aM ((by rw [hg]; exact Nat.ne_of_lt (bL (g := b258) (by (with_reducible repeat first | apply bN | apply bD | apply bA); exact BK258.out)) : b258 ≠ b276)); have n19_ := aM ((by rw [hg]; exact Nat.ne_of_gt (bL (g := b258) (by (with_reducible repeat first | apply bN | apply bD | apply bA); exact BK258.out)) : b276 ≠ b258)); have n20_ := aM ((by rw [hg]; exact Nat.ne_of_lt (bL (g := b275) (by (with_reducible repeat first | apply bN | apply bD | apply bA); exact BK275.out)) : b275 ≠ b276)); have n21_ := aM ((by rw [hg]; exact Nat.ne_of_gt (bL (g := b275) (by (with_reducible repeat first | apply bN | apply bD | apply bA); exact BK275.out)) : b276 ≠ b275)); clear BK254; clear BK255; clear BK256; clear BK257; clear BK258; clear BK275; clear HB; have BK254 := n0_; have BK255 := n1_; have BK256 := n2_; have BK257 := n3_; have BK258 := n4_; have BK275 := n5_; have HB := n6_; have BK276 := n7_; have GW276 := n8_; have GE276 := n9_; have N30_ := n10_; have N31_ := n11_; have N32_ := n12_; have N33_ := n13_; have N34_ := n14_; have N35_ := n15_; have N36_ := n16_; have N37_ := n17_; have N38_ := n18_; have N39_ := n19_; have N40_ := n20_; have N41_ := n21_; clear n0_ n1_ n2_ n3_ n4_ n5_ n6_ n7_ n8_ n9_ n10_ n11_ n12_ n13_ n14_ n15_ n16_ n17_ n18_ n19_ n20_ n21_; clear hb hbox hg; have hnb144 := N21_.out; have hnc144 := N20_.out; have hnb145 := N23_.out; have hnc145 := N22_.out; have hnb146 := N25_.out; have hnc146 := N24_.out; have hnb147 := N27_.out; have hnc147 := N26_.out; have hnb148 := N29_.out; have hnc148 := N28_.out; have hnb149 := N40_.out; have hnc149 := N41_.out; have hcz150_0 : w143.cell? ⟨b275, 0, none⟩ = some (.int .i32 0) := (bC BK275.out 0).trans rfl; have hcz150_1 : w143.cell? ⟨b275, 1, none⟩ = some (.int .i32 0) := (bC BK275.out 1).trans rfl; have hfz150_0 := bF BK275.out 0; have hfz150_1 := bF BK275.out 1; have hnb151 := N31_.out; have hnc151 := N30_.out; have hnb152 := N33_.out; have hnc152 := N32_.out; have hnb153 := N35_.out; have hnc153 := N34_.out; have hnb154 := N37_.out; have hnc154 := N36_.out; have hnb155 := N39_.out; have hnc155 := N38_.out; have hcz156_0 : w143.cell? ⟨b276, 0, none⟩ = some (.int .i32 0) := (bC BK276.out 0).trans rfl; have hcz156_1 : w143.cell? ⟨b276, 1, none⟩ = some (.int .i32 0) := (bC BK276.out 1).trans rfl; have hfz156_0 := bF BK276.out 0; have hfz156_1 := bF BK276.out 1))
      have n0_ : Aside0 (((((w143.setCell ⟨b275, 0, none⟩ (.int .i32 t271)).setCell ⟨b275, 1, none⟩ (.int .i32 t272)).setCell ⟨b276, 0, none⟩ (.int .i32 t273)).setCell ⟨b276, 1, none⟩ (.int .i32 t274)).heap[b254]? = some (.cells #[.int .i32 a0_0, .int .i32 a0_1] 23 (0, 0))) := ⟨by (with_reducible repeat first | apply bN | apply bD | apply bA); refine bR ?_ N30_.out _; (with_reducible repeat first | apply bN | apply bD | apply bA); refine bR ?_ N30_.out _; (with_reducible repeat first | apply bN | apply bD | apply bA); refine bR ?_ N20_.out _; (with_reducible repeat first | apply bN | apply bD | apply bA); refine bR ?_ N20_.out _; (with_reducible repeat first | apply bN | apply bD | apply bA); exact BK254.out⟩
      have n1_ : Aside0 (((((w143.setCell ⟨b275, 0, none⟩ (.int .i32 t271)).setCell ⟨b275, 1, none⟩ (.int .i32 t272)).setCell ⟨b276, 0, none⟩ (.int .i32 t273)).setCell ⟨b276, 1, none⟩ (.int .i32 t274)).heap[b255]? = some (.cells #[.int .i32 a1_0, .int .i32 a1_1] 23 (0, 0))) := ⟨by (with_reducible repeat first | apply bN | apply bD | apply bA); refine bR ?_ N32_.out _; (with_reducible repeat first | apply bN | apply bD | apply bA); refine bR ?_ N32_.out _; (with_reducible repeat first | apply bN | apply bD | apply bA); refine bR ?_ N22_.out _; (with_reducible repeat first | apply bN | apply bD | apply bA); refine bR ?_ N22_.out _; (with_reducible repeat first | apply bN | apply bD | apply bA); exact BK255.out⟩
      have n2_ : Aside0 (((((w143.setCell ⟨b275, 0, none⟩ (.int .i32 t271)).setCell ⟨b275, 1, none⟩ (.int .i32 t272)).setCell ⟨b276, 0, none⟩ (.int .i32 t273)).setCell ⟨b276, 1, none⟩ (.int .i32 t274)).heap[b256]? = some (.cells #[.int .i32 a2_0, .int .i32 a2_1] 23 (0, 0))) := ⟨by (with_reducible repeat first | apply bN | apply bD | apply bA); refine bR ?_ N34_.out _; (with_reducible repeat first | apply bN | apply bD | apply bA); refine bR ?_ N34_.out _; (with_reducible repeat first | apply bN | apply bD | apply bA); refine bR ?_ N24_.out _; (with_reducible repeat first | apply bN | apply bD | apply bA); refine bR ?_ N24_.out _; (with_reducible repeat first | apply bN | apply bD | apply bA); exact BK256.out⟩
      have n3_ : Aside0 (((((w143.setCell ⟨b275, 0, none⟩ (.int .i32 t271)).setCell ⟨b275, 1, none⟩ (.int .i32 t272)).setCell ⟨b276, 0, none⟩ (.int .i32 t273)).setCell ⟨b276, 1, none⟩ (.int .i32 t274)).heap[b257]? = some (.cells #[.int .i32 a3_0, .int .i32 a3_1] 23 (0, 0))) := ⟨by (with_reducible repeat first | apply bN | apply bD | apply bA); refine bR ?_ N36_.out _; (with_reducible repeat first | apply bN | apply bD | apply bA); refine bR ?_ N36_.out _; (with_reducible repeat first | apply bN | apply bD | apply bA); refine bR ?_ N26_.out _; (with_reducible repeat first | apply bN | apply bD | apply bA); refine bR ?_ N26_.out _; (with_reducible repeat first | apply bN | apply bD | apply bA); exact BK257.out⟩
      have n4_ : Aside0 (((((w143.setCell ⟨b275, 0, none⟩ (.int .i32 t271)).setCell ⟨b275, 1, none⟩ (.int .i32 t272)).setCell ⟨b276, 0, none⟩ (.int .i32 t273)).setCell ⟨b276, 1, none⟩ (.int .i32 t274)).heap[b258]? = some (.cells #[.int .i32 a4_0, .int .i32 a4_1] 23 (0, 0))) := ⟨by (with_reducible repeat first | apply bN | apply bD | apply bA); refine bR ?_ N38_.out _; (with_reducible repeat first | apply bN | apply bD | apply bA); refine bR ?_ N38_.out _; (with_reducible repeat first | apply bN | apply bD | apply bA); refine bR ?_ N28_.out _; (with_reducible repeat first | apply bN | apply bD | apply bA); refine bR ?_ N28_.out _; (with_reducible repeat first | apply bN | apply bD | apply bA); exact BK258.out⟩
      have n5_ : Aside0 (((((w143.setCell ⟨b275, 0, none⟩ (.int .i32 t271)).setCell ⟨b275, 1, none⟩ (.int .i32 t272)).setCell ⟨b276, 0, none⟩ (.int .i32 t273)).setCell ⟨b276, 1, none⟩ (.int .i32 t274)).heap[b275]? = some (.cells #[.int .i32 t271, .int .i32 t272] 23 (0, 0))) := ⟨by (with_reducible repeat first | apply bN | apply bD | apply bA); refine bR ?_ N40_.out _; (with_reducible repeat first | apply bN | apply bD | apply bA); refine bR ?_ N40_.out _; (with_reducible repeat first | apply bN | apply bD | apply bA); refine bP (cs := #[.int .i32 t271, .int .i32 0]) ?_ 1 _ rfl; (with_reducible repeat first | apply bN | apply bD | apply bA); refine bP (cs := #[.int .i32 0, .int .i32 0]) ?_ 0 _ rfl; (with_reducible repeat first | apply bN | apply bD | apply bA); exact BK275.out⟩
      have n6_ : Aside0 (((((w143.setCell ⟨b275, 0, none⟩ (.int .i32 t271)).setCell ⟨b275, 1, none⟩ (.int .i32 t272)).setCell ⟨b276, 0, none⟩ (.int .i32 t273)).setCell ⟨b276, 1, none⟩ (.int .i32 t274)).heap[b276]? = some (.cells #[.int .i32 t273, .int .i32 t274] 23 (0, 0))) := ⟨by (with_reducible repeat first | apply bN | apply bD | apply bA); refine bP (cs := #[.int .i32 t273, .int .i32 0]) ?_ 1 _ rfl; (with_reducible repeat first | apply bN | apply bD | apply bA); refine bP (cs := #[.int .i32 0, .int .i32 0]) ?_ 0 _ rfl; (with_reducible repeat first | apply bN | apply bD | apply bA); refine bR ?_ N41_.out _; (with_reducible repeat first | apply bN | apply bD | apply bA); refine bR ?_ N41_.out _; (with_reducible repeat first | apply bN | apply bD | apply bA); exact BK276.out⟩
      have n7_ : Aside0 (Below w.heap.size w ((((w143.setCell ⟨b275, 0, none⟩ (.int .i32 t271)).setCell ⟨b275, 1, none⟩ (.int .i32 t272)).setCell ⟨b276, 0, none⟩ (.int .i32 t273)).setCell ⟨b276, 1, none⟩ (.int .i32 t274))) := ⟨by repeat (first | (with_reducible first | exact HB.out | apply lA | apply lN | apply lD | refine lS ?_ GE254.out | refine lS ?_ GE255.out | refine lS ?_ GE256.out | refine lS ?_ GE257.out | refine lS ?_ GE258.out | refine lS ?_ GE275.out | refine lS ?_ GE276.out) | exact HB.out)⟩
      (try clear BK254)
      (try clear BK255)
      (try clear BK256)
      (try clear BK257)
      (try clear BK258)
      (try clear BK275)
      (try clear BK276)
      (try clear HB)
      generalize ((((w143.setCell ⟨b275, 0, none⟩ (.int .i32 t271)).setCell ⟨b275, 1, none⟩ (.int .i32 t272)).setCell ⟨b276, 0, none⟩ (.int .i32 t273)).setCell ⟨b276, 1, none⟩ (.int .i32 t274)) = w157 at n0_ n1_ n2_ n3_ n4_ n5_ n6_ n7_ ⊢
      have BK254 := n0_
      have BK255 := n1_
      have BK256 := n2_
      have BK257 := n3_
      have BK258 := n4_
      have BK275 := n5_
      have BK276 := n6_
      have HB := n7_
      clear n0_ n1_ n2_ n3_ n4_ n5_ n6_ n7_
      have n_ := kA7 BK254 BK255 BK256 BK257 BK258 BK275 BK276 HB (lD (lR _ _))
      clear BK254 BK255 BK256 BK257 BK258 BK275 BK276 HB
      obtain ⟨BK254, BK255, BK256, BK257, BK258, BK275, BK276, HB⟩ := n_
      refine start_ (n := 20) (S := fun w' => w'.cell? ⟨b254, 0, none⟩ = some (.int .i32 a0_0) ∧ w'.cell? ⟨b254, 1, none⟩ = some (.int .i32 a0_1) ∧ w'.cell? ⟨b258, 0, none⟩ = some (.int .i32 a4_0) ∧ w'.cell? ⟨b258, 1, none⟩ = some (.int .i32 a4_1) ∧ w'.cell? ⟨b255, 0, none⟩ = some (.int .i32 a1_0) ∧ w'.cell? ⟨b255, 1, none⟩ = some (.int .i32 a1_1) ∧ w'.cell? ⟨b256, 0, none⟩ = some (.int .i32 a2_0) ∧ w'.cell? ⟨b256, 1, none⟩ = some (.int .i32 a2_1) ∧ w'.cell? ⟨b257, 0, none⟩ = some (.int .i32 a3_0) ∧ w'.cell? ⟨b257, 1, none⟩ = some (.int .i32 a3_1)) (ds := []) #[F,F,F,F,F,F,F,F,F,F,F,F,F,F,F,F,F,F,F,F] (by kernel_rfl) rfl rfl ⟨(bC BK254.out 0).trans rfl, (bC BK254.out 1).trans rfl, (bC BK258.out 0).trans rfl, (bC BK258.out 1).trans rfl, (bC BK255.out 0).trans rfl, (bC BK255.out 1).trans rfl, (bC BK256.out 0).trans rfl, (bC BK256.out 1).trans rfl, (bC BK257.out 0).trans rfl, (bC BK257.out 1).trans rfl⟩ (fun hHeld => ?_); refine with_tabW billiardlaw13_SegmentMoves.tab6 billiardlaw13_SegmentMoves.bits6 (fun HT_ HW_ => ?_)
      generalize w157.drew = w158 at BK254 BK255 BK256 BK257 BK258 BK275 BK276 HB hHeld ⊢
      refine take_ (i := 0) (N := some 69) (v := ?_) (a' := ?_) #[T,F,F,F,F,F,F,F,F,F,F,F,F,F,F,F,F,F,F,F] rfl rfl (take_ofW HT_.out HW_.out (by kernel_rfl)) (fun _ _ _ h => h) (Or.inl ⟨by rfl, ?_⟩) hHeld ?_ ?_
      rotate_left
      ·rintro w' ⟨s0, s1, s2, s3, s4, s5, s6, s7, s8, s9⟩
       go_simp
       with_reducible rfl
      rotate_left
      ·simp only [Act.put, sA, sB, sC, i64_w, i32_w]
       rfl
      refine take_ (i := 1) (N := some 70) (v := ?_) (a' := ?_) #[T,T,F,F,F,F,F,F,F,F,F,F,F,F,F,F,F,F,F,F] rfl rfl (take_ofW HT_.out HW_.out (by kernel_rfl)) (fun _ _ _ h => h) (Or.inl ⟨by rfl, ?_⟩) hHeld ?_ ?_
      rotate_left
      ·rintro w' ⟨s0, s1, s2, s3, s4, s5, s6, s7, s8, s9⟩
       go_simp
       with_reducible rfl
      rotate_left
      ·simp only [Act.put, sA, sB, sC, i64_w, i32_w]
       rfl
      refine take_ (i := 3) (N := some 72) (v := ?_) (a' := ?_) #[T,T,F,T,F,F,F,F,F,F,F,F,F,F,F,F,F,F,F,F] rfl rfl (take_ofW HT_.out HW_.out (by kernel_rfl)) (fun _ _ _ h => h) (Or.inl ⟨by rfl, ?_⟩) hHeld ?_ ?_
      rotate_left
      ·rintro w' ⟨s0, s1, s2, s3, s4, s5, s6, s7, s8, s9⟩
       go_simp
       with_reducible rfl
      rotate_left
      ·simp only [Act.put, sA, sB, sC, i64_w, i32_w]
       rfl
      refine take_ (i := 4) (N := some 73) (v := ?_) (a' := ?_) #[T,T,F,T,T,F,F,F,F,F,F,F,F,F,F,F,F,F,F,F] rfl rfl (take_ofW HT_.out HW_.out (by kernel_rfl)) (fun _ _ _ h => h) (Or.inl ⟨by rfl, ?_⟩) hHeld ?_ ?_
      rotate_left
      ·rintro w' ⟨s0, s1, s2, s3, s4, s5, s6, s7, s8, s9⟩
       go_simp
       with_reducible rfl
      rotate_left
      ·simp only [Act.put, sA, sB, sC, i64_w, i32_w]
       rfl
      refine take_ (i := 6) (N := some 75) (v := ?_) (a' := ?_) #[T,T,F,T,T,F,T,F,F,F,F,F,F,F,F,F,F,F,F,F] rfl rfl (take_ofW HT_.out HW_.out (by kernel_rfl)) (fun _ _ _ h => h) (Or.inl ⟨by rfl, ?_⟩) hHeld ?_ ?_
      rotate_left
      ·rintro w' ⟨s0, s1, s2, s3, s4, s5, s6, s7, s8, s9⟩
       go_simp
       with_reducible rfl
      rotate_left
      ·simp only [Act.put, sA, sB, sC, i64_w, i32_w]
       rfl
      refine take_ (i := 7) (N := some 76) (v := ?_) (a' := ?_) #[T,T,F,T,T,F,T,T,F,F,F,F,F,F,F,F,F,F,F,F] rfl rfl (take_ofW HT_.out HW_.out (by kernel_rfl)) (fun _ _ _ h => h) (Or.inl ⟨by rfl, ?_⟩) hHeld ?_ ?_
      rotate_left
      ·rintro w' ⟨s0, s1, s2, s3, s4, s5, s6, s7, s8, s9⟩
       go_simp
       with_reducible rfl
      rotate_left
      ·simp only [Act.put, sA, sB, sC, i64_w, i32_w]
       rfl
      refine take_ (i := 9) (N := some 78) (v := ?_) (a' := ?_) #[T,T,F,T,T,F,T,T,F,T,F,F,F,F,F,F,F,F,F,F] rfl rfl (take_ofW HT_.out HW_.out (by kernel_rfl)) (fun _ _ _ h => h) (Or.inl ⟨by rfl, ?_⟩) hHeld ?_ ?_
      rotate_left
      ·rintro w' ⟨s0, s1, s2, s3, s4, s5, s6, s7, s8, s9⟩
       go_simp
       with_reducible rfl
      rotate_left
      ·simp only [Act.put, sA, sB, sC, i64_w, i32_w]
       rfl
      refine take_ (i := 10) (N := some 79) (v := ?_) (a' := ?_) #[T,T,F,T,T,F,T,T,F,T,T,F,F,F,F,F,F,F,F,F] rfl rfl (take_ofW HT_.out HW_.out (by kernel_rfl)) (fun _ _ _ h => h) (Or.inl ⟨by rfl, ?_⟩) hHeld ?_ ?_
      rotate_left
      ·rintro w' ⟨s0, s1, s2, s3, s4, s5, s6, s7, s8, s9⟩
       go_simp
       with_reducible rfl
      rotate_left
      ·simp only [Act.put, sA, sB, sC, i64_w, i32_w]
       rfl
      refine join_ (σ := Nat × Nat) 2 #[T,T,T,T,T,T,T,T,T,T,T,T,T,T,T,T,T,T,F,F] (fun s_ => [(71, .agg #[.int .i32 t277, .int .i32 t278]), (74, .agg #[.int .i32 t279, .int .i32 t280]), (77, .agg #[.int .i32 t281, .int .i32 t282]), (80, .agg #[.int .i32 t283, .int .i32 t284]), (81, .tuple #[.agg #[.int .i32 t285, .int .i32 t286], .agg #[.int .i32 t287, .int .i32 t288]]), (13, .pointer (some ⟨s_.1, 0, none⟩)), (14, .pointer (some ⟨s_.2, 0, none⟩)), (68, .tuple #[.agg #[.int .i32 t285, .int .i32 t286], .agg #[.int .i32 t287, .int .i32 t288]]), (82, .agg #[.int .i32 t285, .int .i32 t286]), (83, .agg #[.int .i32 t287, .int .i32 t288])]) (fun s_ w' => (w'.cell? ⟨b254, 0, none⟩ = some (.int .i32 a0_0) ∧ w'.cell? ⟨b254, 1, none⟩ = some (.int .i32 a0_1) ∧ w'.cell? ⟨b258, 0, none⟩ = some (.int .i32 a4_0) ∧ w'.cell? ⟨b258, 1, none⟩ = some (.int .i32 a4_1) ∧ w'.cell? ⟨b255, 0, none⟩ = some (.int .i32 a1_0) ∧ w'.cell? ⟨b255, 1, none⟩ = some (.int .i32 a1_1) ∧ w'.cell? ⟨b256, 0, none⟩ = some (.int .i32 a2_0) ∧ w'.cell? ⟨b256, 1, none⟩ = some (.int .i32 a2_1) ∧ w'.cell? ⟨b257, 0, none⟩ = some (.int .i32 a3_0) ∧ w'.cell? ⟨b257, 1, none⟩ = some (.int .i32 a3_1)) ∧ (w'.heap[b254]? = some (.cells #[.int .i32 a0_0, .int .i32 a0_1] 23 (0, 0))) ∧ (w'.heap[b255]? = some (.cells #[.int .i32 a1_0, .int .i32 a1_1] 23 (0, 0))) ∧ (w'.heap[b256]? = some (.cells #[.int .i32 a2_0, .int .i32 a2_1] 23 (0, 0))) ∧ (w'.heap[b257]? = some (.cells #[.int .i32 a3_0, .int .i32 a3_1] 23 (0, 0))) ∧ (w'.heap[b258]? = some (.cells #[.int .i32 a4_0, .int .i32 a4_1] 23 (0, 0))) ∧ (w'.heap[b275]? = some (.cells #[.int .i32 t271, .int .i32 t272] 23 (0, 0))) ∧ (w'.heap[b276]? = some (.cells #[.int .i32 t273, .int .i32 t274] 23 (0, 0))) ∧ (w'.heap[s_.1]? = some (.cells #[.int .i32 0, .int .i32 0] 23 (0, 0))) ∧ (w'.heap[s_.2]? = some (.cells #[.int .i32 0, .int .i32 0] 23 (0, 0))) ∧ (w.heap.size ≤ s_.1) ∧ (w.heap.size ≤ s_.1) ∧ (b254 ≠ s_.1) ∧ (s_.1 ≠ b254) ∧ (b255 ≠ s_.1) ∧ (s_.1 ≠ b255) ∧ (b256 ≠ s_.1) ∧ (s_.1 ≠ b256) ∧ (b257 ≠ s_.1) ∧ (s_.1 ≠ b257) ∧ (b258 ≠ s_.1) ∧ (s_.1 ≠ b258) ∧ (b275 ≠ s_.1) ∧ (s_.1 ≠ b275) ∧ (b276 ≠ s_.1) ∧ (s_.1 ≠ b276) ∧ (s_.2 ≠ s_.1) ∧ (s_.1 ≠ s_.2) ∧ (w.heap.size ≤ s_.2) ∧ (w.heap.size ≤ s_.2) ∧ (b254 ≠ s_.2) ∧ (s_.2 ≠ b254) ∧ (b255 ≠ s_.2) ∧ (s_.2 ≠ b255) ∧ (b256 ≠ s_.2) ∧ (s_.2 ≠ b256) ∧ (b257 ≠ s_.2) ∧ (s_.2 ≠ b257) ∧ (b258 ≠ s_.2) ∧ (s_.2 ≠ b258) ∧ (b275 ≠ s_.2) ∧ (s_.2 ≠ b275) ∧ (b276 ≠ s_.2) ∧ (s_.2 ≠ b276) ∧ (Below w.heap.size w w')) ?_ ?_
      rotate_left
      ·intro hJ2_5_8_11_12_16_17
       refine join_ (σ := Nat) 3 #[T,T,T,T,T,T,T,T,T,T,T,T,T,T,T,T,T,F,F,F] (fun s_ => [(71, .agg #[.int .i32 t277, .int .i32 t278]), (74, .agg #[.int .i32 t279, .int .i32 t280]), (77, .agg #[.int .i32 t281, .int .i32 t282]), (80, .agg #[.int .i32 t283, .int .i32 t284]), (81, .tuple #[.agg #[.int .i32 t285, .int .i32 t286], .agg #[.int .i32 t287, .int .i32 t288]]), (13, .pointer (some ⟨s_, 0, none⟩)), (68, .tuple #[.agg #[.int .i32 t285, .int .i32 t286], .agg #[.int .i32 t287, .int .i32 t288]]), (82, .agg #[.int .i32 t285, .int .i32 t286]), (83, .agg #[.int .i32 t287, .int .i32 t288])]) (fun s_ w' => (w'.cell? ⟨b254, 0, none⟩ = some (.int .i32 a0_0) ∧ w'.cell? ⟨b254, 1, none⟩ = some (.int .i32 a0_1) ∧ w'.cell? ⟨b258, 0, none⟩ = some (.int .i32 a4_0) ∧ w'.cell? ⟨b258, 1, none⟩ = some (.int .i32 a4_1) ∧ w'.cell? ⟨b255, 0, none⟩ = some (.int .i32 a1_0) ∧ w'.cell? ⟨b255, 1, none⟩ = some (.int .i32 a1_1) ∧ w'.cell? ⟨b256, 0, none⟩ = some (.int .i32 a2_0) ∧ w'.cell? ⟨b256, 1, none⟩ = some (.int .i32 a2_1) ∧ w'.cell? ⟨b257, 0, none⟩ = some (.int .i32 a3_0) ∧ w'.cell? ⟨b257, 1, none⟩ = some (.int .i32 a3_1)) ∧ (w'.heap[b254]? = some (.cells #[.int .i32 a0_0, .int .i32 a0_1] 23 (0, 0))) ∧ (w'.heap[b255]? = some (.cells #[.int .i32 a1_0, .int .i32 a1_1] 23 (0, 0))) ∧ (w'.heap[b256]? = some (.cells #[.int .i32 a2_0, .int .i32 a2_1] 23 (0, 0))) ∧ (w'.heap[b257]? = some (.cells #[.int .i32 a3_0, .int .i32 a3_1] 23 (0, 0))) ∧ (w'.heap[b258]? = some (.cells #[.int .i32 a4_0, .int .i32 a4_1] 23 (0, 0))) ∧ (w'.heap[b275]? = some (.cells #[.int .i32 t271, .int .i32 t272] 23 (0, 0))) ∧ (w'.heap[b276]? = some (.cells #[.int .i32 t273, .int .i32 t274] 23 (0, 0))) ∧ (w'.heap[s_]? = some (.cells #[.int .i32 0, .int .i32 0] 23 (0, 0))) ∧ (w.heap.size ≤ s_) ∧ (w.heap.size ≤ s_) ∧ (b254 ≠ s_) ∧ (s_ ≠ b254) ∧ (b255 ≠ s_) ∧ (s_ ≠ b255) ∧ (b256 ≠ s_) ∧ (s_ ≠ b256) ∧ (b257 ≠ s_) ∧ (s_ ≠ b257) ∧ (b258 ≠ s_) ∧ (s_ ≠ b258) ∧ (b275 ≠ s_) ∧ (s_ ≠ b275) ∧ (b276 ≠ s_) ∧ (s_ ≠ b276) ∧ (Below w.heap.size w w')) ?_ ?_
       rotate_left
       ·intro hJ2_5_8_11_12_16
        refine join_ (σ := Nat) 3 #[T,T,T,T,T,T,T,T,T,T,T,T,T,T,T,T,F,T,F,F] (fun s_ => [(71, .agg #[.int .i32 t277, .int .i32 t278]), (74, .agg #[.int .i32 t279, .int .i32 t280]), (77, .agg #[.int .i32 t281, .int .i32 t282]), (80, .agg #[.int .i32 t283, .int .i32 t284]), (81, .tuple #[.agg #[.int .i32 t285, .int .i32 t286], .agg #[.int .i32 t287, .int .i32 t288]]), (14, .pointer (some ⟨s_, 0, none⟩)), (68, .tuple #[.agg #[.int .i32 t285, .int .i32 t286], .agg #[.int .i32 t287, .int .i32 t288]]), (82, .agg #[.int .i32 t285, .int .i32 t286]), (83, .agg #[.int .i32 t287, .int .i32 t288])]) (fun s_ w' => (w'.cell? ⟨b254, 0, none⟩ = some (.int .i32 a0_0) ∧ w'.cell? ⟨b254, 1, none⟩ = some (.int .i32 a0_1) ∧ w'.cell? ⟨b258, 0, none⟩ = some (.int .i32 a4_0) ∧ w'.cell? ⟨b258, 1, none⟩ = some (.int .i32 a4_1) ∧ w'.cell? ⟨b255, 0, none⟩ = some (.int .i32 a1_0) ∧ w'.cell? ⟨b255, 1, none⟩ = some (.int .i32 a1_1) ∧ w'.cell? ⟨b256, 0, none⟩ = some (.int .i32 a2_0) ∧ w'.cell? ⟨b256, 1, none⟩ = some (.int .i32 a2_1) ∧ w'.cell? ⟨b257, 0, none⟩ = some (.int .i32 a3_0) ∧ w'.cell? ⟨b257, 1, none⟩ = some (.int .i32 a3_1)) ∧ (w'.heap[b254]? = some (.cells #[.int .i32 a0_0, .int .i32 a0_1] 23 (0, 0))) ∧ (w'.heap[b255]? = some (.cells #[.int .i32 a1_0, .int .i32 a1_1] 23 (0, 0))) ∧ (w'.heap[b256]? = some (.cells #[.int .i32 a2_0, .int .i32 a2_1] 23 (0, 0))) ∧ (w'.heap[b257]? = some (.cells #[.int .i32 a3_0, .int .i32 a3_1] 23 (0, 0))) ∧ (w'.heap[b258]? = some (.cells #[.int .i32 a4_0, .int .i32 a4_1] 23 (0, 0))) ∧ (w'.heap[b275]? = some (.cells #[.int .i32 t271, .int .i32 t272] 23 (0, 0))) ∧ (w'.heap[b276]? = some (.cells #[.int .i32 t273, .int .i32 t274] 23 (0, 0))) ∧ (w'.heap[s_]? = some (.cells #[.int .i32 0, .int .i32 0] 23 (0, 0))) ∧ (w.heap.size ≤ s_) ∧ (w.heap.size ≤ s_) ∧ (b254 ≠ s_) ∧ (s_ ≠ b254) ∧ (b255 ≠ s_) ∧ (s_ ≠ b255) ∧ (b256 ≠ s_) ∧ (s_ ≠ b256) ∧ (b257 ≠ s_) ∧ (s_ ≠ b257) ∧ (b258 ≠ s_) ∧ (s_ ≠ b258) ∧ (b275 ≠ s_) ∧ (s_ ≠ b275) ∧ (b276 ≠ s_) ∧ (s_ ≠ b276) ∧ (Below w.heap.size w w')) ?_ ?_
        rotate_left
        ·intro hJ2_5_8_11_12_17
         refine join_ (σ := Nat × Nat) 6 #[T,T,T,T,T,T,T,T,T,T,T,T,F,F,F,F,T,T,F,F] (fun s_ => [(71, .agg #[.int .i32 t277, .int .i32 t278]), (74, .agg #[.int .i32 t279, .int .i32 t280]), (77, .agg #[.int .i32 t281, .int .i32 t282]), (80, .agg #[.int .i32 t283, .int .i32 t284]), (13, .pointer (some ⟨s_.1, 0, none⟩)), (14, .pointer (some ⟨s_.2, 0, none⟩))]) (fun s_ w' => (w'.cell? ⟨b254, 0, none⟩ = some (.int .i32 a0_0) ∧ w'.cell? ⟨b254, 1, none⟩ = some (.int .i32 a0_1) ∧ w'.cell? ⟨b258, 0, none⟩ = some (.int .i32 a4_0) ∧ w'.cell? ⟨b258, 1, none⟩ = some (.int .i32 a4_1) ∧ w'.cell? ⟨b255, 0, none⟩ = some (.int .i32 a1_0) ∧ w'.cell? ⟨b255, 1, none⟩ = some (.int .i32 a1_1) ∧ w'.cell? ⟨b256, 0, none⟩ = some (.int .i32 a2_0) ∧ w'.cell? ⟨b256, 1, none⟩ = some (.int .i32 a2_1) ∧ w'.cell? ⟨b257, 0, none⟩ = some (.int .i32 a3_0) ∧ w'.cell? ⟨b257, 1, none⟩ = some (.int .i32 a3_1)) ∧ (w'.heap[b254]? = some (.cells #[.int .i32 a0_0, .int .i32 a0_1] 23 (0, 0))) ∧ (w'.heap[b255]? = some (.cells #[.int .i32 a1_0, .int .i32 a1_1] 23 (0, 0))) ∧ (w'.heap[b256]? = some (.cells #[.int .i32 a2_0, .int .i32 a2_1] 23 (0, 0))) ∧ (w'.heap[b257]? = some (.cells #[.int .i32 a3_0, .int .i32 a3_1] 23 (0, 0))) ∧ (w'.heap[b258]? = some (.cells #[.int .i32 a4_0, .int .i32 a4_1] 23 (0, 0))) ∧ (w'.heap[b275]? = some (.cells #[.int .i32 t271, .int .i32 t272] 23 (0, 0))) ∧ (w'.heap[b276]? = some (.cells #[.int .i32 t273, .int .i32 t274] 23 (0, 0))) ∧ (w'.heap[s_.1]? = some (.cells #[.int .i32 0, .int .i32 0] 23 (0, 0))) ∧ (w'.heap[s_.2]? = some (.cells #[.int .i32 0, .int .i32 0] 23 (0, 0))) ∧ (w.heap.size ≤ s_.1) ∧ (w.heap.size ≤ s_.1) ∧ (b254 ≠ s_.1) ∧ (s_.1 ≠ b254) ∧ (b255 ≠ s_.1) ∧ (s_.1 ≠ b255) ∧ (b256 ≠ s_.1) ∧ (s_.1 ≠ b256) ∧ (b257 ≠ s_.1) ∧ (s_.1 ≠ b257) ∧ (b258 ≠ s_.1) ∧ (s_.1 ≠ b258) ∧ (b275 ≠ s_.1) ∧ (s_.1 ≠ b275) ∧ (b276 ≠ s_.1) ∧ (s_.1 ≠ b276) ∧ (s_.2 ≠ s_.1) ∧ (s_.1 ≠ s_.2) ∧ (w.heap.size ≤ s_.2) ∧ (w.heap.size ≤ s_.2) ∧ (b254 ≠ s_.2) ∧ (s_.2 ≠ b254) ∧ (b255 ≠ s_.2) ∧ (s_.2 ≠ b255) ∧ (b256 ≠ s_.2) ∧ (s_.2 ≠ b256) ∧ (b257 ≠ s_.2) ∧ (s_.2 ≠ b257) ∧ (b258 ≠ s_.2) ∧ (s_.2 ≠ b258) ∧ (b275 ≠ s_.2) ∧ (s_.2 ≠ b275) ∧ (b276 ≠ s_.2) ∧ (s_.2 ≠ b276) ∧ (Below w.heap.size w w')) ?_ ?_
         rotate_left
         ·intro hJ2_5_8_11_16_17
          refine join_ (σ := Unit) 4 #[T,T,T,T,T,T,T,T,T,T,T,T,T,T,T,T,F,F,F,F] (fun s_ => [(71, .agg #[.int .i32 t277, .int .i32 t278]), (74, .agg #[.int .i32 t279, .int .i32 t280]), (77, .agg #[.int .i32 t281, .int .i32 t282]), (80, .agg #[.int .i32 t283, .int .i32 t284]), (81, .tuple #[.agg #[.int .i32 t285, .int .i32 t286], .agg #[.int .i32 t287, .int .i32 t288]]), (68, .tuple #[.agg #[.int .i32 t285, .int .i32 t286], .agg #[.int .i32 t287, .int .i32 t288]]), (82, .agg #[.int .i32 t285, .int .i32 t286]), (83, .agg #[.int .i32 t287, .int .i32 t288])]) (fun s_ w' => (w'.cell? ⟨b254, 0, none⟩ = some (.int .i32 a0_0) ∧ w'.cell? ⟨b254, 1, none⟩ = some (.int .i32 a0_1) ∧ w'.cell? ⟨b258, 0, none⟩ = some (.int .i32 a4_0) ∧ w'.cell? ⟨b258, 1, none⟩ = some (.int .i32 a4_1) ∧ w'.cell? ⟨b255, 0, none⟩ = some (.int .i32 a1_0) ∧ w'.cell? ⟨b255, 1, none⟩ = some (.int .i32 a1_1) ∧ w'.cell? ⟨b256, 0, none⟩ = some (.int .i32 a2_0) ∧ w'.cell? ⟨b256, 1, none⟩ = some (.int .i32 a2_1) ∧ w'.cell? ⟨b257, 0, none⟩ = some (.int .i32 a3_0) ∧ w'.cell? ⟨b257, 1, none⟩ = some (.int .i32 a3_1)) ∧ (w'.heap[b254]? = some (.cells #[.int .i32 a0_0, .int .i32 a0_1] 23 (0, 0))) ∧ (w'.heap[b255]? = some (.cells #[.int .i32 a1_0, .int .i32 a1_1] 23 (0, 0))) ∧ (w'.heap[b256]? = some (.cells #[.int .i32 a2_0, .int .i32 a2_1] 23 (0, 0))) ∧ (w'.heap[b257]? = some (.cells #[.int .i32 a3_0, .int .i32 a3_1] 23 (0, 0))) ∧ (w'.heap[b258]? = some (.cells #[.int .i32 a4_0, .int .i32 a4_1] 23 (0, 0))) ∧ (w'.heap[b275]? = some (.cells #[.int .i32 t271, .int .i32 t272] 23 (0, 0))) ∧ (w'.heap[b276]? = some (.cells #[.int .i32 t273, .int .i32 t274] 23 (0, 0))) ∧ (Below w.heap.size w w')) ?_ ?_
          rotate_left
          ·intro hJ2_5_8_11_12
           refine join_ (σ := Nat) 7 #[T,T,T,T,T,T,T,T,T,T,T,T,F,F,F,F,T,F,F,F] (fun s_ => [(71, .agg #[.int .i32 t277, .int .i32 t278]), (74, .agg #[.int .i32 t279, .int .i32 t280]), (77, .agg #[.int .i32 t281, .int .i32 t282]), (80, .agg #[.int .i32 t283, .int .i32 t284]), (13, .pointer (some ⟨s_, 0, none⟩))]) (fun s_ w' => (w'.cell? ⟨b254, 0, none⟩ = some (.int .i32 a0_0) ∧ w'.cell? ⟨b254, 1, none⟩ = some (.int .i32 a0_1) ∧ w'.cell? ⟨b258, 0, none⟩ = some (.int .i32 a4_0) ∧ w'.cell? ⟨b258, 1, none⟩ = some (.int .i32 a4_1) ∧ w'.cell? ⟨b255, 0, none⟩ = some (.int .i32 a1_0) ∧ w'.cell? ⟨b255, 1, none⟩ = some (.int .i32 a1_1) ∧ w'.cell? ⟨b256, 0, none⟩ = some (.int .i32 a2_0) ∧ w'.cell? ⟨b256, 1, none⟩ = some (.int .i32 a2_1) ∧ w'.cell? ⟨b257, 0, none⟩ = some (.int .i32 a3_0) ∧ w'.cell? ⟨b257, 1, none⟩ = some (.int .i32 a3_1)) ∧ (w'.heap[b254]? = some (.cells #[.int .i32 a0_0, .int .i32 a0_1] 23 (0, 0))) ∧ (w'.heap[b255]? = some (.cells #[.int .i32 a1_0, .int .i32 a1_1] 23 (0, 0))) ∧ (w'.heap[b256]? = some (.cells #[.int .i32 a2_0, .int .i32 a2_1] 23 (0, 0))) ∧ (w'.heap[b257]? = some (.cells #[.int .i32 a3_0, .int .i32 a3_1] 23 (0, 0))) ∧ (w'.heap[b258]? = some (.cells #[.int .i32 a4_0, .int .i32 a4_1] 23 (0, 0))) ∧ (w'.heap[b275]? = some (.cells #[.int .i32 t271, .int .i32 t272] 23 (0, 0))) ∧ (w'.heap[b276]? = some (.cells #[.int .i32 t273, .int .i32 t274] 23 (0, 0))) ∧ (w'.heap[s_]? = some (.cells #[.int .i32 0, .int .i32 0] 23 (0, 0))) ∧ (w.heap.size ≤ s_) ∧ (w.heap.size ≤ s_) ∧ (b254 ≠ s_) ∧ (s_ ≠ b254) ∧ (b255 ≠ s_) ∧ (s_ ≠ b255) ∧ (b256 ≠ s_) ∧ (s_ ≠ b256) ∧ (b257 ≠ s_) ∧ (s_ ≠ b257) ∧ (b258 ≠ s_) ∧ (s_ ≠ b258) ∧ (b275 ≠ s_) ∧ (s_ ≠ b275) ∧ (b276 ≠ s_) ∧ (s_ ≠ b276) ∧ (Below w.heap.size w w')) ?_ ?_
           rotate_left
           ·intro hJ2_5_8_11_16
            refine join_ (σ := Nat) 7 #[T,T,T,T,T,T,T,T,T,T,T,T,F,F,F,F,F,T,F,F] (fun s_ => [(71, .agg #[.int .i32 t277, .int .i32 t278]), (74, .agg #[.int .i32 t279, .int .i32 t280]), (77, .agg #[.int .i32 t281, .int .i32 t282]), (80, .agg #[.int .i32 t283, .int .i32 t284]), (14, .pointer (some ⟨s_, 0, none⟩))]) (fun s_ w' => (w'.cell? ⟨b254, 0, none⟩ = some (.int .i32 a0_0) ∧ w'.cell? ⟨b254, 1, none⟩ = some (.int .i32 a0_1) ∧ w'.cell? ⟨b258, 0, none⟩ = some (.int .i32 a4_0) ∧ w'.cell? ⟨b258, 1, none⟩ = some (.int .i32 a4_1) ∧ w'.cell? ⟨b255, 0, none⟩ = some (.int .i32 a1_0) ∧ w'.cell? ⟨b255, 1, none⟩ = some (.int .i32 a1_1) ∧ w'.cell? ⟨b256, 0, none⟩ = some (.int .i32 a2_0) ∧ w'.cell? ⟨b256, 1, none⟩ = some (.int .i32 a2_1) ∧ w'.cell? ⟨b257, 0, none⟩ = some (.int .i32 a3_0) ∧ w'.cell? ⟨b257, 1, none⟩ = some (.int .i32 a3_1)) ∧ (w'.heap[b254]? = some (.cells #[.int .i32 a0_0, .int .i32 a0_1] 23 (0, 0))) ∧ (w'.heap[b255]? = some (.cells #[.int .i32 a1_0, .int .i32 a1_1] 23 (0, 0))) ∧ (w'.heap[b256]? = some (.cells #[.int .i32 a2_0, .int .i32 a2_1] 23 (0, 0))) ∧ (w'.heap[b257]? = some (.cells #[.int .i32 a3_0, .int .i32 a3_1] 23 (0, 0))) ∧ (w'.heap[b258]? = some (.cells #[.int .i32 a4_0, .int .i32 a4_1] 23 (0, 0))) ∧ (w'.heap[b275]? = some (.cells #[.int .i32 t271, .int .i32 t272] 23 (0, 0))) ∧ (w'.heap[b276]? = some (.cells #[.int .i32 t273, .int .i32 t274] 23 (0, 0))) ∧ (w'.heap[s_]? = some (.cells #[.int .i32 0, .int .i32 0] 23 (0, 0))) ∧ (w.heap.size ≤ s_) ∧ (w.heap.size ≤ s_) ∧ (b254 ≠ s_) ∧ (s_ ≠ b254) ∧ (b255 ≠ s_) ∧ (s_ ≠ b255) ∧ (b256 ≠ s_) ∧ (s_ ≠ b256) ∧ (b257 ≠ s_) ∧ (s_ ≠ b257) ∧ (b258 ≠ s_) ∧ (s_ ≠ b258) ∧ (b275 ≠ s_) ∧ (s_ ≠ b275) ∧ (b276 ≠ s_) ∧ (s_ ≠ b276) ∧ (Below w.heap.size w w')) ?_ ?_
            rotate_left
            ·intro hJ2_5_8_11_17
             refine join_ (σ := Nat × Nat) 7 #[T,T,T,T,T,T,T,T,T,T,T,F,F,F,F,F,T,T,F,F] (fun s_ => [(71, .agg #[.int .i32 t277, .int .i32 t278]), (74, .agg #[.int .i32 t279, .int .i32 t280]), (77, .agg #[.int .i32 t281, .int .i32 t282]), (13, .pointer (some ⟨s_.1, 0, none⟩)), (14, .pointer (some ⟨s_.2, 0, none⟩))]) (fun s_ w' => (w'.cell? ⟨b254, 0, none⟩ = some (.int .i32 a0_0) ∧ w'.cell? ⟨b254, 1, none⟩ = some (.int .i32 a0_1) ∧ w'.cell? ⟨b258, 0, none⟩ = some (.int .i32 a4_0) ∧ w'.cell? ⟨b258, 1, none⟩ = some (.int .i32 a4_1) ∧ w'.cell? ⟨b255, 0, none⟩ = some (.int .i32 a1_0) ∧ w'.cell? ⟨b255, 1, none⟩ = some (.int .i32 a1_1) ∧ w'.cell? ⟨b256, 0, none⟩ = some (.int .i32 a2_0) ∧ w'.cell? ⟨b256, 1, none⟩ = some (.int .i32 a2_1) ∧ w'.cell? ⟨b257, 0, none⟩ = some (.int .i32 a3_0) ∧ w'.cell? ⟨b257, 1, none⟩ = some (.int .i32 a3_1)) ∧ (w'.heap[b254]? = some (.cells #[.int .i32 a0_0, .int .i32 a0_1] 23 (0, 0))) ∧ (w'.heap[b255]? = some (.cells #[.int .i32 a1_0, .int .i32 a1_1] 23 (0, 0))) ∧ (w'.heap[b256]? = some (.cells #[.int .i32 a2_0, .int .i32 a2_1] 23 (0, 0))) ∧ (w'.heap[b257]? = some (.cells #[.int .i32 a3_0, .int .i32 a3_1] 23 (0, 0))) ∧ (w'.heap[b258]? = some (.cells #[.int .i32 a4_0, .int .i32 a4_1] 23 (0, 0))) ∧ (w'.heap[b275]? = some (.cells #[.int .i32 t271, .int .i32 t272] 23 (0, 0))) ∧ (w'.heap[b276]? = some (.cells #[.int .i32 t273, .int .i32 t274] 23 (0, 0))) ∧ (w'.heap[s_.1]? = some (.cells #[.int .i32 0, .int .i32 0] 23 (0, 0))) ∧ (w'.heap[s_.2]? = some (.cells #[.int .i32 0, .int .i32 0] 23 (0, 0))) ∧ (w.heap.size ≤ s_.1) ∧ (w.heap.size ≤ s_.1) ∧ (b254 ≠ s_.1) ∧ (s_.1 ≠ b254) ∧ (b255 ≠ s_.1) ∧ (s_.1 ≠ b255) ∧ (b256 ≠ s_.1) ∧ (s_.1 ≠ b256) ∧ (b257 ≠ s_.1) ∧ (s_.1 ≠ b257) ∧ (b258 ≠ s_.1) ∧ (s_.1 ≠ b258) ∧ (b275 ≠ s_.1) ∧ (s_.1 ≠ b275) ∧ (b276 ≠ s_.1) ∧ (s_.1 ≠ b276) ∧ (s_.2 ≠ s_.1) ∧ (s_.1 ≠ s_.2) ∧ (w.heap.size ≤ s_.2) ∧ (w.heap.size ≤ s_.2) ∧ (b254 ≠ s_.2) ∧ (s_.2 ≠ b254) ∧ (b255 ≠ s_.2) ∧ (s_.2 ≠ b255) ∧ (b256 ≠ s_.2) ∧ (s_.2 ≠ b256) ∧ (b257 ≠ s_.2) ∧ (s_.2 ≠ b257) ∧ (b258 ≠ s_.2) ∧ (s_.2 ≠ b258) ∧ (b275 ≠ s_.2) ∧ (s_.2 ≠ b275) ∧ (b276 ≠ s_.2) ∧ (s_.2 ≠ b276) ∧ (Below w.heap.size w w')) ?_ ?_
             rotate_left
             ·intro hJ2_5_8_16_17
              refine join_ (σ := Unit) 8 #[T,T,T,T,T,T,T,T,T,T,T,T,F,F,F,F,F,F,F,F] (fun s_ => [(71, .agg #[.int .i32 t277, .int .i32 t278]), (74, .agg #[.int .i32 t279, .int .i32 t280]), (77, .agg #[.int .i32 t281, .int .i32 t282]), (80, .agg #[.int .i32 t283, .int .i32 t284])]) (fun s_ w' => (w'.cell? ⟨b254, 0, none⟩ = some (.int .i32 a0_0) ∧ w'.cell? ⟨b254, 1, none⟩ = some (.int .i32 a0_1) ∧ w'.cell? ⟨b258, 0, none⟩ = some (.int .i32 a4_0) ∧ w'.cell? ⟨b258, 1, none⟩ = some (.int .i32 a4_1) ∧ w'.cell? ⟨b255, 0, none⟩ = some (.int .i32 a1_0) ∧ w'.cell? ⟨b255, 1, none⟩ = some (.int .i32 a1_1) ∧ w'.cell? ⟨b256, 0, none⟩ = some (.int .i32 a2_0) ∧ w'.cell? ⟨b256, 1, none⟩ = some (.int .i32 a2_1) ∧ w'.cell? ⟨b257, 0, none⟩ = some (.int .i32 a3_0) ∧ w'.cell? ⟨b257, 1, none⟩ = some (.int .i32 a3_1)) ∧ (w'.heap[b254]? = some (.cells #[.int .i32 a0_0, .int .i32 a0_1] 23 (0, 0))) ∧ (w'.heap[b255]? = some (.cells #[.int .i32 a1_0, .int .i32 a1_1] 23 (0, 0))) ∧ (w'.heap[b256]? = some (.cells #[.int .i32 a2_0, .int .i32 a2_1] 23 (0, 0))) ∧ (w'.heap[b257]? = some (.cells #[.int .i32 a3_0, .int .i32 a3_1] 23 (0, 0))) ∧ (w'.heap[b258]? = some (.cells #[.int .i32 a4_0, .int .i32 a4_1] 23 (0, 0))) ∧ (w'.heap[b275]? = some (.cells #[.int .i32 t271, .int .i32 t272] 23 (0, 0))) ∧ (w'.heap[b276]? = some (.cells #[.int .i32 t273, .int .i32 t274] 23 (0, 0))) ∧ (Below w.heap.size w w')) ?_ ?_
              rotate_left
              ·intro hJ2_5_8_11
               refine join_ (σ := Nat) 8 #[T,T,T,T,T,T,T,T,T,T,T,F,F,F,F,F,T,F,F,F] (fun s_ => [(71, .agg #[.int .i32 t277, .int .i32 t278]), (74, .agg #[.int .i32 t279, .int .i32 t280]), (77, .agg #[.int .i32 t281, .int .i32 t282]), (13, .pointer (some ⟨s_, 0, none⟩))]) (fun s_ w' => (w'.cell? ⟨b254, 0, none⟩ = some (.int .i32 a0_0) ∧ w'.cell? ⟨b254, 1, none⟩ = some (.int .i32 a0_1) ∧ w'.cell? ⟨b258, 0, none⟩ = some (.int .i32 a4_0) ∧ w'.cell? ⟨b258, 1, none⟩ = some (.int .i32 a4_1) ∧ w'.cell? ⟨b255, 0, none⟩ = some (.int .i32 a1_0) ∧ w'.cell? ⟨b255, 1, none⟩ = some (.int .i32 a1_1) ∧ w'.cell? ⟨b256, 0, none⟩ = some (.int .i32 a2_0) ∧ w'.cell? ⟨b256, 1, none⟩ = some (.int .i32 a2_1) ∧ w'.cell? ⟨b257, 0, none⟩ = some (.int .i32 a3_0) ∧ w'.cell? ⟨b257, 1, none⟩ = some (.int .i32 a3_1)) ∧ (w'.heap[b254]? = some (.cells #[.int .i32 a0_0, .int .i32 a0_1] 23 (0, 0))) ∧ (w'.heap[b255]? = some (.cells #[.int .i32 a1_0, .int .i32 a1_1] 23 (0, 0))) ∧ (w'.heap[b256]? = some (.cells #[.int .i32 a2_0, .int .i32 a2_1] 23 (0, 0))) ∧ (w'.heap[b257]? = some (.cells #[.int .i32 a3_0, .int .i32 a3_1] 23 (0, 0))) ∧ (w'.heap[b258]? = some (.cells #[.int .i32 a4_0, .int .i32 a4_1] 23 (0, 0))) ∧ (w'.heap[b275]? = some (.cells #[.int .i32 t271, .int .i32 t272] 23 (0, 0))) ∧ (w'.heap[b276]? = some (.cells #[.int .i32 t273, .int .i32 t274] 23 (0, 0))) ∧ (w'.heap[s_]? = some (.cells #[.int .i32 0, .int .i32 0] 23 (0, 0))) ∧ (w.heap.size ≤ s_) ∧ (w.heap.size ≤ s_) ∧ (b254 ≠ s_) ∧ (s_ ≠ b254) ∧ (b255 ≠ s_) ∧ (s_ ≠ b255) ∧ (b256 ≠ s_) ∧ (s_ ≠ b256) ∧ (b257 ≠ s_) ∧ (s_ ≠ b257) ∧ (b258 ≠ s_) ∧ (s_ ≠ b258) ∧ (b275 ≠ s_) ∧ (s_ ≠ b275) ∧ (b276 ≠ s_) ∧ (s_ ≠ b276) ∧ (Below w.heap.size w w')) ?_ ?_
               rotate_left
               ·intro hJ2_5_8_16
                refine join_ (σ := Nat) 8 #[T,T,T,T,T,T,T,T,T,T,T,F,F,F,F,F,F,T,F,F] (fun s_ => [(71, .agg #[.int .i32 t277, .int .i32 t278]), (74, .agg #[.int .i32 t279, .int .i32 t280]), (77, .agg #[.int .i32 t281, .int .i32 t282]), (14, .pointer (some ⟨s_, 0, none⟩))]) (fun s_ w' => (w'.cell? ⟨b254, 0, none⟩ = some (.int .i32 a0_0) ∧ w'.cell? ⟨b254, 1, none⟩ = some (.int .i32 a0_1) ∧ w'.cell? ⟨b258, 0, none⟩ = some (.int .i32 a4_0) ∧ w'.cell? ⟨b258, 1, none⟩ = some (.int .i32 a4_1) ∧ w'.cell? ⟨b255, 0, none⟩ = some (.int .i32 a1_0) ∧ w'.cell? ⟨b255, 1, none⟩ = some (.int .i32 a1_1) ∧ w'.cell? ⟨b256, 0, none⟩ = some (.int .i32 a2_0) ∧ w'.cell? ⟨b256, 1, none⟩ = some (.int .i32 a2_1) ∧ w'.cell? ⟨b257, 0, none⟩ = some (.int .i32 a3_0) ∧ w'.cell? ⟨b257, 1, none⟩ = some (.int .i32 a3_1)) ∧ (w'.heap[b254]? = some (.cells #[.int .i32 a0_0, .int .i32 a0_1] 23 (0, 0))) ∧ (w'.heap[b255]? = some (.cells #[.int .i32 a1_0, .int .i32 a1_1] 23 (0, 0))) ∧ (w'.heap[b256]? = some (.cells #[.int .i32 a2_0, .int .i32 a2_1] 23 (0, 0))) ∧ (w'.heap[b257]? = some (.cells #[.int .i32 a3_0, .int .i32 a3_1] 23 (0, 0))) ∧ (w'.heap[b258]? = some (.cells #[.int .i32 a4_0, .int .i32 a4_1] 23 (0, 0))) ∧ (w'.heap[b275]? = some (.cells #[.int .i32 t271, .int .i32 t272] 23 (0, 0))) ∧ (w'.heap[b276]? = some (.cells #[.int .i32 t273, .int .i32 t274] 23 (0, 0))) ∧ (w'.heap[s_]? = some (.cells #[.int .i32 0, .int .i32 0] 23 (0, 0))) ∧ (w.heap.size ≤ s_) ∧ (w.heap.size ≤ s_) ∧ (b254 ≠ s_) ∧ (s_ ≠ b254) ∧ (b255 ≠ s_) ∧ (s_ ≠ b255) ∧ (b256 ≠ s_) ∧ (s_ ≠ b256) ∧ (b257 ≠ s_) ∧ (s_ ≠ b257) ∧ (b258 ≠ s_) ∧ (s_ ≠ b258) ∧ (b275 ≠ s_) ∧ (s_ ≠ b275) ∧ (b276 ≠ s_) ∧ (s_ ≠ b276) ∧ (Below w.heap.size w w')) ?_ ?_
                rotate_left
                ·intro hJ2_5_8_17
                 refine join_ (σ := Nat × Nat) 8 #[T,T,T,T,T,T,T,T,F,T,T,F,F,F,F,F,T,T,F,F] (fun s_ => [(71, .agg #[.int .i32 t277, .int .i32 t278]), (74, .agg #[.int .i32 t279, .int .i32 t280]), (13, .pointer (some ⟨s_.1, 0, none⟩)), (14, .pointer (some ⟨s_.2, 0, none⟩))]) (fun s_ w' => (w'.cell? ⟨b254, 0, none⟩ = some (.int .i32 a0_0) ∧ w'.cell? ⟨b254, 1, none⟩ = some (.int .i32 a0_1) ∧ w'.cell? ⟨b258, 0, none⟩ = some (.int .i32 a4_0) ∧ w'.cell? ⟨b258, 1, none⟩ = some (.int .i32 a4_1) ∧ w'.cell? ⟨b255, 0, none⟩ = some (.int .i32 a1_0) ∧ w'.cell? ⟨b255, 1, none⟩ = some (.int .i32 a1_1) ∧ w'.cell? ⟨b256, 0, none⟩ = some (.int .i32 a2_0) ∧ w'.cell? ⟨b256, 1, none⟩ = some (.int .i32 a2_1) ∧ w'.cell? ⟨b257, 0, none⟩ = some (.int .i32 a3_0) ∧ w'.cell? ⟨b257, 1, none⟩ = some (.int .i32 a3_1)) ∧ (w'.heap[b254]? = some (.cells #[.int .i32 a0_0, .int .i32 a0_1] 23 (0, 0))) ∧ (w'.heap[b255]? = some (.cells #[.int .i32 a1_0, .int .i32 a1_1] 23 (0, 0))) ∧ (w'.heap[b256]? = some (.cells #[.int .i32 a2_0, .int .i32 a2_1] 23 (0, 0))) ∧ (w'.heap[b257]? = some (.cells #[.int .i32 a3_0, .int .i32 a3_1] 23 (0, 0))) ∧ (w'.heap[b258]? = some (.cells #[.int .i32 a4_0, .int .i32 a4_1] 23 (0, 0))) ∧ (w'.heap[b275]? = some (.cells #[.int .i32 t271, .int .i32 t272] 23 (0, 0))) ∧ (w'.heap[b276]? = some (.cells #[.int .i32 t273, .int .i32 t274] 23 (0, 0))) ∧ (w'.heap[s_.1]? = some (.cells #[.int .i32 0, .int .i32 0] 23 (0, 0))) ∧ (w'.heap[s_.2]? = some (.cells #[.int .i32 0, .int .i32 0] 23 (0, 0))) ∧ (w.heap.size ≤ s_.1) ∧ (w.heap.size ≤ s_.1) ∧ (b254 ≠ s_.1) ∧ (s_.1 ≠ b254) ∧ (b255 ≠ s_.1) ∧ (s_.1 ≠ b255) ∧ (b256 ≠ s_.1) ∧ (s_.1 ≠ b256) ∧ (b257 ≠ s_.1) ∧ (s_.1 ≠ b257) ∧ (b258 ≠ s_.1) ∧ (s_.1 ≠ b258) ∧ (b275 ≠ s_.1) ∧ (s_.1 ≠ b275) ∧ (b276 ≠ s_.1) ∧ (s_.1 ≠ b276) ∧ (s_.2 ≠ s_.1) ∧ (s_.1 ≠ s_.2) ∧ (w.heap.size ≤ s_.2) ∧ (w.heap.size ≤ s_.2) ∧ (b254 ≠ s_.2) ∧ (s_.2 ≠ b254) ∧ (b255 ≠ s_.2) ∧ (s_.2 ≠ b255) ∧ (b256 ≠ s_.2) ∧ (s_.2 ≠ b256) ∧ (b257 ≠ s_.2) ∧ (s_.2 ≠ b257) ∧ (b258 ≠ s_.2) ∧ (s_.2 ≠ b258) ∧ (b275 ≠ s_.2) ∧ (s_.2 ≠ b275) ∧ (b276 ≠ s_.2) ∧ (s_.2 ≠ b276) ∧ (Below w.heap.size w w')) ?_ ?_
                 rotate_left
                 ·intro hJ2_5_16_17
                  refine join_ (σ := Unit) 9 #[T,T,T,T,T,T,T,T,T,T,T,F,F,F,F,F,F,F,F,F] (fun s_ => [(71, .agg #[.int .i32 t277, .int .i32 t278]), (74, .agg #[.int .i32 t279, .int .i32 t280]), (77, .agg #[.int .i32 t281, .int .i32 t282])]) (fun s_ w' => (w'.cell? ⟨b254, 0, none⟩ = some (.int .i32 a0_0) ∧ w'.cell? ⟨b254, 1, none⟩ = some (.int .i32 a0_1) ∧ w'.cell? ⟨b258, 0, none⟩ = some (.int .i32 a4_0) ∧ w'.cell? ⟨b258, 1, none⟩ = some (.int .i32 a4_1) ∧ w'.cell? ⟨b255, 0, none⟩ = some (.int .i32 a1_0) ∧ w'.cell? ⟨b255, 1, none⟩ = some (.int .i32 a1_1) ∧ w'.cell? ⟨b256, 0, none⟩ = some (.int .i32 a2_0) ∧ w'.cell? ⟨b256, 1, none⟩ = some (.int .i32 a2_1) ∧ w'.cell? ⟨b257, 0, none⟩ = some (.int .i32 a3_0) ∧ w'.cell? ⟨b257, 1, none⟩ = some (.int .i32 a3_1)) ∧ (w'.heap[b254]? = some (.cells #[.int .i32 a0_0, .int .i32 a0_1] 23 (0, 0))) ∧ (w'.heap[b255]? = some (.cells #[.int .i32 a1_0, .int .i32 a1_1] 23 (0, 0))) ∧ (w'.heap[b256]? = some (.cells #[.int .i32 a2_0, .int .i32 a2_1] 23 (0, 0))) ∧ (w'.heap[b257]? = some (.cells #[.int .i32 a3_0, .int .i32 a3_1] 23 (0, 0))) ∧ (w'.heap[b258]? = some (.cells #[.int .i32 a4_0, .int .i32 a4_1] 23 (0, 0))) ∧ (w'.heap[b275]? = some (.cells #[.int .i32 t271, .int .i32 t272] 23 (0, 0))) ∧ (w'.heap[b276]? = some (.cells #[.int .i32 t273, .int .i32 t274] 23 (0, 0))) ∧ (Below w.heap.size w w')) ?_ ?_
                  rotate_left
                  ·intro hJ2_5_8
                   refine join_ (σ := Nat) 9 #[T,T,T,T,T,T,T,T,F,T,T,F,F,F,F,F,T,F,F,F] (fun s_ => [(71, .agg #[.int .i32 t277, .int .i32 t278]), (74, .agg #[.int .i32 t279, .int .i32 t280]), (13, .pointer (some ⟨s_, 0, none⟩))]) (fun s_ w' => (w'.cell? ⟨b254, 0, none⟩ = some (.int .i32 a0_0) ∧ w'.cell? ⟨b254, 1, none⟩ = some (.int .i32 a0_1) ∧ w'.cell? ⟨b258, 0, none⟩ = some (.int .i32 a4_0) ∧ w'.cell? ⟨b258, 1, none⟩ = some (.int .i32 a4_1) ∧ w'.cell? ⟨b255, 0, none⟩ = some (.int .i32 a1_0) ∧ w'.cell? ⟨b255, 1, none⟩ = some (.int .i32 a1_1) ∧ w'.cell? ⟨b256, 0, none⟩ = some (.int .i32 a2_0) ∧ w'.cell? ⟨b256, 1, none⟩ = some (.int .i32 a2_1) ∧ w'.cell? ⟨b257, 0, none⟩ = some (.int .i32 a3_0) ∧ w'.cell? ⟨b257, 1, none⟩ = some (.int .i32 a3_1)) ∧ (w'.heap[b254]? = some (.cells #[.int .i32 a0_0, .int .i32 a0_1] 23 (0, 0))) ∧ (w'.heap[b255]? = some (.cells #[.int .i32 a1_0, .int .i32 a1_1] 23 (0, 0))) ∧ (w'.heap[b256]? = some (.cells #[.int .i32 a2_0, .int .i32 a2_1] 23 (0, 0))) ∧ (w'.heap[b257]? = some (.cells #[.int .i32 a3_0, .int .i32 a3_1] 23 (0, 0))) ∧ (w'.heap[b258]? = some (.cells #[.int .i32 a4_0, .int .i32 a4_1] 23 (0, 0))) ∧ (w'.heap[b275]? = some (.cells #[.int .i32 t271, .int .i32 t272] 23 (0, 0))) ∧ (w'.heap[b276]? = some (.cells #[.int .i32 t273, .int .i32 t274] 23 (0, 0))) ∧ (w'.heap[s_]? = some (.cells #[.int .i32 0, .int .i32 0] 23 (0, 0))) ∧ (w.heap.size ≤ s_) ∧ (w.heap.size ≤ s_) ∧ (b254 ≠ s_) ∧ (s_ ≠ b254) ∧ (b255 ≠ s_) ∧ (s_ ≠ b255) ∧ (b256 ≠ s_) ∧ (s_ ≠ b256) ∧ (b257 ≠ s_) ∧ (s_ ≠ b257) ∧ (b258 ≠ s_) ∧ (s_ ≠ b258) ∧ (b275 ≠ s_) ∧ (s_ ≠ b275) ∧ (b276 ≠ s_) ∧ (s_ ≠ b276) ∧ (Below w.heap.size w w')) ?_ ?_
                   rotate_left
                   ·intro hJ2_5_16
                    refine join_ (σ := Nat) 9 #[T,T,T,T,T,T,T,T,F,T,T,F,F,F,F,F,F,T,F,F] (fun s_ => [(71, .agg #[.int .i32 t277, .int .i32 t278]), (74, .agg #[.int .i32 t279, .int .i32 t280]), (14, .pointer (some ⟨s_, 0, none⟩))]) (fun s_ w' => (w'.cell? ⟨b254, 0, none⟩ = some (.int .i32 a0_0) ∧ w'.cell? ⟨b254, 1, none⟩ = some (.int .i32 a0_1) ∧ w'.cell? ⟨b258, 0, none⟩ = some (.int .i32 a4_0) ∧ w'.cell? ⟨b258, 1, none⟩ = some (.int .i32 a4_1) ∧ w'.cell? ⟨b255, 0, none⟩ = some (.int .i32 a1_0) ∧ w'.cell? ⟨b255, 1, none⟩ = some (.int .i32 a1_1) ∧ w'.cell? ⟨b256, 0, none⟩ = some (.int .i32 a2_0) ∧ w'.cell? ⟨b256, 1, none⟩ = some (.int .i32 a2_1) ∧ w'.cell? ⟨b257, 0, none⟩ = some (.int .i32 a3_0) ∧ w'.cell? ⟨b257, 1, none⟩ = some (.int .i32 a3_1)) ∧ (w'.heap[b254]? = some (.cells #[.int .i32 a0_0, .int .i32 a0_1] 23 (0, 0))) ∧ (w'.heap[b255]? = some (.cells #[.int .i32 a1_0, .int .i32 a1_1] 23 (0, 0))) ∧ (w'.heap[b256]? = some (.cells #[.int .i32 a2_0, .int .i32 a2_1] 23 (0, 0))) ∧ (w'.heap[b257]? = some (.cells #[.int .i32 a3_0, .int .i32 a3_1] 23 (0, 0))) ∧ (w'.heap[b258]? = some (.cells #[.int .i32 a4_0, .int .i32 a4_1] 23 (0, 0))) ∧ (w'.heap[b275]? = some (.cells #[.int .i32 t271, .int .i32 t272] 23 (0, 0))) ∧ (w'.heap[b276]? = some (.cells #[.int .i32 t273, .int .i32 t274] 23 (0, 0))) ∧ (w'.heap[s_]? = some (.cells #[.int .i32 0, .int .i32 0] 23 (0, 0))) ∧ (w.heap.size ≤ s_) ∧ (w.heap.size ≤ s_) ∧ (b254 ≠ s_) ∧ (s_ ≠ b254) ∧ (b255 ≠ s_) ∧ (s_ ≠ b255) ∧ (b256 ≠ s_) ∧ (s_ ≠ b256) ∧ (b257 ≠ s_) ∧ (s_ ≠ b257) ∧ (b258 ≠ s_) ∧ (s_ ≠ b258) ∧ (b275 ≠ s_) ∧ (s_ ≠ b275) ∧ (b276 ≠ s_) ∧ (s_ ≠ b276) ∧ (Below w.heap.size w w')) ?_ ?_
                    rotate_left
                    ·intro hJ2_5_17
                     refine join_ (σ := Nat × Nat) 9 #[T,T,T,T,T,F,T,T,F,T,T,F,F,F,F,F,T,T,F,F] (fun s_ => [(71, .agg #[.int .i32 t277, .int .i32 t278]), (13, .pointer (some ⟨s_.1, 0, none⟩)), (14, .pointer (some ⟨s_.2, 0, none⟩))]) (fun s_ w' => (w'.cell? ⟨b254, 0, none⟩ = some (.int .i32 a0_0) ∧ w'.cell? ⟨b254, 1, none⟩ = some (.int .i32 a0_1) ∧ w'.cell? ⟨b258, 0, none⟩ = some (.int .i32 a4_0) ∧ w'.cell? ⟨b258, 1, none⟩ = some (.int .i32 a4_1) ∧ w'.cell? ⟨b255, 0, none⟩ = some (.int .i32 a1_0) ∧ w'.cell? ⟨b255, 1, none⟩ = some (.int .i32 a1_1) ∧ w'.cell? ⟨b256, 0, none⟩ = some (.int .i32 a2_0) ∧ w'.cell? ⟨b256, 1, none⟩ = some (.int .i32 a2_1) ∧ w'.cell? ⟨b257, 0, none⟩ = some (.int .i32 a3_0) ∧ w'.cell? ⟨b257, 1, none⟩ = some (.int .i32 a3_1)) ∧ (w'.heap[b254]? = some (.cells #[.int .i32 a0_0, .int .i32 a0_1] 23 (0, 0))) ∧ (w'.heap[b255]? = some (.cells #[.int .i32 a1_0, .int .i32 a1_1] 23 (0, 0))) ∧ (w'.heap[b256]? = some (.cells #[.int .i32 a2_0, .int .i32 a2_1] 23 (0, 0))) ∧ (w'.heap[b257]? = some (.cells #[.int .i32 a3_0, .int .i32 a3_1] 23 (0, 0))) ∧ (w'.heap[b258]? = some (.cells #[.int .i32 a4_0, .int .i32 a4_1] 23 (0, 0))) ∧ (w'.heap[b275]? = some (.cells #[.int .i32 t271, .int .i32 t272] 23 (0, 0))) ∧ (w'.heap[b276]? = some (.cells #[.int .i32 t273, .int .i32 t274] 23 (0, 0))) ∧ (w'.heap[s_.1]? = some (.cells #[.int .i32 0, .int .i32 0] 23 (0, 0))) ∧ (w'.heap[s_.2]? = some (.cells #[.int .i32 0, .int .i32 0] 23 (0, 0))) ∧ (w.heap.size ≤ s_.1) ∧ (w.heap.size ≤ s_.1) ∧ (b254 ≠ s_.1) ∧ (s_.1 ≠ b254) ∧ (b255 ≠ s_.1) ∧ (s_.1 ≠ b255) ∧ (b256 ≠ s_.1) ∧ (s_.1 ≠ b256) ∧ (b257 ≠ s_.1) ∧ (s_.1 ≠ b257) ∧ (b258 ≠ s_.1) ∧ (s_.1 ≠ b258) ∧ (b275 ≠ s_.1) ∧ (s_.1 ≠ b275) ∧ (b276 ≠ s_.1) ∧ (s_.1 ≠ b276) ∧ (s_.2 ≠ s_.1) ∧ (s_.1 ≠ s_.2) ∧ (w.heap.size ≤ s_.2) ∧ (w.heap.size ≤ s_.2) ∧ (b254 ≠ s_.2) ∧ (s_.2 ≠ b254) ∧ (b255 ≠ s_.2) ∧ (s_.2 ≠ b255) ∧ (b256 ≠ s_.2) ∧ (s_.2 ≠ b256) ∧ (b257 ≠ s_.2) ∧ (s_.2 ≠ b257) ∧ (b258 ≠ s_.2) ∧ (s_.2 ≠ b258) ∧ (b275 ≠ s_.2) ∧ (s_.2 ≠ b275) ∧ (b276 ≠ s_.2) ∧ (s_.2 ≠ b276) ∧ (Below w.heap.size w w')) ?_ ?_
                     rotate_left
                     ·intro hJ2_16_17
                      refine join_ (σ := Unit) 10 #[T,T,T,T,T,T,T,T,F,T,T,F,F,F,F,F,F,F,F,F] (fun s_ => [(71, .agg #[.int .i32 t277, .int .i32 t278]), (74, .agg #[.int .i32 t279, .int .i32 t280])]) (fun s_ w' => (w'.cell? ⟨b254, 0, none⟩ = some (.int .i32 a0_0) ∧ w'.cell? ⟨b254, 1, none⟩ = some (.int .i32 a0_1) ∧ w'.cell? ⟨b258, 0, none⟩ = some (.int .i32 a4_0) ∧ w'.cell? ⟨b258, 1, none⟩ = some (.int .i32 a4_1) ∧ w'.cell? ⟨b255, 0, none⟩ = some (.int .i32 a1_0) ∧ w'.cell? ⟨b255, 1, none⟩ = some (.int .i32 a1_1) ∧ w'.cell? ⟨b256, 0, none⟩ = some (.int .i32 a2_0) ∧ w'.cell? ⟨b256, 1, none⟩ = some (.int .i32 a2_1) ∧ w'.cell? ⟨b257, 0, none⟩ = some (.int .i32 a3_0) ∧ w'.cell? ⟨b257, 1, none⟩ = some (.int .i32 a3_1)) ∧ (w'.heap[b254]? = some (.cells #[.int .i32 a0_0, .int .i32 a0_1] 23 (0, 0))) ∧ (w'.heap[b255]? = some (.cells #[.int .i32 a1_0, .int .i32 a1_1] 23 (0, 0))) ∧ (w'.heap[b256]? = some (.cells #[.int .i32 a2_0, .int .i32 a2_1] 23 (0, 0))) ∧ (w'.heap[b257]? = some (.cells #[.int .i32 a3_0, .int .i32 a3_1] 23 (0, 0))) ∧ (w'.heap[b258]? = some (.cells #[.int .i32 a4_0, .int .i32 a4_1] 23 (0, 0))) ∧ (w'.heap[b275]? = some (.cells #[.int .i32 t271, .int .i32 t272] 23 (0, 0))) ∧ (w'.heap[b276]? = some (.cells #[.int .i32 t273, .int .i32 t274] 23 (0, 0))) ∧ (Below w.heap.size w w')) ?_ ?_
                      rotate_left
                      ·intro hJ2_5
                       refine join_ (σ := Nat) 10 #[T,T,T,T,T,F,T,T,F,T,T,F,F,F,F,F,T,F,F,F] (fun s_ => [(71, .agg #[.int .i32 t277, .int .i32 t278]), (13, .pointer (some ⟨s_, 0, none⟩))]) (fun s_ w' => (w'.cell? ⟨b254, 0, none⟩ = some (.int .i32 a0_0) ∧ w'.cell? ⟨b254, 1, none⟩ = some (.int .i32 a0_1) ∧ w'.cell? ⟨b258, 0, none⟩ = some (.int .i32 a4_0) ∧ w'.cell? ⟨b258, 1, none⟩ = some (.int .i32 a4_1) ∧ w'.cell? ⟨b255, 0, none⟩ = some (.int .i32 a1_0) ∧ w'.cell? ⟨b255, 1, none⟩ = some (.int .i32 a1_1) ∧ w'.cell? ⟨b256, 0, none⟩ = some (.int .i32 a2_0) ∧ w'.cell? ⟨b256, 1, none⟩ = some (.int .i32 a2_1) ∧ w'.cell? ⟨b257, 0, none⟩ = some (.int .i32 a3_0) ∧ w'.cell? ⟨b257, 1, none⟩ = some (.int .i32 a3_1)) ∧ (w'.heap[b254]? = some (.cells #[.int .i32 a0_0, .int .i32 a0_1] 23 (0, 0))) ∧ (w'.heap[b255]? = some (.cells #[.int .i32 a1_0, .int .i32 a1_1] 23 (0, 0))) ∧ (w'.heap[b256]? = some (.cells #[.int .i32 a2_0, .int .i32 a2_1] 23 (0, 0))) ∧ (w'.heap[b257]? = some (.cells #[.int .i32 a3_0, .int .i32 a3_1] 23 (0, 0))) ∧ (w'.heap[b258]? = some (.cells #[.int .i32 a4_0, .int .i32 a4_1] 23 (0, 0))) ∧ (w'.heap[b275]? = some (.cells #[.int .i32 t271, .int .i32 t272] 23 (0, 0))) ∧ (w'.heap[b276]? = some (.cells #[.int .i32 t273, .int .i32 t274] 23 (0, 0))) ∧ (w'.heap[s_]? = some (.cells #[.int .i32 0, .int .i32 0] 23 (0, 0))) ∧ (w.heap.size ≤ s_) ∧ (w.heap.size ≤ s_) ∧ (b254 ≠ s_) ∧ (s_ ≠ b254) ∧ (b255 ≠ s_) ∧ (s_ ≠ b255) ∧ (b256 ≠ s_) ∧ (s_ ≠ b256) ∧ (b257 ≠ s_) ∧ (s_ ≠ b257) ∧ (b258 ≠ s_) ∧ (s_ ≠ b258) ∧ (b275 ≠ s_) ∧ (s_ ≠ b275) ∧ (b276 ≠ s_) ∧ (s_ ≠ b276) ∧ (Below w.heap.size w w')) ?_ ?_
                       rotate_left
                       ·intro hJ2_16
                        refine join_ (σ := Nat) 10 #[T,T,T,T,T,F,T,T,F,T,T,F,F,F,F,F,F,T,F,F] (fun s_ => [(71, .agg #[.int .i32 t277, .int .i32 t278]), (14, .pointer (some ⟨s_, 0, none⟩))]) (fun s_ w' => (w'.cell? ⟨b254, 0, none⟩ = some (.int .i32 a0_0) ∧ w'.cell? ⟨b254, 1, none⟩ = some (.int .i32 a0_1) ∧ w'.cell? ⟨b258, 0, none⟩ = some (.int .i32 a4_0) ∧ w'.cell? ⟨b258, 1, none⟩ = some (.int .i32 a4_1) ∧ w'.cell? ⟨b255, 0, none⟩ = some (.int .i32 a1_0) ∧ w'.cell? ⟨b255, 1, none⟩ = some (.int .i32 a1_1) ∧ w'.cell? ⟨b256, 0, none⟩ = some (.int .i32 a2_0) ∧ w'.cell? ⟨b256, 1, none⟩ = some (.int .i32 a2_1) ∧ w'.cell? ⟨b257, 0, none⟩ = some (.int .i32 a3_0) ∧ w'.cell? ⟨b257, 1, none⟩ = some (.int .i32 a3_1)) ∧ (w'.heap[b254]? = some (.cells #[.int .i32 a0_0, .int .i32 a0_1] 23 (0, 0))) ∧ (w'.heap[b255]? = some (.cells #[.int .i32 a1_0, .int .i32 a1_1] 23 (0, 0))) ∧ (w'.heap[b256]? = some (.cells #[.int .i32 a2_0, .int .i32 a2_1] 23 (0, 0))) ∧ (w'.heap[b257]? = some (.cells #[.int .i32 a3_0, .int .i32 a3_1] 23 (0, 0))) ∧ (w'.heap[b258]? = some (.cells #[.int .i32 a4_0, .int .i32 a4_1] 23 (0, 0))) ∧ (w'.heap[b275]? = some (.cells #[.int .i32 t271, .int .i32 t272] 23 (0, 0))) ∧ (w'.heap[b276]? = some (.cells #[.int .i32 t273, .int .i32 t274] 23 (0, 0))) ∧ (w'.heap[s_]? = some (.cells #[.int .i32 0, .int .i32 0] 23 (0, 0))) ∧ (w.heap.size ≤ s_) ∧ (w.heap.size ≤ s_) ∧ (b254 ≠ s_) ∧ (s_ ≠ b254) ∧ (b255 ≠ s_) ∧ (s_ ≠ b255) ∧ (b256 ≠ s_) ∧ (s_ ≠ b256) ∧ (b257 ≠ s_) ∧ (s_ ≠ b257) ∧ (b258 ≠ s_) ∧ (s_ ≠ b258) ∧ (b275 ≠ s_) ∧ (s_ ≠ b275) ∧ (b276 ≠ s_) ∧ (s_ ≠ b276) ∧ (Below w.heap.size w w')) ?_ ?_
                        rotate_left
                        ·intro hJ2_17
                         refine join_ (σ := Nat × Nat) 10 #[T,T,F,T,T,F,T,T,F,T,T,F,F,F,F,F,T,T,F,F] (fun s_ => [(13, .pointer (some ⟨s_.1, 0, none⟩)), (14, .pointer (some ⟨s_.2, 0, none⟩))]) (fun s_ w' => (w'.cell? ⟨b254, 0, none⟩ = some (.int .i32 a0_0) ∧ w'.cell? ⟨b254, 1, none⟩ = some (.int .i32 a0_1) ∧ w'.cell? ⟨b258, 0, none⟩ = some (.int .i32 a4_0) ∧ w'.cell? ⟨b258, 1, none⟩ = some (.int .i32 a4_1) ∧ w'.cell? ⟨b255, 0, none⟩ = some (.int .i32 a1_0) ∧ w'.cell? ⟨b255, 1, none⟩ = some (.int .i32 a1_1) ∧ w'.cell? ⟨b256, 0, none⟩ = some (.int .i32 a2_0) ∧ w'.cell? ⟨b256, 1, none⟩ = some (.int .i32 a2_1) ∧ w'.cell? ⟨b257, 0, none⟩ = some (.int .i32 a3_0) ∧ w'.cell? ⟨b257, 1, none⟩ = some (.int .i32 a3_1)) ∧ (w'.heap[b254]? = some (.cells #[.int .i32 a0_0, .int .i32 a0_1] 23 (0, 0))) ∧ (w'.heap[b255]? = some (.cells #[.int .i32 a1_0, .int .i32 a1_1] 23 (0, 0))) ∧ (w'.heap[b256]? = some (.cells #[.int .i32 a2_0, .int .i32 a2_1] 23 (0, 0))) ∧ (w'.heap[b257]? = some (.cells #[.int .i32 a3_0, .int .i32 a3_1] 23 (0, 0))) ∧ (w'.heap[b258]? = some (.cells #[.int .i32 a4_0, .int .i32 a4_1] 23 (0, 0))) ∧ (w'.heap[b275]? = some (.cells #[.int .i32 t271, .int .i32 t272] 23 (0, 0))) ∧ (w'.heap[b276]? = some (.cells #[.int .i32 t273, .int .i32 t274] 23 (0, 0))) ∧ (w'.heap[s_.1]? = some (.cells #[.int .i32 0, .int .i32 0] 23 (0, 0))) ∧ (w'.heap[s_.2]? = some (.cells #[.int .i32 0, .int .i32 0] 23 (0, 0))) ∧ (w.heap.size ≤ s_.1) ∧ (w.heap.size ≤ s_.1) ∧ (b254 ≠ s_.1) ∧ (s_.1 ≠ b254) ∧ (b255 ≠ s_.1) ∧ (s_.1 ≠ b255) ∧ (b256 ≠ s_.1) ∧ (s_.1 ≠ b256) ∧ (b257 ≠ s_.1) ∧ (s_.1 ≠ b257) ∧ (b258 ≠ s_.1) ∧ (s_.1 ≠ b258) ∧ (b275 ≠ s_.1) ∧ (s_.1 ≠ b275) ∧ (b276 ≠ s_.1) ∧ (s_.1 ≠ b276) ∧ (s_.2 ≠ s_.1) ∧ (s_.1 ≠ s_.2) ∧ (w.heap.size ≤ s_.2) ∧ (w.heap.size ≤ s_.2) ∧ (b254 ≠ s_.2) ∧ (s_.2 ≠ b254) ∧ (b255 ≠ s_.2) ∧ (s_.2 ≠ b255) ∧ (b256 ≠ s_.2) ∧ (s_.2 ≠ b256) ∧ (b257 ≠ s_.2) ∧ (s_.2 ≠ b257) ∧ (b258 ≠ s_.2) ∧ (s_.2 ≠ b258) ∧ (b275 ≠ s_.2) ∧ (s_.2 ≠ b275) ∧ (b276 ≠ s_.2) ∧ (s_.2 ≠ b276) ∧ (Below w.heap.size w w')) ?_ ?_
                         rotate_left
                         ·intro hJ16_17
                          refine join_ (σ := Unit) 11 #[T,T,T,T,T,F,T,T,F,T,T,F,F,F,F,F,F,F,F,F] (fun s_ => [(71, .agg #[.int .i32 t277, .int .i32 t278])]) (fun s_ w' => (w'.cell? ⟨b254, 0, none⟩ = some (.int .i32 a0_0) ∧ w'.cell? ⟨b254, 1, none⟩ = some (.int .i32 a0_1) ∧ w'.cell? ⟨b258, 0, none⟩ = some (.int .i32 a4_0) ∧ w'.cell? ⟨b258, 1, none⟩ = some (.int .i32 a4_1) ∧ w'.cell? ⟨b255, 0, none⟩ = some (.int .i32 a1_0) ∧ w'.cell? ⟨b255, 1, none⟩ = some (.int .i32 a1_1) ∧ w'.cell? ⟨b256, 0, none⟩ = some (.int .i32 a2_0) ∧ w'.cell? ⟨b256, 1, none⟩ = some (.int .i32 a2_1) ∧ w'.cell? ⟨b257, 0, none⟩ = some (.int .i32 a3_0) ∧ w'.cell? ⟨b257, 1, none⟩ = some (.int .i32 a3_1)) ∧ (w'.heap[b254]? = some (.cells #[.int .i32 a0_0, .int .i32 a0_1] 23 (0, 0))) ∧ (w'.heap[b255]? = some (.cells #[.int .i32 a1_0, .int .i32 a1_1] 23 (0, 0))) ∧ (w'.heap[b256]? = some (.cells #[.int .i32 a2_0, .int .i32 a2_1] 23 (0, 0))) ∧ (w'.heap[b257]? = some (.cells #[.int .i32 a3_0, .int .i32 a3_1] 23 (0, 0))) ∧ (w'.heap[b258]? = some (.cells #[.int .i32 a4_0, .int .i32 a4_1] 23 (0, 0))) ∧ (w'.heap[b275]? = some (.cells #[.int .i32 t271, .int .i32 t272] 23 (0, 0))) ∧ (w'.heap[b276]? = some (.cells #[.int .i32 t273, .int .i32 t274] 23 (0, 0))) ∧ (Below w.heap.size w w')) ?_ ?_
                          rotate_left
                          ·intro hJ2
                           refine join_ (σ := Nat) 11 #[T,T,F,T,T,F,T,T,F,T,T,F,F,F,F,F,T,F,F,F] (fun s_ => [(13, .pointer (some ⟨s_, 0, none⟩))]) (fun s_ w' => (w'.cell? ⟨b254, 0, none⟩ = some (.int .i32 a0_0) ∧ w'.cell? ⟨b254, 1, none⟩ = some (.int .i32 a0_1) ∧ w'.cell? ⟨b258, 0, none⟩ = some (.int .i32 a4_0) ∧ w'.cell? ⟨b258, 1, none⟩ = some (.int .i32 a4_1) ∧ w'.cell? ⟨b255, 0, none⟩ = some (.int .i32 a1_0) ∧ w'.cell? ⟨b255, 1, none⟩ = some (.int .i32 a1_1) ∧ w'.cell? ⟨b256, 0, none⟩ = some (.int .i32 a2_0) ∧ w'.cell? ⟨b256, 1, none⟩ = some (.int .i32 a2_1) ∧ w'.cell? ⟨b257, 0, none⟩ = some (.int .i32 a3_0) ∧ w'.cell? ⟨b257, 1, none⟩ = some (.int .i32 a3_1)) ∧ (w'.heap[b254]? = some (.cells #[.int .i32 a0_0, .int .i32 a0_1] 23 (0, 0))) ∧ (w'.heap[b255]? = some (.cells #[.int .i32 a1_0, .int .i32 a1_1] 23 (0, 0))) ∧ (w'.heap[b256]? = some (.cells #[.int .i32 a2_0, .int .i32 a2_1] 23 (0, 0))) ∧ (w'.heap[b257]? = some (.cells #[.int .i32 a3_0, .int .i32 a3_1] 23 (0, 0))) ∧ (w'.heap[b258]? = some (.cells #[.int .i32 a4_0, .int .i32 a4_1] 23 (0, 0))) ∧ (w'.heap[b275]? = some (.cells #[.int .i32 t271, .int .i32 t272] 23 (0, 0))) ∧ (w'.heap[b276]? = some (.cells #[.int .i32 t273, .int .i32 t274] 23 (0, 0))) ∧ (w'.heap[s_]? = some (.cells #[.int .i32 0, .int .i32 0] 23 (0, 0))) ∧ (w.heap.size ≤ s_) ∧ (w.heap.size ≤ s_) ∧ (b254 ≠ s_) ∧ (s_ ≠ b254) ∧ (b255 ≠ s_) ∧ (s_ ≠ b255) ∧ (b256 ≠ s_) ∧ (s_ ≠ b256) ∧ (b257 ≠ s_) ∧ (s_ ≠ b257) ∧ (b258 ≠ s_) ∧ (s_ ≠ b258) ∧ (b275 ≠ s_) ∧ (s_ ≠ b275) ∧ (b276 ≠ s_) ∧ (s_ ≠ b276) ∧ (Below w.heap.size w w')) ?_ ?_
                           rotate_left
                           ·intro hJ16
                            refine join_ (σ := Nat) 11 #[T,T,F,T,T,F,T,T,F,T,T,F,F,F,F,F,F,T,F,F] (fun s_ => [(14, .pointer (some ⟨s_, 0, none⟩))]) (fun s_ w' => (w'.cell? ⟨b254, 0, none⟩ = some (.int .i32 a0_0) ∧ w'.cell? ⟨b254, 1, none⟩ = some (.int .i32 a0_1) ∧ w'.cell? ⟨b258, 0, none⟩ = some (.int .i32 a4_0) ∧ w'.cell? ⟨b258, 1, none⟩ = some (.int .i32 a4_1) ∧ w'.cell? ⟨b255, 0, none⟩ = some (.int .i32 a1_0) ∧ w'.cell? ⟨b255, 1, none⟩ = some (.int .i32 a1_1) ∧ w'.cell? ⟨b256, 0, none⟩ = some (.int .i32 a2_0) ∧ w'.cell? ⟨b256, 1, none⟩ = some (.int .i32 a2_1) ∧ w'.cell? ⟨b257, 0, none⟩ = some (.int .i32 a3_0) ∧ w'.cell? ⟨b257, 1, none⟩ = some (.int .i32 a3_1)) ∧ (w'.heap[b254]? = some (.cells #[.int .i32 a0_0, .int .i32 a0_1] 23 (0, 0))) ∧ (w'.heap[b255]? = some (.cells #[.int .i32 a1_0, .int .i32 a1_1] 23 (0, 0))) ∧ (w'.heap[b256]? = some (.cells #[.int .i32 a2_0, .int .i32 a2_1] 23 (0, 0))) ∧ (w'.heap[b257]? = some (.cells #[.int .i32 a3_0, .int .i32 a3_1] 23 (0, 0))) ∧ (w'.heap[b258]? = some (.cells #[.int .i32 a4_0, .int .i32 a4_1] 23 (0, 0))) ∧ (w'.heap[b275]? = some (.cells #[.int .i32 t271, .int .i32 t272] 23 (0, 0))) ∧ (w'.heap[b276]? = some (.cells #[.int .i32 t273, .int .i32 t274] 23 (0, 0))) ∧ (w'.heap[s_]? = some (.cells #[.int .i32 0, .int .i32 0] 23 (0, 0))) ∧ (w.heap.size ≤ s_) ∧ (w.heap.size ≤ s_) ∧ (b254 ≠ s_) ∧ (s_ ≠ b254) ∧ (b255 ≠ s_) ∧ (s_ ≠ b255) ∧ (b256 ≠ s_) ∧ (s_ ≠ b256) ∧ (b257 ≠ s_) ∧ (s_ ≠ b257) ∧ (b258 ≠ s_) ∧ (s_ ≠ b258) ∧ (b275 ≠ s_) ∧ (s_ ≠ b275) ∧ (b276 ≠ s_) ∧ (s_ ≠ b276) ∧ (Below w.heap.size w w')) ?_ ?_
                            rotate_left
                            ·intro hJ17
                             refine three_ (i := 2) (j := 16) (k := 17) (Ni := some 71) (Nj := some 13) (Nk := some 14) #[T,T,T,T,T,F,T,T,F,T,T,F,F,F,F,F,F,F,F,F] #[T,T,F,T,T,F,T,T,F,T,T,F,F,F,F,F,T,F,F,F] #[T,T,F,T,T,F,T,T,F,T,T,F,F,F,F,F,F,T,F,F] rfl rfl rfl rfl rfl rfl (three_of HT_.out (by kernel_rfl)) (by decide) (by decide) (by decide) (fun K hK => ?_) (fun K hK => ?_) (fun K hK => ?_)
                             ·skip
                              refine goes_ Try.func15 (by kernel_rfl) rfl #[.agg #[.int .i32 a0_0, .int .i32 a0_1], .agg #[.int .i32 a4_0, .int .i32 a4_1]] (by rfl) rfl rfl (by (try simp only [List.map_toArray, List.map_cons, List.map_nil]); first | done | rfl | (simp only [List.length_drop, List.length_take]; rfl)) ?_
                              with_reducible refine (billiardlaw13_move.calls a0_0 a0_1 a4_0 a4_1 t277 t278 _ A113.out).mono ?_
                              rintro e w159 ⟨rfl, hb⟩
                              refine ⟨_, rfl, ?_⟩
                              have n_ := kB7 BK254 BK255 BK256 BK257 BK258 BK275 BK276 HB (by repeat first | exact lR _ _ | apply lN | apply lD | apply lA) hb
                              clear BK254 BK255 BK256 BK257 BK258 BK275 BK276 HB
                              obtain ⟨BK254, BK255, BK256, BK257, BK258, BK275, BK276, HB⟩ := n_
                              (try clear hb)
                              (try clear hb2)
                              (try clear hk)
                              (try clear hi)
                              refine hK.out _ _ ⟨bC BK254.out 0, bC BK254.out 1, bC BK258.out 0, bC BK258.out 1, bC BK255.out 0, bC BK255.out 1, bC BK256.out 0, bC BK256.out 1, bC BK257.out 0, bC BK257.out 1⟩ (fun hHeld => ?_)
                              clear hK K
                              refine norm_ (a' := ?_) ?_ ?_
                              rotate_left
                              ·show Act.put _ (some 71) _ = _
                               simp only [Act.put, sA, sB, sC, i64_w, i32_w]
                               rfl
                              exact norm_ (by simp only [putAll, Act.put, sA, sB, sC] <;> rfl) (hJ2 () _ ⟨hHeld, BK254.out, BK255.out, BK256.out, BK257.out, BK258.out, BK275.out, BK276.out, HB.out⟩)
                             ·skip
                              refine box_step ?hg (N := 13) ?hd (cs := #[.int .i32 0, .int .i32 0]) (t := 23) ?hr ?_; (case hd => rfl); (case hg => rfl); (case hr => first | (go_simp; done) | (go_simp; rfl))
                              intro b289 hg w159 hbox hb
                              have n_ := kC7 BK254 BK255 BK256 BK257 BK258 BK275 BK276 HB (by repeat first | exact lR _ _ | apply lN | apply lD | apply lA) hg hbox hb
                              clear BK254 BK255 BK256 BK257 BK258 BK275 BK276 HB hb hbox hg
                              obtain ⟨BK254, BK255, BK256, BK257, BK258, BK275, BK276, HB, BK289, GW289, GE289, N42_, N43_, N44_, N45_, N46_, N47_, N48_, N49_, N50_, N51_, N52_, N53_, N54_, N55_⟩ := n_
                              refine hK.out _ _ ⟨bC BK254.out 0, bC BK254.out 1, bC BK258.out 0, bC BK258.out 1, bC BK255.out 0, bC BK255.out 1, bC BK256.out 0, bC BK256.out 1, bC BK257.out 0, bC BK257.out 1⟩ (fun hHeld => ?_)
                              clear hK K
                              refine norm_ (a' := ?_) ?_ ?_
                              rotate_left
                              ·show Act.put _ (some 13) _ = _
                               simp only [Act.put, sA, sB, sC, i64_w, i32_w]
                               rfl
                              exact norm_ (by simp only [putAll, Act.put, sA, sB, sC] <;> rfl) (hJ16 (b289) _ ⟨hHeld, BK254.out, BK255.out, BK256.out, BK257.out, BK258.out, BK275.out, BK276.out, BK289.out, GW289.out, GE289.out, N42_.out, N43_.out, N44_.out, N45_.out, N46_.out, N47_.out, N48_.out, N49_.out, N50_.out, N51_.out, N52_.out, N53_.out, N54_.out, N55_.out, HB.out⟩)
                             ·skip
                              refine box_step ?hg (N := 14) ?hd (cs := #[.int .i32 0, .int .i32 0]) (t := 23) ?hr ?_; (case hd => rfl); (case hg => rfl); (case hr => first | (go_simp; done) | (go_simp; rfl))
                              intro b290 hg w159 hbox hb
                              have n_ := kC7 BK254 BK255 BK256 BK257 BK258 BK275 BK276 HB (by repeat first | exact lR _ _ | apply lN | apply lD | apply lA) hg hbox hb
                              clear BK254 BK255 BK256 BK257 BK258 BK275 BK276 HB hb hbox hg
                              obtain ⟨BK254, BK255, BK256, BK257, BK258, BK275, BK276, HB, BK290, GW290, GE290, N56_, N57_, N58_, N59_, N60_, N61_, N62_, N63_, N64_, N65_, N66_, N67_, N68_, N69_⟩ := n_
                              refine hK.out _ _ ⟨bC BK254.out 0, bC BK254.out 1, bC BK258.out 0, bC BK258.out 1, bC BK255.out 0, bC BK255.out 1, bC BK256.out 0, bC BK256.out 1, bC BK257.out 0, bC BK257.out 1⟩ (fun hHeld => ?_)
                              clear hK K
                              refine norm_ (a' := ?_) ?_ ?_
                              rotate_left
                              ·show Act.put _ (some 14) _ = _
                               simp only [Act.put, sA, sB, sC, i64_w, i32_w]
                               rfl
                              exact norm_ (by simp only [putAll, Act.put, sA, sB, sC] <;> rfl) (hJ17 (b290) _ ⟨hHeld, BK254.out, BK255.out, BK256.out, BK257.out, BK258.out, BK275.out, BK276.out, BK290.out, GW290.out, GE290.out, N56_.out, N57_.out, N58_.out, N59_.out, N60_.out, N61_.out, N62_.out, N63_.out, N64_.out, N65_.out, N66_.out, N67_.out, N68_.out, N69_.out, HB.out⟩)
                            ·skip
                             rintro b290 w160 ⟨hS_, h0_, h1_, h2_, h3_, h4_, h5_, h6_, h7_, h8_, h9_, h10_, h11_, h12_, h13_, h14_, h15_, h16_, h17_, h18_, h19_, h20_, h21_, h22_, h23_, h24_⟩
                             clear BK254 BK255 BK256 BK257 BK258 BK275 BK276 HB
                             have BK254 := aM h0_; have BK255 := aM h1_; have BK256 := aM h2_; have BK257 := aM h3_; have BK258 := aM h4_; have BK275 := aM h5_; have BK276 := aM h6_; have BK290 := aM h7_; have GW290 := aM h8_; have GE290 := aM h9_; have N56_ := aM h10_; have N57_ := aM h11_; have N58_ := aM h12_; have N59_ := aM h13_; have N60_ := aM h14_; have N61_ := aM h15_; have N62_ := aM h16_; have N63_ := aM h17_; have N64_ := aM h18_; have N65_ := aM h19_; have N66_ := aM h20_; have N67_ := aM h21_; have N68_ := aM h22_; have N69_ := aM h23_; have HB := aM h24_
                             clear h0_ h1_ h2_ h3_ h4_ h5_ h6_ h7_ h8_ h9_ h10_ h11_ h12_ h13_ h14_ h15_ h16_ h17_ h18_ h19_ h20_ h21_ h22_ h23_ h24_
                             have hHeld := hS_
                             refine norm_ (a' := ?_) ?_ ?_
                             rotate_left
                             ·simp only [putAll, Act.put, sA, sB, sC]
                              rfl
                             refine two_ (i := 2) (j := 16) (Ni := some 71) (Nj := some 13) #[T,T,T,T,T,F,T,T,F,T,T,F,F,F,F,F,F,T,F,F] #[T,T,F,T,T,F,T,T,F,T,T,F,F,F,F,F,T,T,F,F] rfl rfl rfl rfl (two_of HT_.out (by kernel_rfl)) (by decide) (by decide) (fun K hK => ?_) (fun K hK => ?_)
                             ·skip
                              refine goes_ Try.func15 (by kernel_rfl) rfl #[.agg #[.int .i32 a0_0, .int .i32 a0_1], .agg #[.int .i32 a4_0, .int .i32 a4_1]] (by rfl) rfl rfl (by (try simp only [List.map_toArray, List.map_cons, List.map_nil]); first | done | rfl | (simp only [List.length_drop, List.length_take]; rfl)) ?_
                              with_reducible refine (billiardlaw13_move.calls a0_0 a0_1 a4_0 a4_1 t277 t278 _ A113.out).mono ?_
                              rintro e w161 ⟨rfl, hb⟩
                              refine ⟨_, rfl, ?_⟩
                              have n_ := kB8 BK254 BK255 BK256 BK257 BK258 BK275 BK276 BK290 HB (by repeat first | exact lR _ _ | apply lN | apply lD | apply lA) hb
                              clear BK254 BK255 BK256 BK257 BK258 BK275 BK276 BK290 HB
                              obtain ⟨BK254, BK255, BK256, BK257, BK258, BK275, BK276, BK290, HB⟩ := n_
                              (try clear hb)
                              (try clear hb2)
                              (try clear hk)
                              (try clear hi)
                              refine hK.out _ _ ⟨bC BK254.out 0, bC BK254.out 1, bC BK258.out 0, bC BK258.out 1, bC BK255.out 0, bC BK255.out 1, bC BK256.out 0, bC BK256.out 1, bC BK257.out 0, bC BK257.out 1⟩ (fun hHeld => ?_)
                              clear hK K
                              refine norm_ (a' := ?_) ?_ ?_
                              rotate_left
                              ·show Act.put _ (some 71) _ = _
                               simp only [Act.put, sA, sB, sC, i64_w, i32_w]
                               rfl
                              exact norm_ (by simp only [putAll, Act.put, sA, sB, sC] <;> rfl) (hJ2_17 (b290) _ ⟨hHeld, BK254.out, BK255.out, BK256.out, BK257.out, BK258.out, BK275.out, BK276.out, BK290.out, GW290.out, GE290.out, N56_.out, N57_.out, N58_.out, N59_.out, N60_.out, N61_.out, N62_.out, N63_.out, N64_.out, N65_.out, N66_.out, N67_.out, N68_.out, N69_.out, HB.out⟩)
                             ·skip
                              refine box_step ?hg (N := 13) ?hd (cs := #[.int .i32 0, .int .i32 0]) (t := 23) ?hr ?_; (case hd => rfl); (case hg => rfl); (case hr => first | (go_simp; done) | (go_simp; rfl))
                              intro b289 hg w161 hbox hb
                              have n_ := kC8 BK254 BK255 BK256 BK257 BK258 BK275 BK276 BK290 HB (by repeat first | exact lR _ _ | apply lN | apply lD | apply lA) hg hbox hb
                              clear BK254 BK255 BK256 BK257 BK258 BK275 BK276 BK290 HB hb hbox hg
                              obtain ⟨BK254, BK255, BK256, BK257, BK258, BK275, BK276, BK290, HB, BK289, GW289, GE289, N42_, N43_, N44_, N45_, N46_, N47_, N48_, N49_, N50_, N51_, N52_, N53_, N54_, N55_, N70_, N71_⟩ := n_
                              refine hK.out _ _ ⟨bC BK254.out 0, bC BK254.out 1, bC BK258.out 0, bC BK258.out 1, bC BK255.out 0, bC BK255.out 1, bC BK256.out 0, bC BK256.out 1, bC BK257.out 0, bC BK257.out 1⟩ (fun hHeld => ?_)
                              clear hK K
                              refine norm_ (a' := ?_) ?_ ?_
                              rotate_left
                              ·show Act.put _ (some 13) _ = _
                               simp only [Act.put, sA, sB, sC, i64_w, i32_w]
                               rfl
                              exact norm_ (by simp only [putAll, Act.put, sA, sB, sC] <;> rfl) (hJ16_17 (b289, b290) _ ⟨hHeld, BK254.out, BK255.out, BK256.out, BK257.out, BK258.out, BK275.out, BK276.out, BK289.out, BK290.out, GW289.out, GE289.out, N42_.out, N43_.out, N44_.out, N45_.out, N46_.out, N47_.out, N48_.out, N49_.out, N50_.out, N51_.out, N52_.out, N53_.out, N54_.out, N55_.out, N70_.out, N71_.out, GW290.out, GE290.out, N56_.out, N57_.out, N58_.out, N59_.out, N60_.out, N61_.out, N62_.out, N63_.out, N64_.out, N65_.out, N66_.out, N67_.out, N68_.out, N69_.out, HB.out⟩)
                           ·skip
                            rintro b289 w160 ⟨hS_, h0_, h1_, h2_, h3_, h4_, h5_, h6_, h7_, h8_, h9_, h10_, h11_, h12_, h13_, h14_, h15_, h16_, h17_, h18_, h19_, h20_, h21_, h22_, h23_, h24_⟩
                            clear BK254 BK255 BK256 BK257 BK258 BK275 BK276 HB
                            have BK254 := aM h0_; have BK255 := aM h1_; have BK256 := aM h2_; have BK257 := aM h3_; have BK258 := aM h4_; have BK275 := aM h5_; have BK276 := aM h6_; have BK289 := aM h7_; have GW289 := aM h8_; have GE289 := aM h9_; have N42_ := aM h10_; have N43_ := aM h11_; have N44_ := aM h12_; have N45_ := aM h13_; have N46_ := aM h14_; have N47_ := aM h15_; have N48_ := aM h16_; have N49_ := aM h17_; have N50_ := aM h18_; have N51_ := aM h19_; have N52_ := aM h20_; have N53_ := aM h21_; have N54_ := aM h22_; have N55_ := aM h23_; have HB := aM h24_
                            clear h0_ h1_ h2_ h3_ h4_ h5_ h6_ h7_ h8_ h9_ h10_ h11_ h12_ h13_ h14_ h15_ h16_ h17_ h18_ h19_ h20_ h21_ h22_ h23_ h24_
                            have hHeld := hS_
                            refine norm_ (a' := ?_) ?_ ?_
                            rotate_left
                            ·simp only [putAll, Act.put, sA, sB, sC]
                             rfl
                            refine two_ (i := 2) (j := 17) (Ni := some 71) (Nj := some 14) #[T,T,T,T,T,F,T,T,F,T,T,F,F,F,F,F,T,F,F,F] #[T,T,F,T,T,F,T,T,F,T,T,F,F,F,F,F,T,T,F,F] rfl rfl rfl rfl (two_of HT_.out (by kernel_rfl)) (by decide) (by decide) (fun K hK => ?_) (fun K hK => ?_)
                            ·skip
                             refine goes_ Try.func15 (by kernel_rfl) rfl #[.agg #[.int .i32 a0_0, .int .i32 a0_1], .agg #[.int .i32 a4_0, .int .i32 a4_1]] (by rfl) rfl rfl (by (try simp only [List.map_toArray, List.map_cons, List.map_nil]); first | done | rfl | (simp only [List.length_drop, List.length_take]; rfl)) ?_
                             with_reducible refine (billiardlaw13_move.calls a0_0 a0_1 a4_0 a4_1 t277 t278 _ A113.out).mono ?_
                             rintro e w161 ⟨rfl, hb⟩
                             refine ⟨_, rfl, ?_⟩
                             have n_ := kB8 BK254 BK255 BK256 BK257 BK258 BK275 BK276 BK289 HB (by repeat first | exact lR _ _ | apply lN | apply lD | apply lA) hb
                             clear BK254 BK255 BK256 BK257 BK258 BK275 BK276 BK289 HB
                             obtain ⟨BK254, BK255, BK256, BK257, BK258, BK275, BK276, BK289, HB⟩ := n_
                             (try clear hb)
                             (try clear hb2)
                             (try clear hk)
                             (try clear hi)
                             refine hK.out _ _ ⟨bC BK254.out 0, bC BK254.out 1, bC BK258.out 0, bC BK258.out 1, bC BK255.out 0, bC BK255.out 1, bC BK256.out 0, bC BK256.out 1, bC BK257.out 0, bC BK257.out 1⟩ (fun hHeld => ?_)
                             clear hK K
                             refine norm_ (a' := ?_) ?_ ?_
                             rotate_left
                             ·show Act.put _ (some 71) _ = _
                              simp only [Act.put, sA, sB, sC, i64_w, i32_w]
                              rfl
                             exact norm_ (by simp only [putAll, Act.put, sA, sB, sC] <;> rfl) (hJ2_16 (b289) _ ⟨hHeld, BK254.out, BK255.out, BK256.out, BK257.out, BK258.out, BK275.out, BK276.out, BK289.out, GW289.out, GE289.out, N42_.out, N43_.out, N44_.out, N45_.out, N46_.out, N47_.out, N48_.out, N49_.out, N50_.out, N51_.out, N52_.out, N53_.out, N54_.out, N55_.out, HB.out⟩)
                            ·skip
                             refine box_step ?hg (N := 14) ?hd (cs := #[.int .i32 0, .int .i32 0]) (t := 23) ?hr ?_; (case hd => rfl); (case hg => rfl); (case hr => first | (go_simp; done) | (go_simp; rfl))
                             intro b290 hg w161 hbox hb
                             have n_ := kC8 BK254 BK255 BK256 BK257 BK258 BK275 BK276 BK289 HB (by repeat first | exact lR _ _ | apply lN | apply lD | apply lA) hg hbox hb
                             clear BK254 BK255 BK256 BK257 BK258 BK275 BK276 BK289 HB hb hbox hg
                             obtain ⟨BK254, BK255, BK256, BK257, BK258, BK275, BK276, BK289, HB, BK290, GW290, GE290, N56_, N57_, N58_, N59_, N60_, N61_, N62_, N63_, N64_, N65_, N66_, N67_, N68_, N69_, N71_, N70_⟩ := n_
                             refine hK.out _ _ ⟨bC BK254.out 0, bC BK254.out 1, bC BK258.out 0, bC BK258.out 1, bC BK255.out 0, bC BK255.out 1, bC BK256.out 0, bC BK256.out 1, bC BK257.out 0, bC BK257.out 1⟩ (fun hHeld => ?_)
                             clear hK K
                             refine norm_ (a' := ?_) ?_ ?_
                             rotate_left
                             ·show Act.put _ (some 14) _ = _
                              simp only [Act.put, sA, sB, sC, i64_w, i32_w]
                              rfl
                             exact norm_ (by simp only [putAll, Act.put, sA, sB, sC] <;> rfl) (hJ16_17 (b289, b290) _ ⟨hHeld, BK254.out, BK255.out, BK256.out, BK257.out, BK258.out, BK275.out, BK276.out, BK289.out, BK290.out, GW289.out, GE289.out, N42_.out, N43_.out, N44_.out, N45_.out, N46_.out, N47_.out, N48_.out, N49_.out, N50_.out, N51_.out, N52_.out, N53_.out, N54_.out, N55_.out, N70_.out, N71_.out, GW290.out, GE290.out, N56_.out, N57_.out, N58_.out, N59_.out, N60_.out, N61_.out, N62_.out, N63_.out, N64_.out, N65_.out, N66_.out, N67_.out, N68_.out, N69_.out, HB.out⟩)
                          ·skip
                           rintro _ w160 ⟨hS_, h0_, h1_, h2_, h3_, h4_, h5_, h6_, h7_⟩
                           clear BK254 BK255 BK256 BK257 BK258 BK275 BK276 HB
                           have BK254 := aM h0_; have BK255 := aM h1_; have BK256 := aM h2_; have BK257 := aM h3_; have BK258 := aM h4_; have BK275 := aM h5_; have BK276 := aM h6_; have HB := aM h7_
                           clear h0_ h1_ h2_ h3_ h4_ h5_ h6_ h7_
                           have hHeld := hS_
                           refine norm_ (a' := ?_) ?_ ?_
                           rotate_left
                           ·simp only [putAll, Act.put, sA, sB, sC]
                            rfl
                           refine three_ (i := 5) (j := 16) (k := 17) (Ni := some 74) (Nj := some 13) (Nk := some 14) #[T,T,T,T,T,T,T,T,F,T,T,F,F,F,F,F,F,F,F,F] #[T,T,T,T,T,F,T,T,F,T,T,F,F,F,F,F,T,F,F,F] #[T,T,T,T,T,F,T,T,F,T,T,F,F,F,F,F,F,T,F,F] rfl rfl rfl rfl rfl rfl (three_of HT_.out (by kernel_rfl)) (by decide) (by decide) (by decide) (fun K hK => ?_) (fun K hK => ?_) (fun K hK => ?_)
                           ·skip
                            refine goes_ Try.func15 (by kernel_rfl) rfl #[.agg #[.int .i32 a1_0, .int .i32 a1_1], .agg #[.int .i32 a4_0, .int .i32 a4_1]] (by rfl) rfl rfl (by (try simp only [List.map_toArray, List.map_cons, List.map_nil]); first | done | rfl | (simp only [List.length_drop, List.length_take]; rfl)) ?_
                            with_reducible refine (billiardlaw13_move.calls a1_0 a1_1 a4_0 a4_1 t279 t280 _ A114.out).mono ?_
                            rintro e w161 ⟨rfl, hb⟩
                            refine ⟨_, rfl, ?_⟩
                            have n_ := kB7 BK254 BK255 BK256 BK257 BK258 BK275 BK276 HB (by repeat first | exact lR _ _ | apply lN | apply lD | apply lA) hb
                            clear BK254 BK255 BK256 BK257 BK258 BK275 BK276 HB
                            obtain ⟨BK254, BK255, BK256, BK257, BK258, BK275, BK276, HB⟩ := n_
                            (try clear hb)
                            (try clear hb2)
                            (try clear hk)
                            (try clear hi)
                            refine hK.out _ _ ⟨bC BK254.out 0, bC BK254.out 1, bC BK258.out 0, bC BK258.out 1, bC BK255.out 0, bC BK255.out 1, bC BK256.out 0, bC BK256.out 1, bC BK257.out 0, bC BK257.out 1⟩ (fun hHeld => ?_)
                            clear hK K
                            refine norm_ (a' := ?_) ?_ ?_
                            rotate_left
                            ·show Act.put _ (some 74) _ = _
                             simp only [Act.put, sA, sB, sC, i64_w, i32_w]
                             rfl
                            exact norm_ (by simp only [putAll, Act.put, sA, sB, sC] <;> rfl) (hJ2_5 () _ ⟨hHeld, BK254.out, BK255.out, BK256.out, BK257.out, BK258.out, BK275.out, BK276.out, HB.out⟩)
                           ·skip
                            refine box_step ?hg (N := 13) ?hd (cs := #[.int .i32 0, .int .i32 0]) (t := 23) ?hr ?_; (case hd => rfl); (case hg => rfl); (case hr => first | (go_simp; done) | (go_simp; rfl))
                            intro b289 hg w161 hbox hb
                            have n_ := kC7 BK254 BK255 BK256 BK257 BK258 BK275 BK276 HB (by repeat first | exact lR _ _ | apply lN | apply lD | apply lA) hg hbox hb
                            clear BK254 BK255 BK256 BK257 BK258 BK275 BK276 HB hb hbox hg
                            obtain ⟨BK254, BK255, BK256, BK257, BK258, BK275, BK276, HB, BK289, GW289, GE289, N42_, N43_, N44_, N45_, N46_, N47_, N48_, N49_, N50_, N51_, N52_, N53_, N54_, N55_⟩ := n_
                            refine hK.out _ _ ⟨bC BK254.out 0, bC BK254.out 1, bC BK258.out 0, bC BK258.out 1, bC BK255.out 0, bC BK255.out 1, bC BK256.out 0, bC BK256.out 1, bC BK257.out 0, bC BK257.out 1⟩ (fun hHeld => ?_)
                            clear hK K
                            refine norm_ (a' := ?_) ?_ ?_
                            rotate_left
                            ·show Act.put _ (some 13) _ = _
                             simp only [Act.put, sA, sB, sC, i64_w, i32_w]
                             rfl
                            exact norm_ (by simp only [putAll, Act.put, sA, sB, sC] <;> rfl) (hJ2_16 (b289) _ ⟨hHeld, BK254.out, BK255.out, BK256.out, BK257.out, BK258.out, BK275.out, BK276.out, BK289.out, GW289.out, GE289.out, N42_.out, N43_.out, N44_.out, N45_.out, N46_.out, N47_.out, N48_.out, N49_.out, N50_.out, N51_.out, N52_.out, N53_.out, N54_.out, N55_.out, HB.out⟩)
                           ·skip
                            refine box_step ?hg (N := 14) ?hd (cs := #[.int .i32 0, .int .i32 0]) (t := 23) ?hr ?_; (case hd => rfl); (case hg => rfl); (case hr => first | (go_simp; done) | (go_simp; rfl))
                            intro b290 hg w161 hbox hb
                            have n_ := kC7 BK254 BK255 BK256 BK257 BK258 BK275 BK276 HB (by repeat first | exact lR _ _ | apply lN | apply lD | apply lA) hg hbox hb
                            clear BK254 BK255 BK256 BK257 BK258 BK275 BK276 HB hb hbox hg
                            obtain ⟨BK254, BK255, BK256, BK257, BK258, BK275, BK276, HB, BK290, GW290, GE290, N56_, N57_, N58_, N59_, N60_, N61_, N62_, N63_, N64_, N65_, N66_, N67_, N68_, N69_⟩ := n_
                            refine hK.out _ _ ⟨bC BK254.out 0, bC BK254.out 1, bC BK258.out 0, bC BK258.out 1, bC BK255.out 0, bC BK255.out 1, bC BK256.out 0, bC BK256.out 1, bC BK257.out 0, bC BK257.out 1⟩ (fun hHeld => ?_)
                            clear hK K
                            refine norm_ (a' := ?_) ?_ ?_
                            rotate_left
                            ·show Act.put _ (some 14) _ = _
                             simp only [Act.put, sA, sB, sC, i64_w, i32_w]
                             rfl
                            exact norm_ (by simp only [putAll, Act.put, sA, sB, sC] <;> rfl) (hJ2_17 (b290) _ ⟨hHeld, BK254.out, BK255.out, BK256.out, BK257.out, BK258.out, BK275.out, BK276.out, BK290.out, GW290.out, GE290.out, N56_.out, N57_.out, N58_.out, N59_.out, N60_.out, N61_.out, N62_.out, N63_.out, N64_.out, N65_.out, N66_.out, N67_.out, N68_.out, N69_.out, HB.out⟩)
                         ·skip
                          rintro ⟨b289, b290⟩ w161 ⟨hS_, h0_, h1_, h2_, h3_, h4_, h5_, h6_, h7_, h8_, h9_, h10_, h11_, h12_, h13_, h14_, h15_, h16_, h17_, h18_, h19_, h20_, h21_, h22_, h23_, h24_, h25_, h26_, h27_, h28_, h29_, h30_, h31_, h32_, h33_, h34_, h35_, h36_, h37_, h38_, h39_, h40_, h41_, h42_, h43_⟩
                          clear BK254 BK255 BK256 BK257 BK258 BK275 BK276 HB
                          (try dsimp only at h0_ h1_ h2_ h3_ h4_ h5_ h6_ h7_ h8_ h9_ h10_ h11_ h12_ h13_ h14_ h15_ h16_ h17_ h18_ h19_ h20_ h21_ h22_ h23_ h24_ h25_ h26_ h27_ h28_ h29_ h30_ h31_ h32_ h33_ h34_ h35_ h36_ h37_ h38_ h39_ h40_ h41_ h42_ h43_)
                          have BK254 := aM h0_; have BK255 := aM h1_; have BK256 := aM h2_; have BK257 := aM h3_; have BK258 := aM h4_; have BK275 := aM h5_; have BK276 := aM h6_; have BK289 := aM h7_; have BK290 := aM h8_; have GW289 := aM h9_; have GE289 := aM h10_; have N42_ := aM h11_; have N43_ := aM h12_; have N44_ := aM h13_; have N45_ := aM h14_; have N46_ := aM h15_; have N47_ := aM h16_; have N48_ := aM h17_; have N49_ := aM h18_; have N50_ := aM h19_; have N51_ := aM h20_; have N52_ := aM h21_; have N53_ := aM h22_; have N54_ := aM h23_; have N55_ := aM h24_; have N70_ := aM h25_; have N71_ := aM h26_; have GW290 := aM h27_; have GE290 := aM h28_; have N56_ := aM h29_; have N57_ := aM h30_; have N58_ := aM h31_; have N59_ := aM h32_; have N60_ := aM h33_; have N61_ := aM h34_; have N62_ := aM h35_; have N63_ := aM h36_; have N64_ := aM h37_; have N65_ := aM h38_; have N66_ := aM h39_; have N67_ := aM h40_; have N68_ := aM h41_; have N69_ := aM h42_; have HB := aM h43_
                          clear h0_ h1_ h2_ h3_ h4_ h5_ h6_ h7_ h8_ h9_ h10_ h11_ h12_ h13_ h14_ h15_ h16_ h17_ h18_ h19_ h20_ h21_ h22_ h23_ h24_ h25_ h26_ h27_ h28_ h29_ h30_ h31_ h32_ h33_ h34_ h35_ h36_ h37_ h38_ h39_ h40_ h41_ h42_ h43_
                          have hHeld : w161.cell? ⟨b254, 0, none⟩ = some (.int .i32 a0_0) ∧ w161.cell? ⟨b254, 1, none⟩ = some (.int .i32 a0_1) ∧ w161.cell? ⟨b258, 0, none⟩ = some (.int .i32 a4_0) ∧ w161.cell? ⟨b258, 1, none⟩ = some (.int .i32 a4_1) ∧ w161.cell? ⟨b255, 0, none⟩ = some (.int .i32 a1_0) ∧ w161.cell? ⟨b255, 1, none⟩ = some (.int .i32 a1_1) ∧ w161.cell? ⟨b256, 0, none⟩ = some (.int .i32 a2_0) ∧ w161.cell? ⟨b256, 1, none⟩ = some (.int .i32 a2_1) ∧ w161.cell? ⟨b257, 0, none⟩ = some (.int .i32 a3_0) ∧ w161.cell? ⟨b257, 1, none⟩ = some (.int .i32 a3_1) := hS_
                          refine norm_ (a' := ?_) ?_ ?_
                          rotate_left
                          ·simp only [putAll, Act.put, sA, sB, sC]
                           rfl
                          refine one_ (i := 2) (N := some 71) #[T,T,T,T,T,F,T,T,F,T,T,F,F,F,F,F,T,T,F,F] rfl rfl (one_of HT_.out (by kernel_rfl)) (by decide) (fun K hK => ?_)
                          refine goes_ Try.func15 (by kernel_rfl) rfl #[.agg #[.int .i32 a0_0, .int .i32 a0_1], .agg #[.int .i32 a4_0, .int .i32 a4_1]] (by rfl) rfl rfl (by (try simp only [List.map_toArray, List.map_cons, List.map_nil]); first | done | rfl | (simp only [List.length_drop, List.length_take]; rfl)) ?_
                          with_reducible refine (billiardlaw13_move.calls a0_0 a0_1 a4_0 a4_1 t277 t278 _ A113.out).mono ?_
                          rintro e w162 ⟨rfl, hb⟩
                          refine ⟨_, rfl, ?_⟩
                          have n_ := kB9 BK254 BK255 BK256 BK257 BK258 BK275 BK276 BK289 BK290 HB (by repeat first | exact lR _ _ | apply lN | apply lD | apply lA) hb
                          clear BK254 BK255 BK256 BK257 BK258 BK275 BK276 BK289 BK290 HB
                          obtain ⟨BK254, BK255, BK256, BK257, BK258, BK275, BK276, BK289, BK290, HB⟩ := n_
                          (try clear hb)
                          (try clear hb2)
                          (try clear hk)
                          (try clear hi)
                          refine hK.out _ _ ⟨bC BK254.out 0, bC BK254.out 1, bC BK258.out 0, bC BK258.out 1, bC BK255.out 0, bC BK255.out 1, bC BK256.out 0, bC BK256.out 1, bC BK257.out 0, bC BK257.out 1⟩ (fun hHeld => ?_)
                          clear hK K
                          refine norm_ (a' := ?_) ?_ ?_
                          rotate_left
                          ·show Act.put _ (some 71) _ = _
                           simp only [Act.put, sA, sB, sC, i64_w, i32_w]
                           rfl
                          exact norm_ (by simp only [putAll, Act.put, sA, sB, sC] <;> rfl) (hJ2_16_17 (b289, b290) _ ⟨hHeld, BK254.out, BK255.out, BK256.out, BK257.out, BK258.out, BK275.out, BK276.out, BK289.out, BK290.out, GW289.out, GE289.out, N42_.out, N43_.out, N44_.out, N45_.out, N46_.out, N47_.out, N48_.out, N49_.out, N50_.out, N51_.out, N52_.out, N53_.out, N54_.out, N55_.out, N70_.out, N71_.out, GW290.out, GE290.out, N56_.out, N57_.out, N58_.out, N59_.out, N60_.out, N61_.out, N62_.out, N63_.out, N64_.out, N65_.out, N66_.out, N67_.out, N68_.out, N69_.out, HB.out⟩)
                        ·skip
                         rintro b290 w161 ⟨hS_, h0_, h1_, h2_, h3_, h4_, h5_, h6_, h7_, h8_, h9_, h10_, h11_, h12_, h13_, h14_, h15_, h16_, h17_, h18_, h19_, h20_, h21_, h22_, h23_, h24_⟩
                         clear BK254 BK255 BK256 BK257 BK258 BK275 BK276 HB
                         have BK254 := aM h0_; have BK255 := aM h1_; have BK256 := aM h2_; have BK257 := aM h3_; have BK258 := aM h4_; have BK275 := aM h5_; have BK276 := aM h6_; have BK290 := aM h7_; have GW290 := aM h8_; have GE290 := aM h9_; have N56_ := aM h10_; have N57_ := aM h11_; have N58_ := aM h12_; have N59_ := aM h13_; have N60_ := aM h14_; have N61_ := aM h15_; have N62_ := aM h16_; have N63_ := aM h17_; have N64_ := aM h18_; have N65_ := aM h19_; have N66_ := aM h20_; have N67_ := aM h21_; have N68_ := aM h22_; have N69_ := aM h23_; have HB := aM h24_
                         clear h0_ h1_ h2_ h3_ h4_ h5_ h6_ h7_ h8_ h9_ h10_ h11_ h12_ h13_ h14_ h15_ h16_ h17_ h18_ h19_ h20_ h21_ h22_ h23_ h24_
                         have hHeld := hS_
                         refine norm_ (a' := ?_) ?_ ?_
                         rotate_left
                         ·simp only [putAll, Act.put, sA, sB, sC]
                          rfl
                         refine two_ (i := 5) (j := 16) (Ni := some 74) (Nj := some 13) #[T,T,T,T,T,T,T,T,F,T,T,F,F,F,F,F,F,T,F,F] #[T,T,T,T,T,F,T,T,F,T,T,F,F,F,F,F,T,T,F,F] rfl rfl rfl rfl (two_of HT_.out (by kernel_rfl)) (by decide) (by decide) (fun K hK => ?_) (fun K hK => ?_)
                         ·skip
                          refine goes_ Try.func15 (by kernel_rfl) rfl #[.agg #[.int .i32 a1_0, .int .i32 a1_1], .agg #[.int .i32 a4_0, .int .i32 a4_1]] (by rfl) rfl rfl (by (try simp only [List.map_toArray, List.map_cons, List.map_nil]); first | done | rfl | (simp only [List.length_drop, List.length_take]; rfl)) ?_
                          with_reducible refine (billiardlaw13_move.calls a1_0 a1_1 a4_0 a4_1 t279 t280 _ A114.out).mono ?_
                          rintro e w162 ⟨rfl, hb⟩
                          refine ⟨_, rfl, ?_⟩
                          have n_ := kB8 BK254 BK255 BK256 BK257 BK258 BK275 BK276 BK290 HB (by repeat first | exact lR _ _ | apply lN | apply lD | apply lA) hb
                          clear BK254 BK255 BK256 BK257 BK258 BK275 BK276 BK290 HB
                          obtain ⟨BK254, BK255, BK256, BK257, BK258, BK275, BK276, BK290, HB⟩ := n_
                          (try clear hb)
                          (try clear hb2)
                          (try clear hk)
                          (try clear hi)
                          refine hK.out _ _ ⟨bC BK254.out 0, bC BK254.out 1, bC BK258.out 0, bC BK258.out 1, bC BK255.out 0, bC BK255.out 1, bC BK256.out 0, bC BK256.out 1, bC BK257.out 0, bC BK257.out 1⟩ (fun hHeld => ?_)
                          clear hK K
                          refine norm_ (a' := ?_) ?_ ?_
                          rotate_left
                          ·show Act.put _ (some 74) _ = _
                           simp only [Act.put, sA, sB, sC, i64_w, i32_w]
                           rfl
                          exact norm_ (by simp only [putAll, Act.put, sA, sB, sC] <;> rfl) (hJ2_5_17 (b290) _ ⟨hHeld, BK254.out, BK255.out, BK256.out, BK257.out, BK258.out, BK275.out, BK276.out, BK290.out, GW290.out, GE290.out, N56_.out, N57_.out, N58_.out, N59_.out, N60_.out, N61_.out, N62_.out, N63_.out, N64_.out, N65_.out, N66_.out, N67_.out, N68_.out, N69_.out, HB.out⟩)
                         ·skip
                          refine box_step ?hg (N := 13) ?hd (cs := #[.int .i32 0, .int .i32 0]) (t := 23) ?hr ?_; (case hd => rfl); (case hg => rfl); (case hr => first | (go_simp; done) | (go_simp; rfl))
                          intro b289 hg w162 hbox hb
                          have n_ := kC8 BK254 BK255 BK256 BK257 BK258 BK275 BK276 BK290 HB (by repeat first | exact lR _ _ | apply lN | apply lD | apply lA) hg hbox hb
                          clear BK254 BK255 BK256 BK257 BK258 BK275 BK276 BK290 HB hb hbox hg
                          obtain ⟨BK254, BK255, BK256, BK257, BK258, BK275, BK276, BK290, HB, BK289, GW289, GE289, N42_, N43_, N44_, N45_, N46_, N47_, N48_, N49_, N50_, N51_, N52_, N53_, N54_, N55_, N70_, N71_⟩ := n_
                          refine hK.out _ _ ⟨bC BK254.out 0, bC BK254.out 1, bC BK258.out 0, bC BK258.out 1, bC BK255.out 0, bC BK255.out 1, bC BK256.out 0, bC BK256.out 1, bC BK257.out 0, bC BK257.out 1⟩ (fun hHeld => ?_)
                          clear hK K
                          refine norm_ (a' := ?_) ?_ ?_
                          rotate_left
                          ·show Act.put _ (some 13) _ = _
                           simp only [Act.put, sA, sB, sC, i64_w, i32_w]
                           rfl
                          exact norm_ (by simp only [putAll, Act.put, sA, sB, sC] <;> rfl) (hJ2_16_17 (b289, b290) _ ⟨hHeld, BK254.out, BK255.out, BK256.out, BK257.out, BK258.out, BK275.out, BK276.out, BK289.out, BK290.out, GW289.out, GE289.out, N42_.out, N43_.out, N44_.out, N45_.out, N46_.out, N47_.out, N48_.out, N49_.out, N50_.out, N51_.out, N52_.out, N53_.out, N54_.out, N55_.out, N70_.out, N71_.out, GW290.out, GE290.out, N56_.out, N57_.out, N58_.out, N59_.out, N60_.out, N61_.out, N62_.out, N63_.out, N64_.out, N65_.out, N66_.out, N67_.out, N68_.out, N69_.out, HB.out⟩)
                       ·skip
                        rintro b289 w161 ⟨hS_, h0_, h1_, h2_, h3_, h4_, h5_, h6_, h7_, h8_, h9_, h10_, h11_, h12_, h13_, h14_, h15_, h16_, h17_, h18_, h19_, h20_, h21_, h22_, h23_, h24_⟩
                        clear BK254 BK255 BK256 BK257 BK258 BK275 BK276 HB
                        have BK254 := aM h0_; have BK255 := aM h1_; have BK256 := aM h2_; have BK257 := aM h3_; have BK258 := aM h4_; have BK275 := aM h5_; have BK276 := aM h6_; have BK289 := aM h7_; have GW289 := aM h8_; have GE289 := aM h9_; have N42_ := aM h10_; have N43_ := aM h11_; have N44_ := aM h12_; have N45_ := aM h13_; have N46_ := aM h14_; have N47_ := aM h15_; have N48_ := aM h16_; have N49_ := aM h17_; have N50_ := aM h18_; have N51_ := aM h19_; have N52_ := aM h20_; have N53_ := aM h21_; have N54_ := aM h22_; have N55_ := aM h23_; have HB := aM h24_
                        clear h0_ h1_ h2_ h3_ h4_ h5_ h6_ h7_ h8_ h9_ h10_ h11_ h12_ h13_ h14_ h15_ h16_ h17_ h18_ h19_ h20_ h21_ h22_ h23_ h24_
                        have hHeld := hS_
                        refine norm_ (a' := ?_) ?_ ?_
                        rotate_left
                        ·simp only [putAll, Act.put, sA, sB, sC]
                         rfl
                        refine two_ (i := 5) (j := 17) (Ni := some 74) (Nj := some 14) #[T,T,T,T,T,T,T,T,F,T,T,F,F,F,F,F,T,F,F,F] #[T,T,T,T,T,F,T,T,F,T,T,F,F,F,F,F,T,T,F,F] rfl rfl rfl rfl (two_of HT_.out (by kernel_rfl)) (by decide) (by decide) (fun K hK => ?_) (fun K hK => ?_)
                        ·skip
                         refine goes_ Try.func15 (by kernel_rfl) rfl #[.agg #[.int .i32 a1_0, .int .i32 a1_1], .agg #[.int .i32 a4_0, .int .i32 a4_1]] (by rfl) rfl rfl (by (try simp only [List.map_toArray, List.map_cons, List.map_nil]); first | done | rfl | (simp only [List.length_drop, List.length_take]; rfl)) ?_
                         with_reducible refine (billiardlaw13_move.calls a1_0 a1_1 a4_0 a4_1 t279 t280 _ A114.out).mono ?_
                         rintro e w162 ⟨rfl, hb⟩
                         refine ⟨_, rfl, ?_⟩
                         have n_ := kB8 BK254 BK255 BK256 BK257 BK258 BK275 BK276 BK289 HB (by repeat first | exact lR _ _ | apply lN | apply lD | apply lA) hb
                         clear BK254 BK255 BK256 BK257 BK258 BK275 BK276 BK289 HB
                         obtain ⟨BK254, BK255, BK256, BK257, BK258, BK275, BK276, BK289, HB⟩ := n_
                         (try clear hb)
                         (try clear hb2)
                         (try clear hk)
                         (try clear hi)
                         refine hK.out _ _ ⟨bC BK254.out 0, bC BK254.out 1, bC BK258.out 0, bC BK258.out 1, bC BK255.out 0, bC BK255.out 1, bC BK256.out 0, bC BK256.out 1, bC BK257.out 0, bC BK257.out 1⟩ (fun hHeld => ?_)
                         clear hK K
                         refine norm_ (a' := ?_) ?_ ?_
                         rotate_left
                         ·show Act.put _ (some 74) _ = _
                          simp only [Act.put, sA, sB, sC, i64_w, i32_w]
                          rfl
                         exact norm_ (by simp only [putAll, Act.put, sA, sB, sC] <;> rfl) (hJ2_5_16 (b289) _ ⟨hHeld, BK254.out, BK255.out, BK256.out, BK257.out, BK258.out, BK275.out, BK276.out, BK289.out, GW289.out, GE289.out, N42_.out, N43_.out, N44_.out, N45_.out, N46_.out, N47_.out, N48_.out, N49_.out, N50_.out, N51_.out, N52_.out, N53_.out, N54_.out, N55_.out, HB.out⟩)
                        ·skip
                         refine box_step ?hg (N := 14) ?hd (cs := #[.int .i32 0, .int .i32 0]) (t := 23) ?hr ?_; (case hd => rfl); (case hg => rfl); (case hr => first | (go_simp; done) | (go_simp; rfl))
                         intro b290 hg w162 hbox hb
                         have n_ := kC8 BK254 BK255 BK256 BK257 BK258 BK275 BK276 BK289 HB (by repeat first | exact lR _ _ | apply lN | apply lD | apply lA) hg hbox hb
                         clear BK254 BK255 BK256 BK257 BK258 BK275 BK276 BK289 HB hb hbox hg
                         obtain ⟨BK254, BK255, BK256, BK257, BK258, BK275, BK276, BK289, HB, BK290, GW290, GE290, N56_, N57_, N58_, N59_, N60_, N61_, N62_, N63_, N64_, N65_, N66_, N67_, N68_, N69_, N71_, N70_⟩ := n_
                         refine hK.out _ _ ⟨bC BK254.out 0, bC BK254.out 1, bC BK258.out 0, bC BK258.out 1, bC BK255.out 0, bC BK255.out 1, bC BK256.out 0, bC BK256.out 1, bC BK257.out 0, bC BK257.out 1⟩ (fun hHeld => ?_)
                         clear hK K
                         refine norm_ (a' := ?_) ?_ ?_
                         rotate_left
                         ·show Act.put _ (some 14) _ = _
                          simp only [Act.put, sA, sB, sC, i64_w, i32_w]
                          rfl
                         exact norm_ (by simp only [putAll, Act.put, sA, sB, sC] <;> rfl) (hJ2_16_17 (b289, b290) _ ⟨hHeld, BK254.out, BK255.out, BK256.out, BK257.out, BK258.out, BK275.out, BK276.out, BK289.out, BK290.out, GW289.out, GE289.out, N42_.out, N43_.out, N44_.out, N45_.out, N46_.out, N47_.out, N48_.out, N49_.out, N50_.out, N51_.out, N52_.out, N53_.out, N54_.out, N55_.out, N70_.out, N71_.out, GW290.out, GE290.out, N56_.out, N57_.out, N58_.out, N59_.out, N60_.out, N61_.out, N62_.out, N63_.out, N64_.out, N65_.out, N66_.out, N67_.out, N68_.out, N69_.out, HB.out⟩)
                      ·skip
                       rintro _ w161 ⟨hS_, h0_, h1_, h2_, h3_, h4_, h5_, h6_, h7_⟩
                       clear BK254 BK255 BK256 BK257 BK258 BK275 BK276 HB
                       have BK254 := aM h0_; have BK255 := aM h1_; have BK256 := aM h2_; have BK257 := aM h3_; have BK258 := aM h4_; have BK275 := aM h5_; have BK276 := aM h6_; have HB := aM h7_
                       clear h0_ h1_ h2_ h3_ h4_ h5_ h6_ h7_
                       have hHeld := hS_
                       refine norm_ (a' := ?_) ?_ ?_
                       rotate_left
                       ·simp only [putAll, Act.put, sA, sB, sC]
                        rfl
                       refine three_ (i := 8) (j := 16) (k := 17) (Ni := some 77) (Nj := some 13) (Nk := some 14) #[T,T,T,T,T,T,T,T,T,T,T,F,F,F,F,F,F,F,F,F] #[T,T,T,T,T,T,T,T,F,T,T,F,F,F,F,F,T,F,F,F] #[T,T,T,T,T,T,T,T,F,T,T,F,F,F,F,F,F,T,F,F] rfl rfl rfl rfl rfl rfl (three_of HT_.out (by kernel_rfl)) (by decide) (by decide) (by decide) (fun K hK => ?_) (fun K hK => ?_) (fun K hK => ?_)
                       ·skip
                        refine goes_ Try.func15 (by kernel_rfl) rfl #[.agg #[.int .i32 a2_0, .int .i32 a2_1], .agg #[.int .i32 a4_0, .int .i32 a4_1]] (by rfl) rfl rfl (by (try simp only [List.map_toArray, List.map_cons, List.map_nil]); first | done | rfl | (simp only [List.length_drop, List.length_take]; rfl)) ?_
                        with_reducible refine (billiardlaw13_move.calls a2_0 a2_1 a4_0 a4_1 t281 t282 _ A115.out).mono ?_
                        rintro e w162 ⟨rfl, hb⟩
                        refine ⟨_, rfl, ?_⟩
                        have n_ := kB7 BK254 BK255 BK256 BK257 BK258 BK275 BK276 HB (by repeat first | exact lR _ _ | apply lN | apply lD | apply lA) hb
                        clear BK254 BK255 BK256 BK257 BK258 BK275 BK276 HB
                        obtain ⟨BK254, BK255, BK256, BK257, BK258, BK275, BK276, HB⟩ := n_
                        (try clear hb)
                        (try clear hb2)
                        (try clear hk)
                        (try clear hi)
                        refine hK.out _ _ ⟨bC BK254.out 0, bC BK254.out 1, bC BK258.out 0, bC BK258.out 1, bC BK255.out 0, bC BK255.out 1, bC BK256.out 0, bC BK256.out 1, bC BK257.out 0, bC BK257.out 1⟩ (fun hHeld => ?_)
                        clear hK K
                        refine norm_ (a' := ?_) ?_ ?_
                        rotate_left
                        ·show Act.put _ (some 77) _ = _
                         simp only [Act.put, sA, sB, sC, i64_w, i32_w]
                         rfl
                        exact norm_ (by simp only [putAll, Act.put, sA, sB, sC] <;> rfl) (hJ2_5_8 () _ ⟨hHeld, BK254.out, BK255.out, BK256.out, BK257.out, BK258.out, BK275.out, BK276.out, HB.out⟩)
                       ·skip
                        refine box_step ?hg (N := 13) ?hd (cs := #[.int .i32 0, .int .i32 0]) (t := 23) ?hr ?_; (case hd => rfl); (case hg => rfl); (case hr => first | (go_simp; done) | (go_simp; rfl))
                        intro b289 hg w162 hbox hb
                        have n_ := kC7 BK254 BK255 BK256 BK257 BK258 BK275 BK276 HB (by repeat first | exact lR _ _ | apply lN | apply lD | apply lA) hg hbox hb
                        clear BK254 BK255 BK256 BK257 BK258 BK275 BK276 HB hb hbox hg
                        obtain ⟨BK254, BK255, BK256, BK257, BK258, BK275, BK276, HB, BK289, GW289, GE289, N42_, N43_, N44_, N45_, N46_, N47_, N48_, N49_, N50_, N51_, N52_, N53_, N54_, N55_⟩ := n_
                        refine hK.out _ _ ⟨bC BK254.out 0, bC BK254.out 1, bC BK258.out 0, bC BK258.out 1, bC BK255.out 0, bC BK255.out 1, bC BK256.out 0, bC BK256.out 1, bC BK257.out 0, bC BK257.out 1⟩ (fun hHeld => ?_)
                        clear hK K
                        refine norm_ (a' := ?_) ?_ ?_
                        rotate_left
                        ·show Act.put _ (some 13) _ = _
                         simp only [Act.put, sA, sB, sC, i64_w, i32_w]
                         rfl
                        exact norm_ (by simp only [putAll, Act.put, sA, sB, sC] <;> rfl) (hJ2_5_16 (b289) _ ⟨hHeld, BK254.out, BK255.out, BK256.out, BK257.out, BK258.out, BK275.out, BK276.out, BK289.out, GW289.out, GE289.out, N42_.out, N43_.out, N44_.out, N45_.out, N46_.out, N47_.out, N48_.out, N49_.out, N50_.out, N51_.out, N52_.out, N53_.out, N54_.out, N55_.out, HB.out⟩)
                       ·skip
                        refine box_step ?hg (N := 14) ?hd (cs := #[.int .i32 0, .int .i32 0]) (t := 23) ?hr ?_; (case hd => rfl); (case hg => rfl); (case hr => first | (go_simp; done) | (go_simp; rfl))
                        intro b290 hg w162 hbox hb
                        have n_ := kC7 BK254 BK255 BK256 BK257 BK258 BK275 BK276 HB (by repeat first | exact lR _ _ | apply lN | apply lD | apply lA) hg hbox hb
                        clear BK254 BK255 BK256 BK257 BK258 BK275 BK276 HB hb hbox hg
                        obtain ⟨BK254, BK255, BK256, BK257, BK258, BK275, BK276, HB, BK290, GW290, GE290, N56_, N57_, N58_, N59_, N60_, N61_, N62_, N63_, N64_, N65_, N66_, N67_, N68_, N69_⟩ := n_
                        refine hK.out _ _ ⟨bC BK254.out 0, bC BK254.out 1, bC BK258.out 0, bC BK258.out 1, bC BK255.out 0, bC BK255.out 1, bC BK256.out 0, bC BK256.out 1, bC BK257.out 0, bC BK257.out 1⟩ (fun hHeld => ?_)
                        clear hK K
                        refine norm_ (a' := ?_) ?_ ?_
                        rotate_left
                        ·show Act.put _ (some 14) _ = _
                         simp only [Act.put, sA, sB, sC, i64_w, i32_w]
                         rfl
                        exact norm_ (by simp only [putAll, Act.put, sA, sB, sC] <;> rfl) (hJ2_5_17 (b290) _ ⟨hHeld, BK254.out, BK255.out, BK256.out, BK257.out, BK258.out, BK275.out, BK276.out, BK290.out, GW290.out, GE290.out, N56_.out, N57_.out, N58_.out, N59_.out, N60_.out, N61_.out, N62_.out, N63_.out, N64_.out, N65_.out, N66_.out, N67_.out, N68_.out, N69_.out, HB.out⟩)
                     ·skip
                      rintro ⟨b289, b290⟩ w162 ⟨hS_, h0_, h1_, h2_, h3_, h4_, h5_, h6_, h7_, h8_, h9_, h10_, h11_, h12_, h13_, h14_, h15_, h16_, h17_, h18_, h19_, h20_, h21_, h22_, h23_, h24_, h25_, h26_, h27_, h28_, h29_, h30_, h31_, h32_, h33_, h34_, h35_, h36_, h37_, h38_, h39_, h40_, h41_, h42_, h43_⟩
                      clear BK254 BK255 BK256 BK257 BK258 BK275 BK276 HB
                      (try dsimp only at h0_ h1_ h2_ h3_ h4_ h5_ h6_ h7_ h8_ h9_ h10_ h11_ h12_ h13_ h14_ h15_ h16_ h17_ h18_ h19_ h20_ h21_ h22_ h23_ h24_ h25_ h26_ h27_ h28_ h29_ h30_ h31_ h32_ h33_ h34_ h35_ h36_ h37_ h38_ h39_ h40_ h41_ h42_ h43_)
                      have BK254 := aM h0_; have BK255 := aM h1_; have BK256 := aM h2_; have BK257 := aM h3_; have BK258 := aM h4_; have BK275 := aM h5_; have BK276 := aM h6_; have BK289 := aM h7_; have BK290 := aM h8_; have GW289 := aM h9_; have GE289 := aM h10_; have N42_ := aM h11_; have N43_ := aM h12_; have N44_ := aM h13_; have N45_ := aM h14_; have N46_ := aM h15_; have N47_ := aM h16_; have N48_ := aM h17_; have N49_ := aM h18_; have N50_ := aM h19_; have N51_ := aM h20_; have N52_ := aM h21_; have N53_ := aM h22_; have N54_ := aM h23_; have N55_ := aM h24_; have N70_ := aM h25_; have N71_ := aM h26_; have GW290 := aM h27_; have GE290 := aM h28_; have N56_ := aM h29_; have N57_ := aM h30_; have N58_ := aM h31_; have N59_ := aM h32_; have N60_ := aM h33_; have N61_ := aM h34_; have N62_ := aM h35_; have N63_ := aM h36_; have N64_ := aM h37_; have N65_ := aM h38_; have N66_ := aM h39_; have N67_ := aM h40_; have N68_ := aM h41_; have N69_ := aM h42_; have HB := aM h43_
                      clear h0_ h1_ h2_ h3_ h4_ h5_ h6_ h7_ h8_ h9_ h10_ h11_ h12_ h13_ h14_ h15_ h16_ h17_ h18_ h19_ h20_ h21_ h22_ h23_ h24_ h25_ h26_ h27_ h28_ h29_ h30_ h31_ h32_ h33_ h34_ h35_ h36_ h37_ h38_ h39_ h40_ h41_ h42_ h43_
                      have hHeld : w162.cell? ⟨b254, 0, none⟩ = some (.int .i32 a0_0) ∧ w162.cell? ⟨b254, 1, none⟩ = some (.int .i32 a0_1) ∧ w162.cell? ⟨b258, 0, none⟩ = some (.int .i32 a4_0) ∧ w162.cell? ⟨b258, 1, none⟩ = some (.int .i32 a4_1) ∧ w162.cell? ⟨b255, 0, none⟩ = some (.int .i32 a1_0) ∧ w162.cell? ⟨b255, 1, none⟩ = some (.int .i32 a1_1) ∧ w162.cell? ⟨b256, 0, none⟩ = some (.int .i32 a2_0) ∧ w162.cell? ⟨b256, 1, none⟩ = some (.int .i32 a2_1) ∧ w162.cell? ⟨b257, 0, none⟩ = some (.int .i32 a3_0) ∧ w162.cell? ⟨b257, 1, none⟩ = some (.int .i32 a3_1) := hS_
                      refine norm_ (a' := ?_) ?_ ?_
                      rotate_left
                      ·simp only [putAll, Act.put, sA, sB, sC]
                       rfl
                      refine one_ (i := 5) (N := some 74) #[T,T,T,T,T,T,T,T,F,T,T,F,F,F,F,F,T,T,F,F] rfl rfl (one_of HT_.out (by kernel_rfl)) (by decide) (fun K hK => ?_)
                      refine goes_ Try.func15 (by kernel_rfl) rfl #[.agg #[.int .i32 a1_0, .int .i32 a1_1], .agg #[.int .i32 a4_0, .int .i32 a4_1]] (by rfl) rfl rfl (by (try simp only [List.map_toArray, List.map_cons, List.map_nil]); first | done | rfl | (simp only [List.length_drop, List.length_take]; rfl)) ?_
                      with_reducible refine (billiardlaw13_move.calls a1_0 a1_1 a4_0 a4_1 t279 t280 _ A114.out).mono ?_
                      rintro e w163 ⟨rfl, hb⟩
                      refine ⟨_, rfl, ?_⟩
                      have n_ := kB9 BK254 BK255 BK256 BK257 BK258 BK275 BK276 BK289 BK290 HB (by repeat first | exact lR _ _ | apply lN | apply lD | apply lA) hb
                      clear BK254 BK255 BK256 BK257 BK258 BK275 BK276 BK289 BK290 HB
                      obtain ⟨BK254, BK255, BK256, BK257, BK258, BK275, BK276, BK289, BK290, HB⟩ := n_
                      (try clear hb)
                      (try clear hb2)
                      (try clear hk)
                      (try clear hi)
                      refine hK.out _ _ ⟨bC BK254.out 0, bC BK254.out 1, bC BK258.out 0, bC BK258.out 1, bC BK255.out 0, bC BK255.out 1, bC BK256.out 0, bC BK256.out 1, bC BK257.out 0, bC BK257.out 1⟩ (fun hHeld => ?_)
                      clear hK K
                      refine norm_ (a' := ?_) ?_ ?_
                      rotate_left
                      ·show Act.put _ (some 74) _ = _
                       simp only [Act.put, sA, sB, sC, i64_w, i32_w]
                       rfl
                      exact norm_ (by simp only [putAll, Act.put, sA, sB, sC] <;> rfl) (hJ2_5_16_17 (b289, b290) _ ⟨hHeld, BK254.out, BK255.out, BK256.out, BK257.out, BK258.out, BK275.out, BK276.out, BK289.out, BK290.out, GW289.out, GE289.out, N42_.out, N43_.out, N44_.out, N45_.out, N46_.out, N47_.out, N48_.out, N49_.out, N50_.out, N51_.out, N52_.out, N53_.out, N54_.out, N55_.out, N70_.out, N71_.out, GW290.out, GE290.out, N56_.out, N57_.out, N58_.out, N59_.out, N60_.out, N61_.out, N62_.out, N63_.out, N64_.out, N65_.out, N66_.out, N67_.out, N68_.out, N69_.out, HB.out⟩)
                    ·skip
                     rintro b290 w162 ⟨hS_, h0_, h1_, h2_, h3_, h4_, h5_, h6_, h7_, h8_, h9_, h10_, h11_, h12_, h13_, h14_, h15_, h16_, h17_, h18_, h19_, h20_, h21_, h22_, h23_, h24_⟩
                     clear BK254 BK255 BK256 BK257 BK258 BK275 BK276 HB
                     have BK254 := aM h0_; have BK255 := aM h1_; have BK256 := aM h2_; have BK257 := aM h3_; have BK258 := aM h4_; have BK275 := aM h5_; have BK276 := aM h6_; have BK290 := aM h7_; have GW290 := aM h8_; have GE290 := aM h9_; have N56_ := aM h10_; have N57_ := aM h11_; have N58_ := aM h12_; have N59_ := aM h13_; have N60_ := aM h14_; have N61_ := aM h15_; have N62_ := aM h16_; have N63_ := aM h17_; have N64_ := aM h18_; have N65_ := aM h19_; have N66_ := aM h20_; have N67_ := aM h21_; have N68_ := aM h22_; have N69_ := aM h23_; have HB := aM h24_
                     clear h0_ h1_ h2_ h3_ h4_ h5_ h6_ h7_ h8_ h9_ h10_ h11_ h12_ h13_ h14_ h15_ h16_ h17_ h18_ h19_ h20_ h21_ h22_ h23_ h24_
                     have hHeld := hS_
                     refine norm_ (a' := ?_) ?_ ?_
                     rotate_left
                     ·simp only [putAll, Act.put, sA, sB, sC]
                      rfl
                     refine two_ (i := 8) (j := 16) (Ni := some 77) (Nj := some 13) #[T,T,T,T,T,T,T,T,T,T,T,F,F,F,F,F,F,T,F,F] #[T,T,T,T,T,T,T,T,F,T,T,F,F,F,F,F,T,T,F,F] rfl rfl rfl rfl (two_of HT_.out (by kernel_rfl)) (by decide) (by decide) (fun K hK => ?_) (fun K hK => ?_)
                     ·skip
                      refine goes_ Try.func15 (by kernel_rfl) rfl #[.agg #[.int .i32 a2_0, .int .i32 a2_1], .agg #[.int .i32 a4_0, .int .i32 a4_1]] (by rfl) rfl rfl (by (try simp only [List.map_toArray, List.map_cons, List.map_nil]); first | done | rfl | (simp only [List.length_drop, List.length_take]; rfl)) ?_
                      with_reducible refine (billiardlaw13_move.calls a2_0 a2_1 a4_0 a4_1 t281 t282 _ A115.out).mono ?_
                      rintro e w163 ⟨rfl, hb⟩
                      refine ⟨_, rfl, ?_⟩
                      have n_ := kB8 BK254 BK255 BK256 BK257 BK258 BK275 BK276 BK290 HB (by repeat first | exact lR _ _ | apply lN | apply lD | apply lA) hb
                      clear BK254 BK255 BK256 BK257 BK258 BK275 BK276 BK290 HB
                      obtain ⟨BK254, BK255, BK256, BK257, BK258, BK275, BK276, BK290, HB⟩ := n_
                      (try clear hb)
                      (try clear hb2)
                      (try clear hk)
                      (try clear hi)
                      refine hK.out _ _ ⟨bC BK254.out 0, bC BK254.out 1, bC BK258.out 0, bC BK258.out 1, bC BK255.out 0, bC BK255.out 1, bC BK256.out 0, bC BK256.out 1, bC BK257.out 0, bC BK257.out 1⟩ (fun hHeld => ?_)
                      clear hK K
                      refine norm_ (a' := ?_) ?_ ?_
                      rotate_left
                      ·show Act.put _ (some 77) _ = _
                       simp only [Act.put, sA, sB, sC, i64_w, i32_w]
                       rfl
                      exact norm_ (by simp only [putAll, Act.put, sA, sB, sC] <;> rfl) (hJ2_5_8_17 (b290) _ ⟨hHeld, BK254.out, BK255.out, BK256.out, BK257.out, BK258.out, BK275.out, BK276.out, BK290.out, GW290.out, GE290.out, N56_.out, N57_.out, N58_.out, N59_.out, N60_.out, N61_.out, N62_.out, N63_.out, N64_.out, N65_.out, N66_.out, N67_.out, N68_.out, N69_.out, HB.out⟩)
                     ·skip
                      refine box_step ?hg (N := 13) ?hd (cs := #[.int .i32 0, .int .i32 0]) (t := 23) ?hr ?_; (case hd => rfl); (case hg => rfl); (case hr => first | (go_simp; done) | (go_simp; rfl))
                      intro b289 hg w163 hbox hb
                      have n_ := kC8 BK254 BK255 BK256 BK257 BK258 BK275 BK276 BK290 HB (by repeat first | exact lR _ _ | apply lN | apply lD | apply lA) hg hbox hb
                      clear BK254 BK255 BK256 BK257 BK258 BK275 BK276 BK290 HB hb hbox hg
                      obtain ⟨BK254, BK255, BK256, BK257, BK258, BK275, BK276, BK290, HB, BK289, GW289, GE289, N42_, N43_, N44_, N45_, N46_, N47_, N48_, N49_, N50_, N51_, N52_, N53_, N54_, N55_, N70_, N71_⟩ := n_
                      refine hK.out _ _ ⟨bC BK254.out 0, bC BK254.out 1, bC BK258.out 0, bC BK258.out 1, bC BK255.out 0, bC BK255.out 1, bC BK256.out 0, bC BK256.out 1, bC BK257.out 0, bC BK257.out 1⟩ (fun hHeld => ?_)
                      clear hK K
                      refine norm_ (a' := ?_) ?_ ?_
                      rotate_left
                      ·show Act.put _ (some 13) _ = _
                       simp only [Act.put, sA, sB, sC, i64_w, i32_w]
                       rfl
                      exact norm_ (by simp only [putAll, Act.put, sA, sB, sC] <;> rfl) (hJ2_5_16_17 (b289, b290) _ ⟨hHeld, BK254.out, BK255.out, BK256.out, BK257.out, BK258.out, BK275.out, BK276.out, BK289.out, BK290.out, GW289.out, GE289.out, N42_.out, N43_.out, N44_.out, N45_.out, N46_.out, N47_.out, N48_.out, N49_.out, N50_.out, N51_.out, N52_.out, N53_.out, N54_.out, N55_.out, N70_.out, N71_.out, GW290.out, GE290.out, N56_.out, N57_.out, N58_.out, N59_.out, N60_.out, N61_.out, N62_.out, N63_.out, N64_.out, N65_.out, N66_.out, N67_.out, N68_.out, N69_.out, HB.out⟩)
                   ·skip
                    rintro b289 w162 ⟨hS_, h0_, h1_, h2_, h3_, h4_, h5_, h6_, h7_, h8_, h9_, h10_, h11_, h12_, h13_, h14_, h15_, h16_, h17_, h18_, h19_, h20_, h21_, h22_, h23_, h24_⟩
                    clear BK254 BK255 BK256 BK257 BK258 BK275 BK276 HB
                    have BK254 := aM h0_; have BK255 := aM h1_; have BK256 := aM h2_; have BK257 := aM h3_; have BK258 := aM h4_; have BK275 := aM h5_; have BK276 := aM h6_; have BK289 := aM h7_; have GW289 := aM h8_; have GE289 := aM h9_; have N42_ := aM h10_; have N43_ := aM h11_; have N44_ := aM h12_; have N45_ := aM h13_; have N46_ := aM h14_; have N47_ := aM h15_; have N48_ := aM h16_; have N49_ := aM h17_; have N50_ := aM h18_; have N51_ := aM h19_; have N52_ := aM h20_; have N53_ := aM h21_; have N54_ := aM h22_; have N55_ := aM h23_; have HB := aM h24_
                    clear h0_ h1_ h2_ h3_ h4_ h5_ h6_ h7_ h8_ h9_ h10_ h11_ h12_ h13_ h14_ h15_ h16_ h17_ h18_ h19_ h20_ h21_ h22_ h23_ h24_
                    have hHeld := hS_
                    refine norm_ (a' := ?_) ?_ ?_
                    rotate_left
                    ·simp only [putAll, Act.put, sA, sB, sC]
                     rfl
                    refine two_ (i := 8) (j := 17) (Ni := some 77) (Nj := some 14) #[T,T,T,T,T,T,T,T,T,T,T,F,F,F,F,F,T,F,F,F] #[T,T,T,T,T,T,T,T,F,T,T,F,F,F,F,F,T,T,F,F] rfl rfl rfl rfl (two_of HT_.out (by kernel_rfl)) (by decide) (by decide) (fun K hK => ?_) (fun K hK => ?_)
                    ·skip
                     refine goes_ Try.func15 (by kernel_rfl) rfl #[.agg #[.int .i32 a2_0, .int .i32 a2_1], .agg #[.int .i32 a4_0, .int .i32 a4_1]] (by rfl) rfl rfl (by (try simp only [List.map_toArray, List.map_cons, List.map_nil]); first | done | rfl | (simp only [List.length_drop, List.length_take]; rfl)) ?_
                     with_reducible refine (billiardlaw13_move.calls a2_0 a2_1 a4_0 a4_1 t281 t282 _ A115.out).mono ?_
                     rintro e w163 ⟨rfl, hb⟩
                     refine ⟨_, rfl, ?_⟩
                     have n_ := kB8 BK254 BK255 BK256 BK257 BK258 BK275 BK276 BK289 HB (by repeat first | exact lR _ _ | apply lN | apply lD | apply lA) hb
                     clear BK254 BK255 BK256 BK257 BK258 BK275 BK276 BK289 HB
                     obtain ⟨BK254, BK255, BK256, BK257, BK258, BK275, BK276, BK289, HB⟩ := n_
                     (try clear hb)
                     (try clear hb2)
                     (try clear hk)
                     (try clear hi)
                     refine hK.out _ _ ⟨bC BK254.out 0, bC BK254.out 1, bC BK258.out 0, bC BK258.out 1, bC BK255.out 0, bC BK255.out 1, bC BK256.out 0, bC BK256.out 1, bC BK257.out 0, bC BK257.out 1⟩ (fun hHeld => ?_)
                     clear hK K
                     refine norm_ (a' := ?_) ?_ ?_
                     rotate_left
                     ·show Act.put _ (some 77) _ = _
                      simp only [Act.put, sA, sB, sC, i64_w, i32_w]
                      rfl
                     exact norm_ (by simp only [putAll, Act.put, sA, sB, sC] <;> rfl) (hJ2_5_8_16 (b289) _ ⟨hHeld, BK254.out, BK255.out, BK256.out, BK257.out, BK258.out, BK275.out, BK276.out, BK289.out, GW289.out, GE289.out, N42_.out, N43_.out, N44_.out, N45_.out, N46_.out, N47_.out, N48_.out, N49_.out, N50_.out, N51_.out, N52_.out, N53_.out, N54_.out, N55_.out, HB.out⟩)
                    ·skip
                     refine box_step ?hg (N := 14) ?hd (cs := #[.int .i32 0, .int .i32 0]) (t := 23) ?hr ?_; (case hd => rfl); (case hg => rfl); (case hr => first | (go_simp; done) | (go_simp; rfl))
                     intro b290 hg w163 hbox hb
                     have n_ := kC8 BK254 BK255 BK256 BK257 BK258 BK275 BK276 BK289 HB (by repeat first | exact lR _ _ | apply lN | apply lD | apply lA) hg hbox hb
                     clear BK254 BK255 BK256 BK257 BK258 BK275 BK276 BK289 HB hb hbox hg
                     obtain ⟨BK254, BK255, BK256, BK257, BK258, BK275, BK276, BK289, HB, BK290, GW290, GE290, N56_, N57_, N58_, N59_, N60_, N61_, N62_, N63_, N64_, N65_, N66_, N67_, N68_, N69_, N71_, N70_⟩ := n_
                     refine hK.out _ _ ⟨bC BK254.out 0, bC BK254.out 1, bC BK258.out 0, bC BK258.out 1, bC BK255.out 0, bC BK255.out 1, bC BK256.out 0, bC BK256.out 1, bC BK257.out 0, bC BK257.out 1⟩ (fun hHeld => ?_)
                     clear hK K
                     refine norm_ (a' := ?_) ?_ ?_
                     rotate_left
                     ·show Act.put _ (some 14) _ = _
                      simp only [Act.put, sA, sB, sC, i64_w, i32_w]
                      rfl
                     exact norm_ (by simp only [putAll, Act.put, sA, sB, sC] <;> rfl) (hJ2_5_16_17 (b289, b290) _ ⟨hHeld, BK254.out, BK255.out, BK256.out, BK257.out, BK258.out, BK275.out, BK276.out, BK289.out, BK290.out, GW289.out, GE289.out, N42_.out, N43_.out, N44_.out, N45_.out, N46_.out, N47_.out, N48_.out, N49_.out, N50_.out, N51_.out, N52_.out, N53_.out, N54_.out, N55_.out, N70_.out, N71_.out, GW290.out, GE290.out, N56_.out, N57_.out, N58_.out, N59_.out, N60_.out, N61_.out, N62_.out, N63_.out, N64_.out, N65_.out, N66_.out, N67_.out, N68_.out, N69_.out, HB.out⟩)
                  ·skip
                   rintro _ w162 ⟨hS_, h0_, h1_, h2_, h3_, h4_, h5_, h6_, h7_⟩
                   clear BK254 BK255 BK256 BK257 BK258 BK275 BK276 HB
                   have BK254 := aM h0_; have BK255 := aM h1_; have BK256 := aM h2_; have BK257 := aM h3_; have BK258 := aM h4_; have BK275 := aM h5_; have BK276 := aM h6_; have HB := aM h7_
                   clear h0_ h1_ h2_ h3_ h4_ h5_ h6_ h7_
                   have hHeld := hS_
                   refine norm_ (a' := ?_) ?_ ?_
                   rotate_left
                   ·simp only [putAll, Act.put, sA, sB, sC]
                    rfl
                   refine three_ (i := 11) (j := 16) (k := 17) (Ni := some 80) (Nj := some 13) (Nk := some 14) #[T,T,T,T,T,T,T,T,T,T,T,T,F,F,F,F,F,F,F,F] #[T,T,T,T,T,T,T,T,T,T,T,F,F,F,F,F,T,F,F,F] #[T,T,T,T,T,T,T,T,T,T,T,F,F,F,F,F,F,T,F,F] rfl rfl rfl rfl rfl rfl (three_of HT_.out (by kernel_rfl)) (by decide) (by decide) (by decide) (fun K hK => ?_) (fun K hK => ?_) (fun K hK => ?_)
                   ·skip
                    refine goes_ Try.func15 (by kernel_rfl) rfl #[.agg #[.int .i32 a3_0, .int .i32 a3_1], .agg #[.int .i32 a4_0, .int .i32 a4_1]] (by rfl) rfl rfl (by (try simp only [List.map_toArray, List.map_cons, List.map_nil]); first | done | rfl | (simp only [List.length_drop, List.length_take]; rfl)) ?_
                    with_reducible refine (billiardlaw13_move.calls a3_0 a3_1 a4_0 a4_1 t283 t284 _ A116.out).mono ?_
                    rintro e w163 ⟨rfl, hb⟩
                    refine ⟨_, rfl, ?_⟩
                    have n_ := kB7 BK254 BK255 BK256 BK257 BK258 BK275 BK276 HB (by repeat first | exact lR _ _ | apply lN | apply lD | apply lA) hb
                    clear BK254 BK255 BK256 BK257 BK258 BK275 BK276 HB
                    obtain ⟨BK254, BK255, BK256, BK257, BK258, BK275, BK276, HB⟩ := n_
                    (try clear hb)
                    (try clear hb2)
                    (try clear hk)
                    (try clear hi)
                    refine hK.out _ _ ⟨bC BK254.out 0, bC BK254.out 1, bC BK258.out 0, bC BK258.out 1, bC BK255.out 0, bC BK255.out 1, bC BK256.out 0, bC BK256.out 1, bC BK257.out 0, bC BK257.out 1⟩ (fun hHeld => ?_)
                    clear hK K
                    refine norm_ (a' := ?_) ?_ ?_
                    rotate_left
                    ·show Act.put _ (some 80) _ = _
                     simp only [Act.put, sA, sB, sC, i64_w, i32_w]
                     rfl
                    exact norm_ (by simp only [putAll, Act.put, sA, sB, sC] <;> rfl) (hJ2_5_8_11 () _ ⟨hHeld, BK254.out, BK255.out, BK256.out, BK257.out, BK258.out, BK275.out, BK276.out, HB.out⟩)
                   ·skip
                    refine box_step ?hg (N := 13) ?hd (cs := #[.int .i32 0, .int .i32 0]) (t := 23) ?hr ?_; (case hd => rfl); (case hg => rfl); (case hr => first | (go_simp; done) | (go_simp; rfl))
                    intro b289 hg w163 hbox hb
                    have n_ := kC7 BK254 BK255 BK256 BK257 BK258 BK275 BK276 HB (by repeat first | exact lR _ _ | apply lN | apply lD | apply lA) hg hbox hb
                    clear BK254 BK255 BK256 BK257 BK258 BK275 BK276 HB hb hbox hg
                    obtain ⟨BK254, BK255, BK256, BK257, BK258, BK275, BK276, HB, BK289, GW289, GE289, N42_, N43_, N44_, N45_, N46_, N47_, N48_, N49_, N50_, N51_, N52_, N53_, N54_, N55_⟩ := n_
                    refine hK.out _ _ ⟨bC BK254.out 0, bC BK254.out 1, bC BK258.out 0, bC BK258.out 1, bC BK255.out 0, bC BK255.out 1, bC BK256.out 0, bC BK256.out 1, bC BK257.out 0, bC BK257.out 1⟩ (fun hHeld => ?_)
                    clear hK K
                    refine norm_ (a' := ?_) ?_ ?_
                    rotate_left
                    ·show Act.put _ (some 13) _ = _
                     simp only [Act.put, sA, sB, sC, i64_w, i32_w]
                     rfl
                    exact norm_ (by simp only [putAll, Act.put, sA, sB, sC] <;> rfl) (hJ2_5_8_16 (b289) _ ⟨hHeld, BK254.out, BK255.out, BK256.out, BK257.out, BK258.out, BK275.out, BK276.out, BK289.out, GW289.out, GE289.out, N42_.out, N43_.out, N44_.out, N45_.out, N46_.out, N47_.out, N48_.out, N49_.out, N50_.out, N51_.out, N52_.out, N53_.out, N54_.out, N55_.out, HB.out⟩)
                   ·skip
                    refine box_step ?hg (N := 14) ?hd (cs := #[.int .i32 0, .int .i32 0]) (t := 23) ?hr ?_; (case hd => rfl); (case hg => rfl); (case hr => first | (go_simp; done) | (go_simp; rfl))
                    intro b290 hg w163 hbox hb
                    have n_ := kC7 BK254 BK255 BK256 BK257 BK258 BK275 BK276 HB (by repeat first | exact lR _ _ | apply lN | apply lD | apply lA) hg hbox hb
                    clear BK254 BK255 BK256 BK257 BK258 BK275 BK276 HB hb hbox hg
                    obtain ⟨BK254, BK255, BK256, BK257, BK258, BK275, BK276, HB, BK290, GW290, GE290, N56_, N57_, N58_, N59_, N60_, N61_, N62_, N63_, N64_, N65_, N66_, N67_, N68_, N69_⟩ := n_
                    refine hK.out _ _ ⟨bC BK254.out 0, bC BK254.out 1, bC BK258.out 0, bC BK258.out 1, bC BK255.out 0, bC BK255.out 1, bC BK256.out 0, bC BK256.out 1, bC BK257.out 0, bC BK257.out 1⟩ (fun hHeld => ?_)
                    clear hK K
                    refine norm_ (a' := ?_) ?_ ?_
                    rotate_left
                    ·show Act.put _ (some 14) _ = _
                     simp only [Act.put, sA, sB, sC, i64_w, i32_w]
                     rfl
                    exact norm_ (by simp only [putAll, Act.put, sA, sB, sC] <;> rfl) (hJ2_5_8_17 (b290) _ ⟨hHeld, BK254.out, BK255.out, BK256.out, BK257.out, BK258.out, BK275.out, BK276.out, BK290.out, GW290.out, GE290.out, N56_.out, N57_.out, N58_.out, N59_.out, N60_.out, N61_.out, N62_.out, N63_.out, N64_.out, N65_.out, N66_.out, N67_.out, N68_.out, N69_.out, HB.out⟩)
                 ·skip
                  rintro ⟨b289, b290⟩ w163 ⟨hS_, h0_, h1_, h2_, h3_, h4_, h5_, h6_, h7_, h8_, h9_, h10_, h11_, h12_, h13_, h14_, h15_, h16_, h17_, h18_, h19_, h20_, h21_, h22_, h23_, h24_, h25_, h26_, h27_, h28_, h29_, h30_, h31_, h32_, h33_, h34_, h35_, h36_, h37_, h38_, h39_, h40_, h41_, h42_, h43_⟩
                  clear BK254 BK255 BK256 BK257 BK258 BK275 BK276 HB
                  (try dsimp only at h0_ h1_ h2_ h3_ h4_ h5_ h6_ h7_ h8_ h9_ h10_ h11_ h12_ h13_ h14_ h15_ h16_ h17_ h18_ h19_ h20_ h21_ h22_ h23_ h24_ h25_ h26_ h27_ h28_ h29_ h30_ h31_ h32_ h33_ h34_ h35_ h36_ h37_ h38_ h39_ h40_ h41_ h42_ h43_)
                  have BK254 := aM h0_; have BK255 := aM h1_; have BK256 := aM h2_; have BK257 := aM h3_; have BK258 := aM h4_; have BK275 := aM h5_; have BK276 := aM h6_; have BK289 := aM h7_; have BK290 := aM h8_; have GW289 := aM h9_; have GE289 := aM h10_; have N42_ := aM h11_; have N43_ := aM h12_; have N44_ := aM h13_; have N45_ := aM h14_; have N46_ := aM h15_; have N47_ := aM h16_; have N48_ := aM h17_; have N49_ := aM h18_; have N50_ := aM h19_; have N51_ := aM h20_; have N52_ := aM h21_; have N53_ := aM h22_; have N54_ := aM h23_; have N55_ := aM h24_; have N70_ := aM h25_; have N71_ := aM h26_; have GW290 := aM h27_; have GE290 := aM h28_; have N56_ := aM h29_; have N57_ := aM h30_; have N58_ := aM h31_; have N59_ := aM h32_; have N60_ := aM h33_; have N61_ := aM h34_; have N62_ := aM h35_; have N63_ := aM h36_; have N64_ := aM h37_; have N65_ := aM h38_; have N66_ := aM h39_; have N67_ := aM h40_; have N68_ := aM h41_; have N69_ := aM h42_; have HB := aM h43_
                  clear h0_ h1_ h2_ h3_ h4_ h5_ h6_ h7_ h8_ h9_ h10_ h11_ h12_ h13_ h14_ h15_ h16_ h17_ h18_ h19_ h20_ h21_ h22_ h23_ h24_ h25_ h26_ h27_ h28_ h29_ h30_ h31_ h32_ h33_ h34_ h35_ h36_ h37_ h38_ h39_ h40_ h41_ h42_ h43_
                  have hHeld : w163.cell? ⟨b254, 0, none⟩ = some (.int .i32 a0_0) ∧ w163.cell? ⟨b254, 1, none⟩ = some (.int .i32 a0_1) ∧ w163.cell? ⟨b258, 0, none⟩ = some (.int .i32 a4_0) ∧ w163.cell? ⟨b258, 1, none⟩ = some (.int .i32 a4_1) ∧ w163.cell? ⟨b255, 0, none⟩ = some (.int .i32 a1_0) ∧ w163.cell? ⟨b255, 1, none⟩ = some (.int .i32 a1_1) ∧ w163.cell? ⟨b256, 0, none⟩ = some (.int .i32 a2_0) ∧ w163.cell? ⟨b256, 1, none⟩ = some (.int .i32 a2_1) ∧ w163.cell? ⟨b257, 0, none⟩ = some (.int .i32 a3_0) ∧ w163.cell? ⟨b257, 1, none⟩ = some (.int .i32 a3_1) := hS_
                  refine norm_ (a' := ?_) ?_ ?_
                  rotate_left
                  ·simp only [putAll, Act.put, sA, sB, sC]
                   rfl
                  refine one_ (i := 8) (N := some 77) #[T,T,T,T,T,T,T,T,T,T,T,F,F,F,F,F,T,T,F,F] rfl rfl (one_of HT_.out (by kernel_rfl)) (by decide) (fun K hK => ?_)
                  refine goes_ Try.func15 (by kernel_rfl) rfl #[.agg #[.int .i32 a2_0, .int .i32 a2_1], .agg #[.int .i32 a4_0, .int .i32 a4_1]] (by rfl) rfl rfl (by (try simp only [List.map_toArray, List.map_cons, List.map_nil]); first | done | rfl | (simp only [List.length_drop, List.length_take]; rfl)) ?_
                  with_reducible refine (billiardlaw13_move.calls a2_0 a2_1 a4_0 a4_1 t281 t282 _ A115.out).mono ?_
                  rintro e w164 ⟨rfl, hb⟩
                  refine ⟨_, rfl, ?_⟩
                  have n_ := kB9 BK254 BK255 BK256 BK257 BK258 BK275 BK276 BK289 BK290 HB (by repeat first | exact lR _ _ | apply lN | apply lD | apply lA) hb
                  clear BK254 BK255 BK256 BK257 BK258 BK275 BK276 BK289 BK290 HB
                  obtain ⟨BK254, BK255, BK256, BK257, BK258, BK275, BK276, BK289, BK290, HB⟩ := n_
                  (try clear hb)
                  (try clear hb2)
                  (try clear hk)
                  (try clear hi)
                  refine hK.out _ _ ⟨bC BK254.out 0, bC BK254.out 1, bC BK258.out 0, bC BK258.out 1, bC BK255.out 0, bC BK255.out 1, bC BK256.out 0, bC BK256.out 1, bC BK257.out 0, bC BK257.out 1⟩ (fun hHeld => ?_)
                  clear hK K
                  refine norm_ (a' := ?_) ?_ ?_
                  rotate_left
                  ·show Act.put _ (some 77) _ = _
                   simp only [Act.put, sA, sB, sC, i64_w, i32_w]
                   rfl
                  exact norm_ (by simp only [putAll, Act.put, sA, sB, sC] <;> rfl) (hJ2_5_8_16_17 (b289, b290) _ ⟨hHeld, BK254.out, BK255.out, BK256.out, BK257.out, BK258.out, BK275.out, BK276.out, BK289.out, BK290.out, GW289.out, GE289.out, N42_.out, N43_.out, N44_.out, N45_.out, N46_.out, N47_.out, N48_.out, N49_.out, N50_.out, N51_.out, N52_.out, N53_.out, N54_.out, N55_.out, N70_.out, N71_.out, GW290.out, GE290.out, N56_.out, N57_.out, N58_.out, N59_.out, N60_.out, N61_.out, N62_.out, N63_.out, N64_.out, N65_.out, N66_.out, N67_.out, N68_.out, N69_.out, HB.out⟩)
                ·skip
                 rintro b290 w163 ⟨hS_, h0_, h1_, h2_, h3_, h4_, h5_, h6_, h7_, h8_, h9_, h10_, h11_, h12_, h13_, h14_, h15_, h16_, h17_, h18_, h19_, h20_, h21_, h22_, h23_, h24_⟩
                 clear BK254 BK255 BK256 BK257 BK258 BK275 BK276 HB
                 have BK254 := aM h0_; have BK255 := aM h1_; have BK256 := aM h2_; have BK257 := aM h3_; have BK258 := aM h4_; have BK275 := aM h5_; have BK276 := aM h6_; have BK290 := aM h7_; have GW290 := aM h8_; have GE290 := aM h9_; have N56_ := aM h10_; have N57_ := aM h11_; have N58_ := aM h12_; have N59_ := aM h13_; have N60_ := aM h14_; have N61_ := aM h15_; have N62_ := aM h16_; have N63_ := aM h17_; have N64_ := aM h18_; have N65_ := aM h19_; have N66_ := aM h20_; have N67_ := aM h21_; have N68_ := aM h22_; have N69_ := aM h23_; have HB := aM h24_
                 clear h0_ h1_ h2_ h3_ h4_ h5_ h6_ h7_ h8_ h9_ h10_ h11_ h12_ h13_ h14_ h15_ h16_ h17_ h18_ h19_ h20_ h21_ h22_ h23_ h24_
                 have hHeld := hS_
                 refine norm_ (a' := ?_) ?_ ?_
                 rotate_left
                 ·simp only [putAll, Act.put, sA, sB, sC]
                  rfl
                 refine two_ (i := 11) (j := 16) (Ni := some 80) (Nj := some 13) #[T,T,T,T,T,T,T,T,T,T,T,T,F,F,F,F,F,T,F,F] #[T,T,T,T,T,T,T,T,T,T,T,F,F,F,F,F,T,T,F,F] rfl rfl rfl rfl (two_of HT_.out (by kernel_rfl)) (by decide) (by decide) (fun K hK => ?_) (fun K hK => ?_)
                 ·skip
                  refine goes_ Try.func15 (by kernel_rfl) rfl #[.agg #[.int .i32 a3_0, .int .i32 a3_1], .agg #[.int .i32 a4_0, .int .i32 a4_1]] (by rfl) rfl rfl (by (try simp only [List.map_toArray, List.map_cons, List.map_nil]); first | done | rfl | (simp only [List.length_drop, List.length_take]; rfl)) ?_
                  with_reducible refine (billiardlaw13_move.calls a3_0 a3_1 a4_0 a4_1 t283 t284 _ A116.out).mono ?_
                  rintro e w164 ⟨rfl, hb⟩
                  refine ⟨_, rfl, ?_⟩
                  have n_ := kB8 BK254 BK255 BK256 BK257 BK258 BK275 BK276 BK290 HB (by repeat first | exact lR _ _ | apply lN | apply lD | apply lA) hb
                  clear BK254 BK255 BK256 BK257 BK258 BK275 BK276 BK290 HB
                  obtain ⟨BK254, BK255, BK256, BK257, BK258, BK275, BK276, BK290, HB⟩ := n_
                  (try clear hb)
                  (try clear hb2)
                  (try clear hk)
                  (try clear hi)
                  refine hK.out _ _ ⟨bC BK254.out 0, bC BK254.out 1, bC BK258.out 0, bC BK258.out 1, bC BK255.out 0, bC BK255.out 1, bC BK256.out 0, bC BK256.out 1, bC BK257.out 0, bC BK257.out 1⟩ (fun hHeld => ?_)
                  clear hK K
                  refine norm_ (a' := ?_) ?_ ?_
                  rotate_left
                  ·show Act.put _ (some 80) _ = _
                   simp only [Act.put, sA, sB, sC, i64_w, i32_w]
                   rfl
                  exact norm_ (by simp only [putAll, Act.put, sA, sB, sC] <;> rfl) (hJ2_5_8_11_17 (b290) _ ⟨hHeld, BK254.out, BK255.out, BK256.out, BK257.out, BK258.out, BK275.out, BK276.out, BK290.out, GW290.out, GE290.out, N56_.out, N57_.out, N58_.out, N59_.out, N60_.out, N61_.out, N62_.out, N63_.out, N64_.out, N65_.out, N66_.out, N67_.out, N68_.out, N69_.out, HB.out⟩)
                 ·skip
                  refine box_step ?hg (N := 13) ?hd (cs := #[.int .i32 0, .int .i32 0]) (t := 23) ?hr ?_; (case hd => rfl); (case hg => rfl); (case hr => first | (go_simp; done) | (go_simp; rfl))
                  intro b289 hg w164 hbox hb
                  have n_ := kC8 BK254 BK255 BK256 BK257 BK258 BK275 BK276 BK290 HB (by repeat first | exact lR _ _ | apply lN | apply lD | apply lA) hg hbox hb
                  clear BK254 BK255 BK256 BK257 BK258 BK275 BK276 BK290 HB hb hbox hg
                  obtain ⟨BK254, BK255, BK256, BK257, BK258, BK275, BK276, BK290, HB, BK289, GW289, GE289, N42_, N43_, N44_, N45_, N46_, N47_, N48_, N49_, N50_, N51_, N52_, N53_, N54_, N55_, N70_, N71_⟩ := n_
                  refine hK.out _ _ ⟨bC BK254.out 0, bC BK254.out 1, bC BK258.out 0, bC BK258.out 1, bC BK255.out 0, bC BK255.out 1, bC BK256.out 0, bC BK256.out 1, bC BK257.out 0, bC BK257.out 1⟩ (fun hHeld => ?_)
                  clear hK K
                  refine norm_ (a' := ?_) ?_ ?_
                  rotate_left
                  ·show Act.put _ (some 13) _ = _
                   simp only [Act.put, sA, sB, sC, i64_w, i32_w]
                   rfl
                  exact norm_ (by simp only [putAll, Act.put, sA, sB, sC] <;> rfl) (hJ2_5_8_16_17 (b289, b290) _ ⟨hHeld, BK254.out, BK255.out, BK256.out, BK257.out, BK258.out, BK275.out, BK276.out, BK289.out, BK290.out, GW289.out, GE289.out, N42_.out, N43_.out, N44_.out, N45_.out, N46_.out, N47_.out, N48_.out, N49_.out, N50_.out, N51_.out, N52_.out, N53_.out, N54_.out, N55_.out, N70_.out, N71_.out, GW290.out, GE290.out, N56_.out, N57_.out, N58_.out, N59_.out, N60_.out, N61_.out, N62_.out, N63_.out, N64_.out, N65_.out, N66_.out, N67_.out, N68_.out, N69_.out, HB.out⟩)
               ·skip
                rintro b289 w163 ⟨hS_, h0_, h1_, h2_, h3_, h4_, h5_, h6_, h7_, h8_, h9_, h10_, h11_, h12_, h13_, h14_, h15_, h16_, h17_, h18_, h19_, h20_, h21_, h22_, h23_, h24_⟩
                clear BK254 BK255 BK256 BK257 BK258 BK275 BK276 HB
                have BK254 := aM h0_; have BK255 := aM h1_; have BK256 := aM h2_; have BK257 := aM h3_; have BK258 := aM h4_; have BK275 := aM h5_; have BK276 := aM h6_; have BK289 := aM h7_; have GW289 := aM h8_; have GE289 := aM h9_; have N42_ := aM h10_; have N43_ := aM h11_; have N44_ := aM h12_; have N45_ := aM h13_; have N46_ := aM h14_; have N47_ := aM h15_; have N48_ := aM h16_; have N49_ := aM h17_; have N50_ := aM h18_; have N51_ := aM h19_; have N52_ := aM h20_; have N53_ := aM h21_; have N54_ := aM h22_; have N55_ := aM h23_; have HB := aM h24_
                clear h0_ h1_ h2_ h3_ h4_ h5_ h6_ h7_ h8_ h9_ h10_ h11_ h12_ h13_ h14_ h15_ h16_ h17_ h18_ h19_ h20_ h21_ h22_ h23_ h24_
                have hHeld := hS_
                refine norm_ (a' := ?_) ?_ ?_
                rotate_left
                ·simp only [putAll, Act.put, sA, sB, sC]
                 rfl
                refine two_ (i := 11) (j := 17) (Ni := some 80) (Nj := some 14) #[T,T,T,T,T,T,T,T,T,T,T,T,F,F,F,F,T,F,F,F] #[T,T,T,T,T,T,T,T,T,T,T,F,F,F,F,F,T,T,F,F] rfl rfl rfl rfl (two_of HT_.out (by kernel_rfl)) (by decide) (by decide) (fun K hK => ?_) (fun K hK => ?_)
                ·skip
                 refine goes_ Try.func15 (by kernel_rfl) rfl #[.agg #[.int .i32 a3_0, .int .i32 a3_1], .agg #[.int .i32 a4_0, .int .i32 a4_1]] (by rfl) rfl rfl (by (try simp only [List.map_toArray, List.map_cons, List.map_nil]); first | done | rfl | (simp only [List.length_drop, List.length_take]; rfl)) ?_
                 with_reducible refine (billiardlaw13_move.calls a3_0 a3_1 a4_0 a4_1 t283 t284 _ A116.out).mono ?_
                 rintro e w164 ⟨rfl, hb⟩
                 refine ⟨_, rfl, ?_⟩
                 have n_ := kB8 BK254 BK255 BK256 BK257 BK258 BK275 BK276 BK289 HB (by repeat first | exact lR _ _ | apply lN | apply lD | apply lA) hb
                 clear BK254 BK255 BK256 BK257 BK258 BK275 BK276 BK289 HB
                 obtain ⟨BK254, BK255, BK256, BK257, BK258, BK275, BK276, BK289, HB⟩ := n_
                 (try clear hb)
                 (try clear hb2)
                 (try clear hk)
                 (try clear hi)
                 refine hK.out _ _ ⟨bC BK254.out 0, bC BK254.out 1, bC BK258.out 0, bC BK258.out 1, bC BK255.out 0, bC BK255.out 1, bC BK256.out 0, bC BK256.out 1, bC BK257.out 0, bC BK257.out 1⟩ (fun hHeld => ?_)
                 clear hK K
                 refine norm_ (a' := ?_) ?_ ?_
                 rotate_left
                 ·show Act.put _ (some 80) _ = _
                  simp only [Act.put, sA, sB, sC, i64_w, i32_w]
                  rfl
                 exact norm_ (by simp only [putAll, Act.put, sA, sB, sC] <;> rfl) (hJ2_5_8_11_16 (b289) _ ⟨hHeld, BK254.out, BK255.out, BK256.out, BK257.out, BK258.out, BK275.out, BK276.out, BK289.out, GW289.out, GE289.out, N42_.out, N43_.out, N44_.out, N45_.out, N46_.out, N47_.out, N48_.out, N49_.out, N50_.out, N51_.out, N52_.out, N53_.out, N54_.out, N55_.out, HB.out⟩)
                ·skip
                 refine box_step ?hg (N := 14) ?hd (cs := #[.int .i32 0, .int .i32 0]) (t := 23) ?hr ?_; (case hd => rfl); (case hg => rfl); (case hr => first | (go_simp; done) | (go_simp; rfl))
                 intro b290 hg w164 hbox hb
                 have n_ := kC8 BK254 BK255 BK256 BK257 BK258 BK275 BK276 BK289 HB (by repeat first | exact lR _ _ | apply lN | apply lD | apply lA) hg hbox hb
                 clear BK254 BK255 BK256 BK257 BK258 BK275 BK276 BK289 HB hb hbox hg
                 obtain ⟨BK254, BK255, BK256, BK257, BK258, BK275, BK276, BK289, HB, BK290, GW290, GE290, N56_, N57_, N58_, N59_, N60_, N61_, N62_, N63_, N64_, N65_, N66_, N67_, N68_, N69_, N71_, N70_⟩ := n_
                 refine hK.out _ _ ⟨bC BK254.out 0, bC BK254.out 1, bC BK258.out 0, bC BK258.out 1, bC BK255.out 0, bC BK255.out 1, bC BK256.out 0, bC BK256.out 1, bC BK257.out 0, bC BK257.out 1⟩ (fun hHeld => ?_)
                 clear hK K
                 refine norm_ (a' := ?_) ?_ ?_
                 rotate_left
                 ·show Act.put _ (some 14) _ = _
                  simp only [Act.put, sA, sB, sC, i64_w, i32_w]
                  rfl
                 exact norm_ (by simp only [putAll, Act.put, sA, sB, sC] <;> rfl) (hJ2_5_8_16_17 (b289, b290) _ ⟨hHeld, BK254.out, BK255.out, BK256.out, BK257.out, BK258.out, BK275.out, BK276.out, BK289.out, BK290.out, GW289.out, GE289.out, N42_.out, N43_.out, N44_.out, N45_.out, N46_.out, N47_.out, N48_.out, N49_.out, N50_.out, N51_.out, N52_.out, N53_.out, N54_.out, N55_.out, N70_.out, N71_.out, GW290.out, GE290.out, N56_.out, N57_.out, N58_.out, N59_.out, N60_.out, N61_.out, N62_.out, N63_.out, N64_.out, N65_.out, N66_.out, N67_.out, N68_.out, N69_.out, HB.out⟩)
              ·skip
               rintro _ w163 ⟨hS_, h0_, h1_, h2_, h3_, h4_, h5_, h6_, h7_⟩
               clear BK254 BK255 BK256 BK257 BK258 BK275 BK276 HB
               have BK254 := aM h0_; have BK255 := aM h1_; have BK256 := aM h2_; have BK257 := aM h3_; have BK258 := aM h4_; have BK275 := aM h5_; have BK276 := aM h6_; have HB := aM h7_
               clear h0_ h1_ h2_ h3_ h4_ h5_ h6_ h7_
               have hHeld := hS_
               refine norm_ (a' := ?_) ?_ ?_
               rotate_left
               ·simp only [putAll, Act.put, sA, sB, sC]
                rfl
               refine three_ (i := 12) (j := 16) (k := 17) (Ni := some 81) (Nj := some 13) (Nk := some 14) #[T,T,T,T,T,T,T,T,T,T,T,T,T,F,F,F,F,F,F,F] #[T,T,T,T,T,T,T,T,T,T,T,T,F,F,F,F,T,F,F,F] #[T,T,T,T,T,T,T,T,T,T,T,T,F,F,F,F,F,T,F,F] rfl rfl rfl rfl rfl rfl (three_of HT_.out (by kernel_rfl)) (by decide) (by decide) (by decide) (fun K hK => ?_) (fun K hK => ?_) (fun K hK => ?_)
               ·skip
                refine goes_ Try.func10 (by kernel_rfl) rfl #[.agg #[.int .i32 t277, .int .i32 t278], .agg #[.int .i32 t279, .int .i32 t280], .agg #[.int .i32 t281, .int .i32 t282], .agg #[.int .i32 t283, .int .i32 t284]] (by rfl) rfl rfl (by (try simp only [List.map_toArray, List.map_cons, List.map_nil]); first | done | rfl | (simp only [List.length_drop, List.length_take]; rfl)) ?_
                with_reducible refine (segment_Chosen.calls t277 t278 t279 t280 t281 t282 t283 t284 t285 t286 t287 t288 _ A117.out).mono ?_
                rintro e w164 ⟨rfl, hb⟩
                refine ⟨_, rfl, ?_⟩
                have n_ := kB7 BK254 BK255 BK256 BK257 BK258 BK275 BK276 HB (by repeat first | exact lR _ _ | apply lN | apply lD | apply lA) hb
                clear BK254 BK255 BK256 BK257 BK258 BK275 BK276 HB
                obtain ⟨BK254, BK255, BK256, BK257, BK258, BK275, BK276, HB⟩ := n_
                (try clear hb)
                (try clear hb2)
                (try clear hk)
                (try clear hi)
                refine hK.out _ _ ⟨bC BK254.out 0, bC BK254.out 1, bC BK258.out 0, bC BK258.out 1, bC BK255.out 0, bC BK255.out 1, bC BK256.out 0, bC BK256.out 1, bC BK257.out 0, bC BK257.out 1⟩ (fun hHeld => ?_)
                clear hK K
                refine norm_ (a' := ?_) ?_ ?_
                rotate_left
                ·show Act.put _ (some 81) _ = _
                 simp only [Act.put, sA, sB, sC, i64_w, i32_w]
                 rfl
                refine pure_ (i := 13) (N := some 68) (v := ?_) (a' := ?_) #[T,T,T,T,T,T,T,T,T,T,T,T,T,T,F,F,F,F,F,F] rfl rfl (any_of HT_.out (by kernel_rfl)) (fun _ _ _ h => h) (Or.inl ⟨by rfl, ?_⟩) ?_ ?_
                rotate_left
                ·intro w'
                 go_simp
                 with_reducible rfl
                rotate_left
                ·simp only [Act.put, sA, sB, sC, i64_w, i32_w]
                 rfl
                refine pure_ (i := 14) (N := some 82) (v := ?_) (a' := ?_) #[T,T,T,T,T,T,T,T,T,T,T,T,T,T,T,F,F,F,F,F] rfl rfl (any_of HT_.out (by kernel_rfl)) (fun _ _ _ h => h) (Or.inl ⟨by rfl, ?_⟩) ?_ ?_
                rotate_left
                ·intro w'
                 go_simp
                 with_reducible rfl
                rotate_left
                ·simp only [Act.put, sA, sB, sC, i64_w, i32_w]
                 rfl
                refine pure_ (i := 15) (N := some 83) (v := ?_) (a' := ?_) #[T,T,T,T,T,T,T,T,T,T,T,T,T,T,T,T,F,F,F,F] rfl rfl (any_of HT_.out (by kernel_rfl)) (fun _ _ _ h => h) (Or.inl ⟨by rfl, ?_⟩) ?_ ?_
                rotate_left
                ·intro w'
                 go_simp
                 with_reducible rfl
                rotate_left
                ·simp only [Act.put, sA, sB, sC, i64_w, i32_w]
                 rfl
                exact norm_ (by simp only [putAll, Act.put, sA, sB, sC] <;> rfl) (hJ2_5_8_11_12 () _ ⟨hHeld, BK254.out, BK255.out, BK256.out, BK257.out, BK258.out, BK275.out, BK276.out, HB.out⟩)
               ·skip
                refine box_step ?hg (N := 13) ?hd (cs := #[.int .i32 0, .int .i32 0]) (t := 23) ?hr ?_; (case hd => rfl); (case hg => rfl); (case hr => first | (go_simp; done) | (go_simp; rfl))
                intro b289 hg w164 hbox hb
                have n_ := kC7 BK254 BK255 BK256 BK257 BK258 BK275 BK276 HB (by repeat first | exact lR _ _ | apply lN | apply lD | apply lA) hg hbox hb
                clear BK254 BK255 BK256 BK257 BK258 BK275 BK276 HB hb hbox hg
                obtain ⟨BK254, BK255, BK256, BK257, BK258, BK275, BK276, HB, BK289, GW289, GE289, N42_, N43_, N44_, N45_, N46_, N47_, N48_, N49_, N50_, N51_, N52_, N53_, N54_, N55_⟩ := n_
                refine hK.out _ _ ⟨bC BK254.out 0, bC BK254.out 1, bC BK258.out 0, bC BK258.out 1, bC BK255.out 0, bC BK255.out 1, bC BK256.out 0, bC BK256.out 1, bC BK257.out 0, bC BK257.out 1⟩ (fun hHeld => ?_)
                clear hK K
                refine norm_ (a' := ?_) ?_ ?_
                rotate_left
                ·show Act.put _ (some 13) _ = _
                 simp only [Act.put, sA, sB, sC, i64_w, i32_w]
                 rfl
                exact norm_ (by simp only [putAll, Act.put, sA, sB, sC] <;> rfl) (hJ2_5_8_11_16 (b289) _ ⟨hHeld, BK254.out, BK255.out, BK256.out, BK257.out, BK258.out, BK275.out, BK276.out, BK289.out, GW289.out, GE289.out, N42_.out, N43_.out, N44_.out, N45_.out, N46_.out, N47_.out, N48_.out, N49_.out, N50_.out, N51_.out, N52_.out, N53_.out, N54_.out, N55_.out, HB.out⟩)
               ·skip
                refine box_step ?hg (N := 14) ?hd (cs := #[.int .i32 0, .int .i32 0]) (t := 23) ?hr ?_; (case hd => rfl); (case hg => rfl); (case hr => first | (go_simp; done) | (go_simp; rfl))
                intro b290 hg w164 hbox hb
                have n_ := kC7 BK254 BK255 BK256 BK257 BK258 BK275 BK276 HB (by repeat first | exact lR _ _ | apply lN | apply lD | apply lA) hg hbox hb
                clear BK254 BK255 BK256 BK257 BK258 BK275 BK276 HB hb hbox hg
                obtain ⟨BK254, BK255, BK256, BK257, BK258, BK275, BK276, HB, BK290, GW290, GE290, N56_, N57_, N58_, N59_, N60_, N61_, N62_, N63_, N64_, N65_, N66_, N67_, N68_, N69_⟩ := n_
                refine hK.out _ _ ⟨bC BK254.out 0, bC BK254.out 1, bC BK258.out 0, bC BK258.out 1, bC BK255.out 0, bC BK255.out 1, bC BK256.out 0, bC BK256.out 1, bC BK257.out 0, bC BK257.out 1⟩ (fun hHeld => ?_)
                clear hK K
                refine norm_ (a' := ?_) ?_ ?_
                rotate_left
                ·show Act.put _ (some 14) _ = _
                 simp only [Act.put, sA, sB, sC, i64_w, i32_w]
                 rfl
                exact norm_ (by simp only [putAll, Act.put, sA, sB, sC] <;> rfl) (hJ2_5_8_11_17 (b290) _ ⟨hHeld, BK254.out, BK255.out, BK256.out, BK257.out, BK258.out, BK275.out, BK276.out, BK290.out, GW290.out, GE290.out, N56_.out, N57_.out, N58_.out, N59_.out, N60_.out, N61_.out, N62_.out, N63_.out, N64_.out, N65_.out, N66_.out, N67_.out, N68_.out, N69_.out, HB.out⟩)
             ·skip
              rintro ⟨b289, b290⟩ w164 ⟨hS_, h0_, h1_, h2_, h3_, h4_, h5_, h6_, h7_, h8_, h9_, h10_, h11_, h12_, h13_, h14_, h15_, h16_, h17_, h18_, h19_, h20_, h21_, h22_, h23_, h24_, h25_, h26_, h27_, h28_, h29_, h30_, h31_, h32_, h33_, h34_, h35_, h36_, h37_, h38_, h39_, h40_, h41_, h42_, h43_⟩
              clear BK254 BK255 BK256 BK257 BK258 BK275 BK276 HB
              (try dsimp only at h0_ h1_ h2_ h3_ h4_ h5_ h6_ h7_ h8_ h9_ h10_ h11_ h12_ h13_ h14_ h15_ h16_ h17_ h18_ h19_ h20_ h21_ h22_ h23_ h24_ h25_ h26_ h27_ h28_ h29_ h30_ h31_ h32_ h33_ h34_ h35_ h36_ h37_ h38_ h39_ h40_ h41_ h42_ h43_)
              have BK254 := aM h0_; have BK255 := aM h1_; have BK256 := aM h2_; have BK257 := aM h3_; have BK258 := aM h4_; have BK275 := aM h5_; have BK276 := aM h6_; have BK289 := aM h7_; have BK290 := aM h8_; have GW289 := aM h9_; have GE289 := aM h10_; have N42_ := aM h11_; have N43_ := aM h12_; have N44_ := aM h13_; have N45_ := aM h14_; have N46_ := aM h15_; have N47_ := aM h16_; have N48_ := aM h17_; have N49_ := aM h18_; have N50_ := aM h19_; have N51_ := aM h20_; have N52_ := aM h21_; have N53_ := aM h22_; have N54_ := aM h23_; have N55_ := aM h24_; have N70_ := aM h25_; have N71_ := aM h26_; have GW290 := aM h27_; have GE290 := aM h28_; have N56_ := aM h29_; have N57_ := aM h30_; have N58_ := aM h31_; have N59_ := aM h32_; have N60_ := aM h33_; have N61_ := aM h34_; have N62_ := aM h35_; have N63_ := aM h36_; have N64_ := aM h37_; have N65_ := aM h38_; have N66_ := aM h39_; have N67_ := aM h40_; have N68_ := aM h41_; have N69_ := aM h42_; have HB := aM h43_
              clear h0_ h1_ h2_ h3_ h4_ h5_ h6_ h7_ h8_ h9_ h10_ h11_ h12_ h13_ h14_ h15_ h16_ h17_ h18_ h19_ h20_ h21_ h22_ h23_ h24_ h25_ h26_ h27_ h28_ h29_ h30_ h31_ h32_ h33_ h34_ h35_ h36_ h37_ h38_ h39_ h40_ h41_ h42_ h43_
              have hHeld : w164.cell? ⟨b254, 0, none⟩ = some (.int .i32 a0_0) ∧ w164.cell? ⟨b254, 1, none⟩ = some (.int .i32 a0_1) ∧ w164.cell? ⟨b258, 0, none⟩ = some (.int .i32 a4_0) ∧ w164.cell? ⟨b258, 1, none⟩ = some (.int .i32 a4_1) ∧ w164.cell? ⟨b255, 0, none⟩ = some (.int .i32 a1_0) ∧ w164.cell? ⟨b255, 1, none⟩ = some (.int .i32 a1_1) ∧ w164.cell? ⟨b256, 0, none⟩ = some (.int .i32 a2_0) ∧ w164.cell? ⟨b256, 1, none⟩ = some (.int .i32 a2_1) ∧ w164.cell? ⟨b257, 0, none⟩ = some (.int .i32 a3_0) ∧ w164.cell? ⟨b257, 1, none⟩ = some (.int .i32 a3_1) := hS_
              refine norm_ (a' := ?_) ?_ ?_
              rotate_left
              ·simp only [putAll, Act.put, sA, sB, sC]
               rfl
              refine one_ (i := 11) (N := some 80) #[T,T,T,T,T,T,T,T,T,T,T,T,F,F,F,F,T,T,F,F] rfl rfl (one_of HT_.out (by kernel_rfl)) (by decide) (fun K hK => ?_)
              refine goes_ Try.func15 (by kernel_rfl) rfl #[.agg #[.int .i32 a3_0, .int .i32 a3_1], .agg #[.int .i32 a4_0, .int .i32 a4_1]] (by rfl) rfl rfl (by (try simp only [List.map_toArray, List.map_cons, List.map_nil]); first | done | rfl | (simp only [List.length_drop, List.length_take]; rfl)) ?_
              with_reducible refine (billiardlaw13_move.calls a3_0 a3_1 a4_0 a4_1 t283 t284 _ A116.out).mono ?_
              rintro e w165 ⟨rfl, hb⟩
              refine ⟨_, rfl, ?_⟩
              have n_ := kB9 BK254 BK255 BK256 BK257 BK258 BK275 BK276 BK289 BK290 HB (by repeat first | exact lR _ _ | apply lN | apply lD | apply lA) hb
              clear BK254 BK255 BK256 BK257 BK258 BK275 BK276 BK289 BK290 HB
              obtain ⟨BK254, BK255, BK256, BK257, BK258, BK275, BK276, BK289, BK290, HB⟩ := n_
              (try clear hb)
              (try clear hb2)
              (try clear hk)
              (try clear hi)
              refine hK.out _ _ ⟨bC BK254.out 0, bC BK254.out 1, bC BK258.out 0, bC BK258.out 1, bC BK255.out 0, bC BK255.out 1, bC BK256.out 0, bC BK256.out 1, bC BK257.out 0, bC BK257.out 1⟩ (fun hHeld => ?_)
              clear hK K
              refine norm_ (a' := ?_) ?_ ?_
              rotate_left
              ·show Act.put _ (some 80) _ = _
               simp only [Act.put, sA, sB, sC, i64_w, i32_w]
               rfl
              exact norm_ (by simp only [putAll, Act.put, sA, sB, sC] <;> rfl) (hJ2_5_8_11_16_17 (b289, b290) _ ⟨hHeld, BK254.out, BK255.out, BK256.out, BK257.out, BK258.out, BK275.out, BK276.out, BK289.out, BK290.out, GW289.out, GE289.out, N42_.out, N43_.out, N44_.out, N45_.out, N46_.out, N47_.out, N48_.out, N49_.out, N50_.out, N51_.out, N52_.out, N53_.out, N54_.out, N55_.out, N70_.out, N71_.out, GW290.out, GE290.out, N56_.out, N57_.out, N58_.out, N59_.out, N60_.out, N61_.out, N62_.out, N63_.out, N64_.out, N65_.out, N66_.out, N67_.out, N68_.out, N69_.out, HB.out⟩)
            ·skip
             rintro b290 w164 ⟨hS_, h0_, h1_, h2_, h3_, h4_, h5_, h6_, h7_, h8_, h9_, h10_, h11_, h12_, h13_, h14_, h15_, h16_, h17_, h18_, h19_, h20_, h21_, h22_, h23_, h24_⟩
             clear BK254 BK255 BK256 BK257 BK258 BK275 BK276 HB
             have BK254 := aM h0_; have BK255 := aM h1_; have BK256 := aM h2_; have BK257 := aM h3_; have BK258 := aM h4_; have BK275 := aM h5_; have BK276 := aM h6_; have BK290 := aM h7_; have GW290 := aM h8_; have GE290 := aM h9_; have N56_ := aM h10_; have N57_ := aM h11_; have N58_ := aM h12_; have N59_ := aM h13_; have N60_ := aM h14_; have N61_ := aM h15_; have N62_ := aM h16_; have N63_ := aM h17_; have N64_ := aM h18_; have N65_ := aM h19_; have N66_ := aM h20_; have N67_ := aM h21_; have N68_ := aM h22_; have N69_ := aM h23_; have HB := aM h24_
             clear h0_ h1_ h2_ h3_ h4_ h5_ h6_ h7_ h8_ h9_ h10_ h11_ h12_ h13_ h14_ h15_ h16_ h17_ h18_ h19_ h20_ h21_ h22_ h23_ h24_
             have hHeld := hS_
             refine norm_ (a' := ?_) ?_ ?_
             rotate_left
             ·simp only [putAll, Act.put, sA, sB, sC]
              rfl
             refine two_ (i := 12) (j := 16) (Ni := some 81) (Nj := some 13) #[T,T,T,T,T,T,T,T,T,T,T,T,T,F,F,F,F,T,F,F] #[T,T,T,T,T,T,T,T,T,T,T,T,F,F,F,F,T,T,F,F] rfl rfl rfl rfl (two_of HT_.out (by kernel_rfl)) (by decide) (by decide) (fun K hK => ?_) (fun K hK => ?_)
             ·skip
              refine goes_ Try.func10 (by kernel_rfl) rfl #[.agg #[.int .i32 t277, .int .i32 t278], .agg #[.int .i32 t279, .int .i32 t280], .agg #[.int .i32 t281, .int .i32 t282], .agg #[.int .i32 t283, .int .i32 t284]] (by rfl) rfl rfl (by (try simp only [List.map_toArray, List.map_cons, List.map_nil]); first | done | rfl | (simp only [List.length_drop, List.length_take]; rfl)) ?_
              with_reducible refine (segment_Chosen.calls t277 t278 t279 t280 t281 t282 t283 t284 t285 t286 t287 t288 _ A117.out).mono ?_
              rintro e w165 ⟨rfl, hb⟩
              refine ⟨_, rfl, ?_⟩
              have n_ := kB8 BK254 BK255 BK256 BK257 BK258 BK275 BK276 BK290 HB (by repeat first | exact lR _ _ | apply lN | apply lD | apply lA) hb
              clear BK254 BK255 BK256 BK257 BK258 BK275 BK276 BK290 HB
              obtain ⟨BK254, BK255, BK256, BK257, BK258, BK275, BK276, BK290, HB⟩ := n_
              (try clear hb)
              (try clear hb2)
              (try clear hk)
              (try clear hi)
              refine hK.out _ _ ⟨bC BK254.out 0, bC BK254.out 1, bC BK258.out 0, bC BK258.out 1, bC BK255.out 0, bC BK255.out 1, bC BK256.out 0, bC BK256.out 1, bC BK257.out 0, bC BK257.out 1⟩ (fun hHeld => ?_)
              clear hK K
              refine norm_ (a' := ?_) ?_ ?_
              rotate_left
              ·show Act.put _ (some 81) _ = _
               simp only [Act.put, sA, sB, sC, i64_w, i32_w]
               rfl
              refine pure_ (i := 13) (N := some 68) (v := ?_) (a' := ?_) #[T,T,T,T,T,T,T,T,T,T,T,T,T,T,F,F,F,T,F,F] rfl rfl (any_of HT_.out (by kernel_rfl)) (fun _ _ _ h => h) (Or.inl ⟨by rfl, ?_⟩) ?_ ?_
              rotate_left
              ·intro w'
               go_simp
               with_reducible rfl
              rotate_left
              ·simp only [Act.put, sA, sB, sC, i64_w, i32_w]
               rfl
              refine pure_ (i := 14) (N := some 82) (v := ?_) (a' := ?_) #[T,T,T,T,T,T,T,T,T,T,T,T,T,T,T,F,F,T,F,F] rfl rfl (any_of HT_.out (by kernel_rfl)) (fun _ _ _ h => h) (Or.inl ⟨by rfl, ?_⟩) ?_ ?_
              rotate_left
              ·intro w'
               go_simp
               with_reducible rfl
              rotate_left
              ·simp only [Act.put, sA, sB, sC, i64_w, i32_w]
               rfl
              refine pure_ (i := 15) (N := some 83) (v := ?_) (a' := ?_) #[T,T,T,T,T,T,T,T,T,T,T,T,T,T,T,T,F,T,F,F] rfl rfl (any_of HT_.out (by kernel_rfl)) (fun _ _ _ h => h) (Or.inl ⟨by rfl, ?_⟩) ?_ ?_
              rotate_left
              ·intro w'
               go_simp
               with_reducible rfl
              rotate_left
              ·simp only [Act.put, sA, sB, sC, i64_w, i32_w]
               rfl
              exact norm_ (by simp only [putAll, Act.put, sA, sB, sC] <;> rfl) (hJ2_5_8_11_12_17 (b290) _ ⟨hHeld, BK254.out, BK255.out, BK256.out, BK257.out, BK258.out, BK275.out, BK276.out, BK290.out, GW290.out, GE290.out, N56_.out, N57_.out, N58_.out, N59_.out, N60_.out, N61_.out, N62_.out, N63_.out, N64_.out, N65_.out, N66_.out, N67_.out, N68_.out, N69_.out, HB.out⟩)
             ·skip
              refine box_step ?hg (N := 13) ?hd (cs := #[.int .i32 0, .int .i32 0]) (t := 23) ?hr ?_; (case hd => rfl); (case hg => rfl); (case hr => first | (go_simp; done) | (go_simp; rfl))
              intro b289 hg w165 hbox hb
              have n_ := kC8 BK254 BK255 BK256 BK257 BK258 BK275 BK276 BK290 HB (by repeat first | exact lR _ _ | apply lN | apply lD | apply lA) hg hbox hb
              clear BK254 BK255 BK256 BK257 BK258 BK275 BK276 BK290 HB hb hbox hg
              obtain ⟨BK254, BK255, BK256, BK257, BK258, BK275, BK276, BK290, HB, BK289, GW289, GE289, N42_, N43_, N44_, N45_, N46_, N47_, N48_, N49_, N50_, N51_, N52_, N53_, N54_, N55_, N70_, N71_⟩ := n_
              refine hK.out _ _ ⟨bC BK254.out 0, bC BK254.out 1, bC BK258.out 0, bC BK258.out 1, bC BK255.out 0, bC BK255.out 1, bC BK256.out 0, bC BK256.out 1, bC BK257.out 0, bC BK257.out 1⟩ (fun hHeld => ?_)
              clear hK K
              refine norm_ (a' := ?_) ?_ ?_
              rotate_left
              ·show Act.put _ (some 13) _ = _
               simp only [Act.put, sA, sB, sC, i64_w, i32_w]
               rfl
              exact norm_ (by simp only [putAll, Act.put, sA, sB, sC] <;> rfl) (hJ2_5_8_11_16_17 (b289, b290) _ ⟨hHeld, BK254.out, BK255.out, BK256.out, BK257.out, BK258.out, BK275.out, BK276.out, BK289.out, BK290.out, GW289.out, GE289.out, N42_.out, N43_.out, N44_.out, N45_.out, N46_.out, N47_.out, N48_.out, N49_.out, N50_.out, N51_.out, N52_.out, N53_.out, N54_.out, N55_.out, N70_.out, N71_.out, GW290.out, GE290.out, N56_.out, N57_.out, N58_.out, N59_.out, N60_.out, N61_.out, N62_.out, N63_.out, N64_.out, N65_.out, N66_.out, N67_.out, N68_.out, N69_.out, HB.out⟩)
           ·skip
            rintro b289 w164 ⟨hS_, h0_, h1_, h2_, h3_, h4_, h5_, h6_, h7_, h8_, h9_, h10_, h11_, h12_, h13_, h14_, h15_, h16_, h17_, h18_, h19_, h20_, h21_, h22_, h23_, h24_⟩
            clear BK254 BK255 BK256 BK257 BK258 BK275 BK276 HB
            have BK254 := aM h0_; have BK255 := aM h1_; have BK256 := aM h2_; have BK257 := aM h3_; have BK258 := aM h4_; have BK275 := aM h5_; have BK276 := aM h6_; have BK289 := aM h7_; have GW289 := aM h8_; have GE289 := aM h9_; have N42_ := aM h10_; have N43_ := aM h11_; have N44_ := aM h12_; have N45_ := aM h13_; have N46_ := aM h14_; have N47_ := aM h15_; have N48_ := aM h16_; have N49_ := aM h17_; have N50_ := aM h18_; have N51_ := aM h19_; have N52_ := aM h20_; have N53_ := aM h21_; have N54_ := aM h22_; have N55_ := aM h23_; have HB := aM h24_
            clear h0_ h1_ h2_ h3_ h4_ h5_ h6_ h7_ h8_ h9_ h10_ h11_ h12_ h13_ h14_ h15_ h16_ h17_ h18_ h19_ h20_ h21_ h22_ h23_ h24_
            have hHeld := hS_
            refine norm_ (a' := ?_) ?_ ?_
            rotate_left
            ·simp only [putAll, Act.put, sA, sB, sC]
             rfl
            refine two_ (i := 12) (j := 17) (Ni := some 81) (Nj := some 14) #[T,T,T,T,T,T,T,T,T,T,T,T,T,F,F,F,T,F,F,F] #[T,T,T,T,T,T,T,T,T,T,T,T,F,F,F,F,T,T,F,F] rfl rfl rfl rfl (two_of HT_.out (by kernel_rfl)) (by decide) (by decide) (fun K hK => ?_) (fun K hK => ?_)
            ·skip
             refine goes_ Try.func10 (by kernel_rfl) rfl #[.agg #[.int .i32 t277, .int .i32 t278], .agg #[.int .i32 t279, .int .i32 t280], .agg #[.int .i32 t281, .int .i32 t282], .agg #[.int .i32 t283, .int .i32 t284]] (by rfl) rfl rfl (by (try simp only [List.map_toArray, List.map_cons, List.map_nil]); first | done | rfl | (simp only [List.length_drop, List.length_take]; rfl)) ?_
             with_reducible refine (segment_Chosen.calls t277 t278 t279 t280 t281 t282 t283 t284 t285 t286 t287 t288 _ A117.out).mono ?_
             rintro e w165 ⟨rfl, hb⟩
             refine ⟨_, rfl, ?_⟩
             have n_ := kB8 BK254 BK255 BK256 BK257 BK258 BK275 BK276 BK289 HB (by repeat first | exact lR _ _ | apply lN | apply lD | apply lA) hb
             clear BK254 BK255 BK256 BK257 BK258 BK275 BK276 BK289 HB
             obtain ⟨BK254, BK255, BK256, BK257, BK258, BK275, BK276, BK289, HB⟩ := n_
             (try clear hb)
             (try clear hb2)
             (try clear hk)
             (try clear hi)
             refine hK.out _ _ ⟨bC BK254.out 0, bC BK254.out 1, bC BK258.out 0, bC BK258.out 1, bC BK255.out 0, bC BK255.out 1, bC BK256.out 0, bC BK256.out 1, bC BK257.out 0, bC BK257.out 1⟩ (fun hHeld => ?_)
             clear hK K
             refine norm_ (a' := ?_) ?_ ?_
             rotate_left
             ·show Act.put _ (some 81) _ = _
              simp only [Act.put, sA, sB, sC, i64_w, i32_w]
              rfl
             refine pure_ (i := 13) (N := some 68) (v := ?_) (a' := ?_) #[T,T,T,T,T,T,T,T,T,T,T,T,T,T,F,F,T,F,F,F] rfl rfl (any_of HT_.out (by kernel_rfl)) (fun _ _ _ h => h) (Or.inl ⟨by rfl, ?_⟩) ?_ ?_
             rotate_left
             ·intro w'
              go_simp
              with_reducible rfl
             rotate_left
             ·simp only [Act.put, sA, sB, sC, i64_w, i32_w]
              rfl
             refine pure_ (i := 14) (N := some 82) (v := ?_) (a' := ?_) #[T,T,T,T,T,T,T,T,T,T,T,T,T,T,T,F,T,F,F,F] rfl rfl (any_of HT_.out (by kernel_rfl)) (fun _ _ _ h => h) (Or.inl ⟨by rfl, ?_⟩) ?_ ?_
             rotate_left
             ·intro w'
              go_simp
              with_reducible rfl
             rotate_left
             ·simp only [Act.put, sA, sB, sC, i64_w, i32_w]
              rfl
             refine pure_ (i := 15) (N := some 83) (v := ?_) (a' := ?_) #[T,T,T,T,T,T,T,T,T,T,T,T,T,T,T,T,T,F,F,F] rfl rfl (any_of HT_.out (by kernel_rfl)) (fun _ _ _ h => h) (Or.inl ⟨by rfl, ?_⟩) ?_ ?_
             rotate_left
             ·intro w'
              go_simp
              with_reducible rfl
             rotate_left
             ·simp only [Act.put, sA, sB, sC, i64_w, i32_w]
              rfl
             exact norm_ (by simp only [putAll, Act.put, sA, sB, sC] <;> rfl) (hJ2_5_8_11_12_16 (b289) _ ⟨hHeld, BK254.out, BK255.out, BK256.out, BK257.out, BK258.out, BK275.out, BK276.out, BK289.out, GW289.out, GE289.out, N42_.out, N43_.out, N44_.out, N45_.out, N46_.out, N47_.out, N48_.out, N49_.out, N50_.out, N51_.out, N52_.out, N53_.out, N54_.out, N55_.out, HB.out⟩)
            ·skip
             refine box_step ?hg (N := 14) ?hd (cs := #[.int .i32 0, .int .i32 0]) (t := 23) ?hr ?_; (case hd => rfl); (case hg => rfl); (case hr => first | (go_simp; done) | (go_simp; rfl))
             intro b290 hg w165 hbox hb
             have n_ := kC8 BK254 BK255 BK256 BK257 BK258 BK275 BK276 BK289 HB (by repeat first | exact lR _ _ | apply lN | apply lD | apply lA) hg hbox hb
             clear BK254 BK255 BK256 BK257 BK258 BK275 BK276 BK289 HB hb hbox hg
             obtain ⟨BK254, BK255, BK256, BK257, BK258, BK275, BK276, BK289, HB, BK290, GW290, GE290, N56_, N57_, N58_, N59_, N60_, N61_, N62_, N63_, N64_, N65_, N66_, N67_, N68_, N69_, N71_, N70_⟩ := n_
             refine hK.out _ _ ⟨bC BK254.out 0, bC BK254.out 1, bC BK258.out 0, bC BK258.out 1, bC BK255.out 0, bC BK255.out 1, bC BK256.out 0, bC BK256.out 1, bC BK257.out 0, bC BK257.out 1⟩ (fun hHeld => ?_)
             clear hK K
             refine norm_ (a' := ?_) ?_ ?_
             rotate_left
             ·show Act.put _ (some 14) _ = _
              simp only [Act.put, sA, sB, sC, i64_w, i32_w]
              rfl
             exact norm_ (by simp only [putAll, Act.put, sA, sB, sC] <;> rfl) (hJ2_5_8_11_16_17 (b289, b290) _ ⟨hHeld, BK254.out, BK255.out, BK256.out, BK257.out, BK258.out, BK275.out, BK276.out, BK289.out, BK290.out, GW289.out, GE289.out, N42_.out, N43_.out, N44_.out, N45_.out, N46_.out, N47_.out, N48_.out, N49_.out, N50_.out, N51_.out, N52_.out, N53_.out, N54_.out, N55_.out, N70_.out, N71_.out, GW290.out, GE290.out, N56_.out, N57_.out, N58_.out, N59_.out, N60_.out, N61_.out, N62_.out, N63_.out, N64_.out, N65_.out, N66_.out, N67_.out, N68_.out, N69_.out, HB.out⟩)
          ·skip
           rintro _ w164 ⟨hS_, h0_, h1_, h2_, h3_, h4_, h5_, h6_, h7_⟩
           clear BK254 BK255 BK256 BK257 BK258 BK275 BK276 HB
           have BK254 := aM h0_; have BK255 := aM h1_; have BK256 := aM h2_; have BK257 := aM h3_; have BK258 := aM h4_; have BK275 := aM h5_; have BK276 := aM h6_; have HB := aM h7_
           clear h0_ h1_ h2_ h3_ h4_ h5_ h6_ h7_
           have hHeld := hS_
           refine norm_ (a' := ?_) ?_ ?_
           rotate_left
           ·simp only [putAll, Act.put, sA, sB, sC]
            rfl
           refine two_ (i := 16) (j := 17) (Ni := some 13) (Nj := some 14) #[T,T,T,T,T,T,T,T,T,T,T,T,T,T,T,T,T,F,F,F] #[T,T,T,T,T,T,T,T,T,T,T,T,T,T,T,T,F,T,F,F] rfl rfl rfl rfl (two_of HT_.out (by kernel_rfl)) (by decide) (by decide) (fun K hK => ?_) (fun K hK => ?_)
           ·skip
            refine box_step ?hg (N := 13) ?hd (cs := #[.int .i32 0, .int .i32 0]) (t := 23) ?hr ?_; (case hd => rfl); (case hg => rfl); (case hr => first | (go_simp; done) | (go_simp; rfl))
            intro b289 hg w165 hbox hb
            have n_ := kC7 BK254 BK255 BK256 BK257 BK258 BK275 BK276 HB (by repeat first | exact lR _ _ | apply lN | apply lD | apply lA) hg hbox hb
            clear BK254 BK255 BK256 BK257 BK258 BK275 BK276 HB hb hbox hg
            obtain ⟨BK254, BK255, BK256, BK257, BK258, BK275, BK276, HB, BK289, GW289, GE289, N42_, N43_, N44_, N45_, N46_, N47_, N48_, N49_, N50_, N51_, N52_, N53_, N54_, N55_⟩ := n_
            refine hK.out _ _ ⟨bC BK254.out 0, bC BK254.out 1, bC BK258.out 0, bC BK258.out 1, bC BK255.out 0, bC BK255.out 1, bC BK256.out 0, bC BK256.out 1, bC BK257.out 0, bC BK257.out 1⟩ (fun hHeld => ?_)
            clear hK K
            refine norm_ (a' := ?_) ?_ ?_
            rotate_left
            ·show Act.put _ (some 13) _ = _
             simp only [Act.put, sA, sB, sC, i64_w, i32_w]
             rfl
            exact norm_ (by simp only [putAll, Act.put, sA, sB, sC] <;> rfl) (hJ2_5_8_11_12_16 (b289) _ ⟨hHeld, BK254.out, BK255.out, BK256.out, BK257.out, BK258.out, BK275.out, BK276.out, BK289.out, GW289.out, GE289.out, N42_.out, N43_.out, N44_.out, N45_.out, N46_.out, N47_.out, N48_.out, N49_.out, N50_.out, N51_.out, N52_.out, N53_.out, N54_.out, N55_.out, HB.out⟩)
           ·skip
            refine box_step ?hg (N := 14) ?hd (cs := #[.int .i32 0, .int .i32 0]) (t := 23) ?hr ?_; (case hd => rfl); (case hg => rfl); (case hr => first | (go_simp; done) | (go_simp; rfl))
            intro b290 hg w165 hbox hb
            have n_ := kC7 BK254 BK255 BK256 BK257 BK258 BK275 BK276 HB (by repeat first | exact lR _ _ | apply lN | apply lD | apply lA) hg hbox hb
            clear BK254 BK255 BK256 BK257 BK258 BK275 BK276 HB hb hbox hg
            obtain ⟨BK254, BK255, BK256, BK257, BK258, BK275, BK276, HB, BK290, GW290, GE290, N56_, N57_, N58_, N59_, N60_, N61_, N62_, N63_, N64_, N65_, N66_, N67_, N68_, N69_⟩ := n_
            refine hK.out _ _ ⟨bC BK254.out 0, bC BK254.out 1, bC BK258.out 0, bC BK258.out 1, bC BK255.out 0, bC BK255.out 1, bC BK256.out 0, bC BK256.out 1, bC BK257.out 0, bC BK257.out 1⟩ (fun hHeld => ?_)
            clear hK K
            refine norm_ (a' := ?_) ?_ ?_
            rotate_left
            ·show Act.put _ (some 14) _ = _
             simp only [Act.put, sA, sB, sC, i64_w, i32_w]
             rfl
            exact norm_ (by simp only [putAll, Act.put, sA, sB, sC] <;> rfl) (hJ2_5_8_11_12_17 (b290) _ ⟨hHeld, BK254.out, BK255.out, BK256.out, BK257.out, BK258.out, BK275.out, BK276.out, BK290.out, GW290.out, GE290.out, N56_.out, N57_.out, N58_.out, N59_.out, N60_.out, N61_.out, N62_.out, N63_.out, N64_.out, N65_.out, N66_.out, N67_.out, N68_.out, N69_.out, HB.out⟩)
         ·skip
          rintro ⟨b289, b290⟩ w165 ⟨hS_, h0_, h1_, h2_, h3_, h4_, h5_, h6_, h7_, h8_, h9_, h10_, h11_, h12_, h13_, h14_, h15_, h16_, h17_, h18_, h19_, h20_, h21_, h22_, h23_, h24_, h25_, h26_, h27_, h28_, h29_, h30_, h31_, h32_, h33_, h34_, h35_, h36_, h37_, h38_, h39_, h40_, h41_, h42_, h43_⟩
          clear BK254 BK255 BK256 BK257 BK258 BK275 BK276 HB
          (try dsimp only at h0_ h1_ h2_ h3_ h4_ h5_ h6_ h7_ h8_ h9_ h10_ h11_ h12_ h13_ h14_ h15_ h16_ h17_ h18_ h19_ h20_ h21_ h22_ h23_ h24_ h25_ h26_ h27_ h28_ h29_ h30_ h31_ h32_ h33_ h34_ h35_ h36_ h37_ h38_ h39_ h40_ h41_ h42_ h43_)
          have BK254 := aM h0_; have BK255 := aM h1_; have BK256 := aM h2_; have BK257 := aM h3_; have BK258 := aM h4_; have BK275 := aM h5_; have BK276 := aM h6_; have BK289 := aM h7_; have BK290 := aM h8_; have GW289 := aM h9_; have GE289 := aM h10_; have N42_ := aM h11_; have N43_ := aM h12_; have N44_ := aM h13_; have N45_ := aM h14_; have N46_ := aM h15_; have N47_ := aM h16_; have N48_ := aM h17_; have N49_ := aM h18_; have N50_ := aM h19_; have N51_ := aM h20_; have N52_ := aM h21_; have N53_ := aM h22_; have N54_ := aM h23_; have N55_ := aM h24_; have N70_ := aM h25_; have N71_ := aM h26_; have GW290 := aM h27_; have GE290 := aM h28_; have N56_ := aM h29_; have N57_ := aM h30_; have N58_ := aM h31_; have N59_ := aM h32_; have N60_ := aM h33_; have N61_ := aM h34_; have N62_ := aM h35_; have N63_ := aM h36_; have N64_ := aM h37_; have N65_ := aM h38_; have N66_ := aM h39_; have N67_ := aM h40_; have N68_ := aM h41_; have N69_ := aM h42_; have HB := aM h43_
          clear h0_ h1_ h2_ h3_ h4_ h5_ h6_ h7_ h8_ h9_ h10_ h11_ h12_ h13_ h14_ h15_ h16_ h17_ h18_ h19_ h20_ h21_ h22_ h23_ h24_ h25_ h26_ h27_ h28_ h29_ h30_ h31_ h32_ h33_ h34_ h35_ h36_ h37_ h38_ h39_ h40_ h41_ h42_ h43_
          have hHeld : w165.cell? ⟨b254, 0, none⟩ = some (.int .i32 a0_0) ∧ w165.cell? ⟨b254, 1, none⟩ = some (.int .i32 a0_1) ∧ w165.cell? ⟨b258, 0, none⟩ = some (.int .i32 a4_0) ∧ w165.cell? ⟨b258, 1, none⟩ = some (.int .i32 a4_1) ∧ w165.cell? ⟨b255, 0, none⟩ = some (.int .i32 a1_0) ∧ w165.cell? ⟨b255, 1, none⟩ = some (.int .i32 a1_1) ∧ w165.cell? ⟨b256, 0, none⟩ = some (.int .i32 a2_0) ∧ w165.cell? ⟨b256, 1, none⟩ = some (.int .i32 a2_1) ∧ w165.cell? ⟨b257, 0, none⟩ = some (.int .i32 a3_0) ∧ w165.cell? ⟨b257, 1, none⟩ = some (.int .i32 a3_1) := hS_
          refine norm_ (a' := ?_) ?_ ?_
          rotate_left
          ·simp only [putAll, Act.put, sA, sB, sC]
           rfl
          refine one_ (i := 12) (N := some 81) #[T,T,T,T,T,T,T,T,T,T,T,T,T,F,F,F,T,T,F,F] rfl rfl (one_of HT_.out (by kernel_rfl)) (by decide) (fun K hK => ?_)
          refine goes_ Try.func10 (by kernel_rfl) rfl #[.agg #[.int .i32 t277, .int .i32 t278], .agg #[.int .i32 t279, .int .i32 t280], .agg #[.int .i32 t281, .int .i32 t282], .agg #[.int .i32 t283, .int .i32 t284]] (by rfl) rfl rfl (by (try simp only [List.map_toArray, List.map_cons, List.map_nil]); first | done | rfl | (simp only [List.length_drop, List.length_take]; rfl)) ?_
          with_reducible refine (segment_Chosen.calls t277 t278 t279 t280 t281 t282 t283 t284 t285 t286 t287 t288 _ A117.out).mono ?_
          rintro e w166 ⟨rfl, hb⟩
          refine ⟨_, rfl, ?_⟩
          have n_ := kB9 BK254 BK255 BK256 BK257 BK258 BK275 BK276 BK289 BK290 HB (by repeat first | exact lR _ _ | apply lN | apply lD | apply lA) hb
          clear BK254 BK255 BK256 BK257 BK258 BK275 BK276 BK289 BK290 HB
          obtain ⟨BK254, BK255, BK256, BK257, BK258, BK275, BK276, BK289, BK290, HB⟩ := n_
          (try clear hb)
          (try clear hb2)
          (try clear hk)
          (try clear hi)
          refine hK.out _ _ ⟨bC BK254.out 0, bC BK254.out 1, bC BK258.out 0, bC BK258.out 1, bC BK255.out 0, bC BK255.out 1, bC BK256.out 0, bC BK256.out 1, bC BK257.out 0, bC BK257.out 1⟩ (fun hHeld => ?_)
          clear hK K
          refine norm_ (a' := ?_) ?_ ?_
          rotate_left
          ·show Act.put _ (some 81) _ = _
           simp only [Act.put, sA, sB, sC, i64_w, i32_w]
           rfl
          refine pure_ (i := 13) (N := some 68) (v := ?_) (a' := ?_) #[T,T,T,T,T,T,T,T,T,T,T,T,T,T,F,F,T,T,F,F] rfl rfl (any_of HT_.out (by kernel_rfl)) (fun _ _ _ h => h) (Or.inl ⟨by rfl, ?_⟩) ?_ ?_
          rotate_left
          ·intro w'
           go_simp
           with_reducible rfl
          rotate_left
          ·simp only [Act.put, sA, sB, sC, i64_w, i32_w]
           rfl
          refine pure_ (i := 14) (N := some 82) (v := ?_) (a' := ?_) #[T,T,T,T,T,T,T,T,T,T,T,T,T,T,T,F,T,T,F,F] rfl rfl (any_of HT_.out (by kernel_rfl)) (fun _ _ _ h => h) (Or.inl ⟨by rfl, ?_⟩) ?_ ?_
          rotate_left
          ·intro w'
           go_simp
           with_reducible rfl
          rotate_left
          ·simp only [Act.put, sA, sB, sC, i64_w, i32_w]
           rfl
          refine pure_ (i := 15) (N := some 83) (v := ?_) (a' := ?_) #[T,T,T,T,T,T,T,T,T,T,T,T,T,T,T,T,T,T,F,F] rfl rfl (any_of HT_.out (by kernel_rfl)) (fun _ _ _ h => h) (Or.inl ⟨by rfl, ?_⟩) ?_ ?_
          rotate_left
          ·intro w'
           go_simp
           with_reducible rfl
          rotate_left
          ·simp only [Act.put, sA, sB, sC, i64_w, i32_w]
           rfl
          exact norm_ (by simp only [putAll, Act.put, sA, sB, sC] <;> rfl) (hJ2_5_8_11_12_16_17 (b289, b290) _ ⟨hHeld, BK254.out, BK255.out, BK256.out, BK257.out, BK258.out, BK275.out, BK276.out, BK289.out, BK290.out, GW289.out, GE289.out, N42_.out, N43_.out, N44_.out, N45_.out, N46_.out, N47_.out, N48_.out, N49_.out, N50_.out, N51_.out, N52_.out, N53_.out, N54_.out, N55_.out, N70_.out, N71_.out, GW290.out, GE290.out, N56_.out, N57_.out, N58_.out, N59_.out, N60_.out, N61_.out, N62_.out, N63_.out, N64_.out, N65_.out, N66_.out, N67_.out, N68_.out, N69_.out, HB.out⟩)
        ·skip
         rintro b290 w165 ⟨hS_, h0_, h1_, h2_, h3_, h4_, h5_, h6_, h7_, h8_, h9_, h10_, h11_, h12_, h13_, h14_, h15_, h16_, h17_, h18_, h19_, h20_, h21_, h22_, h23_, h24_⟩
         clear BK254 BK255 BK256 BK257 BK258 BK275 BK276 HB
         have BK254 := aM h0_; have BK255 := aM h1_; have BK256 := aM h2_; have BK257 := aM h3_; have BK258 := aM h4_; have BK275 := aM h5_; have BK276 := aM h6_; have BK290 := aM h7_; have GW290 := aM h8_; have GE290 := aM h9_; have N56_ := aM h10_; have N57_ := aM h11_; have N58_ := aM h12_; have N59_ := aM h13_; have N60_ := aM h14_; have N61_ := aM h15_; have N62_ := aM h16_; have N63_ := aM h17_; have N64_ := aM h18_; have N65_ := aM h19_; have N66_ := aM h20_; have N67_ := aM h21_; have N68_ := aM h22_; have N69_ := aM h23_; have HB := aM h24_
         clear h0_ h1_ h2_ h3_ h4_ h5_ h6_ h7_ h8_ h9_ h10_ h11_ h12_ h13_ h14_ h15_ h16_ h17_ h18_ h19_ h20_ h21_ h22_ h23_ h24_
         have hHeld := hS_
         refine norm_ (a' := ?_) ?_ ?_
         rotate_left
         ·simp only [putAll, Act.put, sA, sB, sC]
          rfl
         refine one_ (i := 16) (N := some 13) #[T,T,T,T,T,T,T,T,T,T,T,T,T,T,T,T,T,T,F,F] rfl rfl (one_of HT_.out (by kernel_rfl)) (by decide) (fun K hK => ?_)
         refine box_step ?hg (N := 13) ?hd (cs := #[.int .i32 0, .int .i32 0]) (t := 23) ?hr ?_; (case hd => rfl); (case hg => rfl); (case hr => first | (go_simp; done) | (go_simp; rfl))
         intro b289 hg w166 hbox hb
         have n_ := kC8 BK254 BK255 BK256 BK257 BK258 BK275 BK276 BK290 HB (by repeat first | exact lR _ _ | apply lN | apply lD | apply lA) hg hbox hb
         clear BK254 BK255 BK256 BK257 BK258 BK275 BK276 BK290 HB hb hbox hg
         obtain ⟨BK254, BK255, BK256, BK257, BK258, BK275, BK276, BK290, HB, BK289, GW289, GE289, N42_, N43_, N44_, N45_, N46_, N47_, N48_, N49_, N50_, N51_, N52_, N53_, N54_, N55_, N70_, N71_⟩ := n_
         refine hK.out _ _ ⟨bC BK254.out 0, bC BK254.out 1, bC BK258.out 0, bC BK258.out 1, bC BK255.out 0, bC BK255.out 1, bC BK256.out 0, bC BK256.out 1, bC BK257.out 0, bC BK257.out 1⟩ (fun hHeld => ?_)
         clear hK K
         refine norm_ (a' := ?_) ?_ ?_
         rotate_left
         ·show Act.put _ (some 13) _ = _
          simp only [Act.put, sA, sB, sC, i64_w, i32_w]
          rfl
         exact norm_ (by simp only [putAll, Act.put, sA, sB, sC] <;> rfl) (hJ2_5_8_11_12_16_17 (b289, b290) _ ⟨hHeld, BK254.out, BK255.out, BK256.out, BK257.out, BK258.out, BK275.out, BK276.out, BK289.out, BK290.out, GW289.out, GE289.out, N42_.out, N43_.out, N44_.out, N45_.out, N46_.out, N47_.out, N48_.out, N49_.out, N50_.out, N51_.out, N52_.out, N53_.out, N54_.out, N55_.out, N70_.out, N71_.out, GW290.out, GE290.out, N56_.out, N57_.out, N58_.out, N59_.out, N60_.out, N61_.out, N62_.out, N63_.out, N64_.out, N65_.out, N66_.out, N67_.out, N68_.out, N69_.out, HB.out⟩)
       ·skip
        rintro b289 w165 ⟨hS_, h0_, h1_, h2_, h3_, h4_, h5_, h6_, h7_, h8_, h9_, h10_, h11_, h12_, h13_, h14_, h15_, h16_, h17_, h18_, h19_, h20_, h21_, h22_, h23_, h24_⟩
        clear BK254 BK255 BK256 BK257 BK258 BK275 BK276 HB
        have BK254 := aM h0_; have BK255 := aM h1_; have BK256 := aM h2_; have BK257 := aM h3_; have BK258 := aM h4_; have BK275 := aM h5_; have BK276 := aM h6_; have BK289 := aM h7_; have GW289 := aM h8_; have GE289 := aM h9_; have N42_ := aM h10_; have N43_ := aM h11_; have N44_ := aM h12_; have N45_ := aM h13_; have N46_ := aM h14_; have N47_ := aM h15_; have N48_ := aM h16_; have N49_ := aM h17_; have N50_ := aM h18_; have N51_ := aM h19_; have N52_ := aM h20_; have N53_ := aM h21_; have N54_ := aM h22_; have N55_ := aM h23_; have HB := aM h24_
        clear h0_ h1_ h2_ h3_ h4_ h5_ h6_ h7_ h8_ h9_ h10_ h11_ h12_ h13_ h14_ h15_ h16_ h17_ h18_ h19_ h20_ h21_ h22_ h23_ h24_
        have hHeld := hS_
        refine norm_ (a' := ?_) ?_ ?_
        rotate_left
        ·simp only [putAll, Act.put, sA, sB, sC]
         rfl
        refine one_ (i := 17) (N := some 14) #[T,T,T,T,T,T,T,T,T,T,T,T,T,T,T,T,T,T,F,F] rfl rfl (one_of HT_.out (by kernel_rfl)) (by decide) (fun K hK => ?_)
        refine box_step ?hg (N := 14) ?hd (cs := #[.int .i32 0, .int .i32 0]) (t := 23) ?hr ?_; (case hd => rfl); (case hg => rfl); (case hr => first | (go_simp; done) | (go_simp; rfl))
        intro b290 hg w166 hbox hb
        have n_ := kC8 BK254 BK255 BK256 BK257 BK258 BK275 BK276 BK289 HB (by repeat first | exact lR _ _ | apply lN | apply lD | apply lA) hg hbox hb
        clear BK254 BK255 BK256 BK257 BK258 BK275 BK276 BK289 HB hb hbox hg
        obtain ⟨BK254, BK255, BK256, BK257, BK258, BK275, BK276, BK289, HB, BK290, GW290, GE290, N56_, N57_, N58_, N59_, N60_, N61_, N62_, N63_, N64_, N65_, N66_, N67_, N68_, N69_, N71_, N70_⟩ := n_
        refine hK.out _ _ ⟨bC BK254.out 0, bC BK254.out 1, bC BK258.out 0, bC BK258.out 1, bC BK255.out 0, bC BK255.out 1, bC BK256.out 0, bC BK256.out 1, bC BK257.out 0, bC BK257.out 1⟩ (fun hHeld => ?_)
        clear hK K
        refine norm_ (a' := ?_) ?_ ?_
        rotate_left
        ·show Act.put _ (some 14) _ = _
         simp only [Act.put, sA, sB, sC, i64_w, i32_w]
         rfl
        exact norm_ (by simp only [putAll, Act.put, sA, sB, sC] <;> rfl) (hJ2_5_8_11_12_16_17 (b289, b290) _ ⟨hHeld, BK254.out, BK255.out, BK256.out, BK257.out, BK258.out, BK275.out, BK276.out, BK289.out, BK290.out, GW289.out, GE289.out, N42_.out, N43_.out, N44_.out, N45_.out, N46_.out, N47_.out, N48_.out, N49_.out, N50_.out, N51_.out, N52_.out, N53_.out, N54_.out, N55_.out, N70_.out, N71_.out, GW290.out, GE290.out, N56_.out, N57_.out, N58_.out, N59_.out, N60_.out, N61_.out, N62_.out, N63_.out, N64_.out, N65_.out, N66_.out, N67_.out, N68_.out, N69_.out, HB.out⟩)
      rintro ⟨b289, b290⟩ w166 ⟨hS_, h0_, h1_, h2_, h3_, h4_, h5_, h6_, h7_, h8_, h9_, h10_, h11_, h12_, h13_, h14_, h15_, h16_, h17_, h18_, h19_, h20_, h21_, h22_, h23_, h24_, h25_, h26_, h27_, h28_, h29_, h30_, h31_, h32_, h33_, h34_, h35_, h36_, h37_, h38_, h39_, h40_, h41_, h42_, h43_⟩
      clear BK254 BK255 BK256 BK257 BK258 BK275 BK276 HB
      (try dsimp only at h0_ h1_ h2_ h3_ h4_ h5_ h6_ h7_ h8_ h9_ h10_ h11_ h12_ h13_ h14_ h15_ h16_ h17_ h18_ h19_ h20_ h21_ h22_ h23_ h24_ h25_ h26_ h27_ h28_ h29_ h30_ h31_ h32_ h33_ h34_ h35_ h36_ h37_ h38_ h39_ h40_ h41_ h42_ h43_)
      have BK254 := aM h0_; have BK255 := aM h1_; have BK256 := aM h2_; have BK257 := aM h3_; have BK258 := aM h4_; have BK275 := aM h5_; have BK276 := aM h6_; have BK289 := aM h7_; have BK290 := aM h8_; have GW289 := aM h9_; have GE289 := aM h10_; have N42_ := aM h11_; have N43_ := aM h12_; have N44_ := aM h13_; have N45_ := aM h14_; have N46_ := aM h15_; have N47_ := aM h16_; have N48_ := aM h17_; have N49_ := aM h18_; have N50_ := aM h19_; have N51_ := aM h20_; have N52_ := aM h21_; have N53_ := aM h22_; have N54_ := aM h23_; have N55_ := aM h24_; have N70_ := aM h25_; have N71_ := aM h26_; have GW290 := aM h27_; have GE290 := aM h28_; have N56_ := aM h29_; have N57_ := aM h30_; have N58_ := aM h31_; have N59_ := aM h32_; have N60_ := aM h33_; have N61_ := aM h34_; have N62_ := aM h35_; have N63_ := aM h36_; have N64_ := aM h37_; have N65_ := aM h38_; have N66_ := aM h39_; have N67_ := aM h40_; have N68_ := aM h41_; have N69_ := aM h42_; have HB := aM h43_
      clear h0_ h1_ h2_ h3_ h4_ h5_ h6_ h7_ h8_ h9_ h10_ h11_ h12_ h13_ h14_ h15_ h16_ h17_ h18_ h19_ h20_ h21_ h22_ h23_ h24_ h25_ h26_ h27_ h28_ h29_ h30_ h31_ h32_ h33_ h34_ h35_ h36_ h37_ h38_ h39_ h40_ h41_ h42_ h43_
      have hHeld : w166.cell? ⟨b254, 0, none⟩ = some (.int .i32 a0_0) ∧ w166.cell? ⟨b254, 1, none⟩ = some (.int .i32 a0_1) ∧ w166.cell? ⟨b258, 0, none⟩ = some (.int .i32 a4_0) ∧ w166.cell? ⟨b258, 1, none⟩ = some (.int .i32 a4_1) ∧ w166.cell? ⟨b255, 0, none⟩ = some (.int .i32 a1_0) ∧ w166.cell? ⟨b255, 1, none⟩ = some (.int .i32 a1_1) ∧ w166.cell? ⟨b256, 0, none⟩ = some (.int .i32 a2_0) ∧ w166.cell? ⟨b256, 1, none⟩ = some (.int .i32 a2_1) ∧ w166.cell? ⟨b257, 0, none⟩ = some (.int .i32 a3_0) ∧ w166.cell? ⟨b257, 1, none⟩ = some (.int .i32 a3_1) := hS_
      refine norm_ (a' := ?_) ?_ ?_
      rotate_left
      ·simp only [putAll, Act.put, sA, sB, sC]
       rfl
      refine one_ (i := 18) (N := none) #[T,T,T,T,T,T,T,T,T,T,T,T,T,T,T,T,T,T,T,F] rfl rfl (one_of HT_.out (by kernel_rfl)) (by decide) (fun K hK => ?_)
      have hs167 : w166.cell? ⟨b289, 0, none⟩ = some (.int .i32 0) := (bC BK289.out 0).trans rfl
      have hfs167 := bF BK289.out 0
      have hns167_0 := N42_.out
      have hns167_1 := N44_.out
      have hns167_2 := N46_.out
      have hns167_3 := N48_.out
      have hns167_4 := N50_.out
      have hns167_5 := N52_.out
      have hns167_6 := N54_.out
      have hns167_8 := N70_.out
      have hms167_0 := N43_.out
      have hms167_1 := N45_.out
      have hms167_2 := N47_.out
      have hms167_3 := N49_.out
      have hms167_4 := N51_.out
      have hms167_5 := N53_.out
      have hms167_6 := N55_.out
      have hms167_8 := N71_.out
      have hs168 : w166.cell? ⟨b289, 1, none⟩ = some (.int .i32 0) := (bC BK289.out 1).trans rfl
      have hfs168 := bF BK289.out 1
      have hns168_0 := N42_.out
      have hns168_1 := N44_.out
      have hns168_2 := N46_.out
      have hns168_3 := N48_.out
      have hns168_4 := N50_.out
      have hns168_5 := N52_.out
      have hns168_6 := N54_.out
      have hns168_8 := N70_.out
      have hms168_0 := N43_.out
      have hms168_1 := N45_.out
      have hms168_2 := N47_.out
      have hms168_3 := N49_.out
      have hms168_4 := N51_.out
      have hms168_5 := N53_.out
      have hms168_6 := N55_.out
      have hms168_8 := N71_.out
      refine skip_ (w1 := ?_) (by rfl) rfl ?_ ?_
      rotate_left
      ·go_simp
       rfl
      refine hK.out _ _ ⟨((cF (p := ⟨b289, _, none⟩) N42_.out _).trans (((cF (p := ⟨b289, _, none⟩) N42_.out _).trans (hHeld.1)))), ((cF (p := ⟨b289, _, none⟩) N42_.out _).trans (((cF (p := ⟨b289, _, none⟩) N42_.out _).trans (hHeld.2.1)))), ((cF (p := ⟨b289, _, none⟩) N50_.out _).trans (((cF (p := ⟨b289, _, none⟩) N50_.out _).trans (hHeld.2.2.1)))), ((cF (p := ⟨b289, _, none⟩) N50_.out _).trans (((cF (p := ⟨b289, _, none⟩) N50_.out _).trans (hHeld.2.2.2.1)))), ((cF (p := ⟨b289, _, none⟩) N44_.out _).trans (((cF (p := ⟨b289, _, none⟩) N44_.out _).trans (hHeld.2.2.2.2.1)))), ((cF (p := ⟨b289, _, none⟩) N44_.out _).trans (((cF (p := ⟨b289, _, none⟩) N44_.out _).trans (hHeld.2.2.2.2.2.1)))), ((cF (p := ⟨b289, _, none⟩) N46_.out _).trans (((cF (p := ⟨b289, _, none⟩) N46_.out _).trans (hHeld.2.2.2.2.2.2.1)))), ((cF (p := ⟨b289, _, none⟩) N46_.out _).trans (((cF (p := ⟨b289, _, none⟩) N46_.out _).trans (hHeld.2.2.2.2.2.2.2.1)))), ((cF (p := ⟨b289, _, none⟩) N48_.out _).trans (((cF (p := ⟨b289, _, none⟩) N48_.out _).trans (hHeld.2.2.2.2.2.2.2.2.1)))), ((cF (p := ⟨b289, _, none⟩) N48_.out _).trans (((cF (p := ⟨b289, _, none⟩) N48_.out _).trans (hHeld.2.2.2.2.2.2.2.2.2))))⟩ (fun hHeld => ?_)
      clear hK K
      refine one_ (i := 19) (N := none) #[T,T,T,T,T,T,T,T,T,T,T,T,T,T,T,T,T,T,T,T] rfl rfl (one_of HT_.out (by kernel_rfl)) (by decide) (fun K hK => ?_)
      have hs169 : w166.cell? ⟨b290, 0, none⟩ = some (.int .i32 0) := (bC BK290.out 0).trans rfl
      have hfs169 := bF BK290.out 0
      have hns169_0 := N56_.out
      have hns169_1 := N58_.out
      have hns169_2 := N60_.out
      have hns169_3 := N62_.out
      have hns169_4 := N64_.out
      have hns169_5 := N66_.out
      have hns169_6 := N68_.out
      have hns169_7 := N71_.out
      have hms169_0 := N57_.out
      have hms169_1 := N59_.out
      have hms169_2 := N61_.out
      have hms169_3 := N63_.out
      have hms169_4 := N65_.out
      have hms169_5 := N67_.out
      have hms169_6 := N69_.out
      have hms169_7 := N70_.out
      have hs170 : w166.cell? ⟨b290, 1, none⟩ = some (.int .i32 0) := (bC BK290.out 1).trans rfl
      have hfs170 := bF BK290.out 1
      have hns170_0 := N56_.out
      have hns170_1 := N58_.out
      have hns170_2 := N60_.out
      have hns170_3 := N62_.out
      have hns170_4 := N64_.out
      have hns170_5 := N66_.out
      have hns170_6 := N68_.out
      have hns170_7 := N71_.out
      have hms170_0 := N57_.out
      have hms170_1 := N59_.out
      have hms170_2 := N61_.out
      have hms170_3 := N63_.out
      have hms170_4 := N65_.out
      have hms170_5 := N67_.out
      have hms170_6 := N69_.out
      have hms170_7 := N70_.out
      refine skip_ (w1 := ?_) (by rfl) rfl ?_ ?_
      rotate_left
      ·go_simp
       rfl
      refine hK.out _ _ ⟨((cF (p := ⟨b290, _, none⟩) N56_.out _).trans (((cF (p := ⟨b290, _, none⟩) N56_.out _).trans (hHeld.1)))), ((cF (p := ⟨b290, _, none⟩) N56_.out _).trans (((cF (p := ⟨b290, _, none⟩) N56_.out _).trans (hHeld.2.1)))), ((cF (p := ⟨b290, _, none⟩) N64_.out _).trans (((cF (p := ⟨b290, _, none⟩) N64_.out _).trans (hHeld.2.2.1)))), ((cF (p := ⟨b290, _, none⟩) N64_.out _).trans (((cF (p := ⟨b290, _, none⟩) N64_.out _).trans (hHeld.2.2.2.1)))), ((cF (p := ⟨b290, _, none⟩) N58_.out _).trans (((cF (p := ⟨b290, _, none⟩) N58_.out _).trans (hHeld.2.2.2.2.1)))), ((cF (p := ⟨b290, _, none⟩) N58_.out _).trans (((cF (p := ⟨b290, _, none⟩) N58_.out _).trans (hHeld.2.2.2.2.2.1)))), ((cF (p := ⟨b290, _, none⟩) N60_.out _).trans (((cF (p := ⟨b290, _, none⟩) N60_.out _).trans (hHeld.2.2.2.2.2.2.1)))), ((cF (p := ⟨b290, _, none⟩) N60_.out _).trans (((cF (p := ⟨b290, _, none⟩) N60_.out _).trans (hHeld.2.2.2.2.2.2.2.1)))), ((cF (p := ⟨b290, _, none⟩) N62_.out _).trans (((cF (p := ⟨b290, _, none⟩) N62_.out _).trans (hHeld.2.2.2.2.2.2.2.2.1)))), ((cF (p := ⟨b290, _, none⟩) N62_.out _).trans (((cF (p := ⟨b290, _, none⟩) N62_.out _).trans (hHeld.2.2.2.2.2.2.2.2.2))))⟩ (fun hHeld => ?_)
      clear hK K
      refine done_ (done_of HT_.out (by kernel_rfl)) ?_
      try go_wp2
      have n0_ : Aside0 (((((w166.setCell ⟨b289, 0, none⟩ (.int .i32 t285)).setCell ⟨b289, 1, none⟩ (.int .i32 t286)).setCell ⟨b290, 0, none⟩ (.int .i32 t287)).setCell ⟨b290, 1, none⟩ (.int .i32 t288)).heap[b254]? = some (.cells #[.int .i32 a0_0, .int .i32 a0_1] 23 (0, 0))) := ⟨by (with_reducible repeat first | apply bN | apply bD | apply bA); refine bR ?_ N56_.out _; (with_reducible repeat first | apply bN | apply bD | apply bA); refine bR ?_ N56_.out _; (with_reducible repeat first | apply bN | apply bD | apply bA); refine bR ?_ N42_.out _; (with_reducible repeat first | apply bN | apply bD | apply bA); refine bR ?_ N42_.out _; (with_reducible repeat first | apply bN | apply bD | apply bA); exact BK254.out⟩
      have n1_ : Aside0 (((((w166.setCell ⟨b289, 0, none⟩ (.int .i32 t285)).setCell ⟨b289, 1, none⟩ (.int .i32 t286)).setCell ⟨b290, 0, none⟩ (.int .i32 t287)).setCell ⟨b290, 1, none⟩ (.int .i32 t288)).heap[b255]? = some (.cells #[.int .i32 a1_0, .int .i32 a1_1] 23 (0, 0))) := ⟨by (with_reducible repeat first | apply bN | apply bD | apply bA); refine bR ?_ N58_.out _; (with_reducible repeat first | apply bN | apply bD | apply bA); refine bR ?_ N58_.out _; (with_reducible repeat first | apply bN | apply bD | apply bA); refine bR ?_ N44_.out _; (with_reducible repeat first | apply bN | apply bD | apply bA); refine bR ?_ N44_.out _; (with_reducible repeat first | apply bN | apply bD | apply bA); exact BK255.out⟩
      have n2_ : Aside0 (((((w166.setCell ⟨b289, 0, none⟩ (.int .i32 t285)).setCell ⟨b289, 1, none⟩ (.int .i32 t286)).setCell ⟨b290, 0, none⟩ (.int .i32 t287)).setCell ⟨b290, 1, none⟩ (.int .i32 t288)).heap[b256]? = some (.cells #[.int .i32 a2_0, .int .i32 a2_1] 23 (0, 0))) := ⟨by (with_reducible repeat first | apply bN | apply bD | apply bA); refine bR ?_ N60_.out _; (with_reducible repeat first | apply bN | apply bD | apply bA); refine bR ?_ N60_.out _; (with_reducible repeat first | apply bN | apply bD | apply bA); refine bR ?_ N46_.out _; (with_reducible repeat first | apply bN | apply bD | apply bA); refine bR ?_ N46_.out _; (with_reducible repeat first | apply bN | apply bD | apply bA); exact BK256.out⟩
      have n3_ : Aside0 (((((w166.setCell ⟨b289, 0, none⟩ (.int .i32 t285)).setCell ⟨b289, 1, none⟩ (.int .i32 t286)).setCell ⟨b290, 0, none⟩ (.int .i32 t287)).setCell ⟨b290, 1, none⟩ (.int .i32 t288)).heap[b257]? = some (.cells #[.int .i32 a3_0, .int .i32 a3_1] 23 (0, 0))) := ⟨by (with_reducible repeat first | apply bN | apply bD | apply bA); refine bR ?_ N62_.out _; (with_reducible repeat first | apply bN | apply bD | apply bA); refine bR ?_ N62_.out _; (with_reducible repeat first | apply bN | apply bD | apply bA); refine bR ?_ N48_.out _; (with_reducible repeat first | apply bN | apply bD | apply bA); refine bR ?_ N48_.out _; (with_reducible repeat first | apply bN | apply bD | apply bA); exact BK257.out⟩
      have n4_ : Aside0 (((((w166.setCell ⟨b289, 0, none⟩ (.int .i32 t285)).setCell ⟨b289, 1, none⟩ (.int .i32 t286)).setCell ⟨b290, 0, none⟩ (.int .i32 t287)).setCell ⟨b290, 1, none⟩ (.int .i32 t288)).heap[b258]? = some (.cells #[.int .i32 a4_0, .int .i32 a4_1] 23 (0, 0))) := ⟨by (with_reducible repeat first | apply bN | apply bD | apply bA); refine bR ?_ N64_.out _; (with_reducible repeat first | apply bN | apply bD | apply bA); refine bR ?_ N64_.out _; (with_reducible repeat first | apply bN | apply bD | apply bA); refine bR ?_ N50_.out _; (with_reducible repeat first | apply bN | apply bD | apply bA); refine bR ?_ N50_.out _; (with_reducible repeat first | apply bN | apply bD | apply bA); exact BK258.out⟩
      have n5_ : Aside0 (((((w166.setCell ⟨b289, 0, none⟩ (.int .i32 t285)).setCell ⟨b289, 1, none⟩ (.int .i32 t286)).setCell ⟨b290, 0, none⟩ (.int .i32 t287)).setCell ⟨b290, 1, none⟩ (.int .i32 t288)).heap[b275]? = some (.cells #[.int .i32 t271, .int .i32 t272] 23 (0, 0))) := ⟨by (with_reducible repeat first | apply bN | apply bD | apply bA); refine bR ?_ N66_.out _; (with_reducible repeat first | apply bN | apply bD | apply bA); refine bR ?_ N66_.out _; (with_reducible repeat first | apply bN | apply bD | apply bA); refine bR ?_ N52_.out _; (with_reducible repeat first | apply bN | apply bD | apply bA); refine bR ?_ N52_.out _; (with_reducible repeat first | apply bN | apply bD | apply bA); exact BK275.out⟩
      have n6_ : Aside0 (((((w166.setCell ⟨b289, 0, none⟩ (.int .i32 t285)).setCell ⟨b289, 1, none⟩ (.int .i32 t286)).setCell ⟨b290, 0, none⟩ (.int .i32 t287)).setCell ⟨b290, 1, none⟩ (.int .i32 t288)).heap[b276]? = some (.cells #[.int .i32 t273, .int .i32 t274] 23 (0, 0))) := ⟨by (with_reducible repeat first | apply bN | apply bD | apply bA); refine bR ?_ N68_.out _; (with_reducible repeat first | apply bN | apply bD | apply bA); refine bR ?_ N68_.out _; (with_reducible repeat first | apply bN | apply bD | apply bA); refine bR ?_ N54_.out _; (with_reducible repeat first | apply bN | apply bD | apply bA); refine bR ?_ N54_.out _; (with_reducible repeat first | apply bN | apply bD | apply bA); exact BK276.out⟩
      have n7_ : Aside0 (((((w166.setCell ⟨b289, 0, none⟩ (.int .i32 t285)).setCell ⟨b289, 1, none⟩ (.int .i32 t286)).setCell ⟨b290, 0, none⟩ (.int .i32 t287)).setCell ⟨b290, 1, none⟩ (.int .i32 t288)).heap[b289]? = some (.cells #[.int .i32 t285, .int .i32 t286] 23 (0, 0))) := ⟨by (with_reducible repeat first | apply bN | apply bD | apply bA); refine bR ?_ N71_.out _; (with_reducible repeat first | apply bN | apply bD | apply bA); refine bR ?_ N71_.out _; (with_reducible repeat first | apply bN | apply bD | apply bA); refine bP (cs := #[.int .i32 t285, .int .i32 0]) ?_ 1 _ rfl; (with_reducible repeat first | apply bN | apply bD | apply bA); refine bP (cs := #[.int .i32 0, .int .i32 0]) ?_ 0 _ rfl; (with_reducible repeat first | apply bN | apply bD | apply bA); exact BK289.out⟩
      have n8_ : Aside0 (((((w166.setCell ⟨b289, 0, none⟩ (.int .i32 t285)).setCell ⟨b289, 1, none⟩ (.int .i32 t286)).setCell ⟨b290, 0, none⟩ (.int .i32 t287)).setCell ⟨b290, 1, none⟩ (.int .i32 t288)).heap[b290]? = some (.cells #[.int .i32 t287, .int .i32 t288] 23 (0, 0))) := ⟨by (with_reducible repeat first | apply bN | apply bD | apply bA); refine bP (cs := #[.int .i32 t287, .int .i32 0]) ?_ 1 _ rfl; (with_reducible repeat first | apply bN | apply bD | apply bA); refine bP (cs := #[.int .i32 0, .int .i32 0]) ?_ 0 _ rfl; (with_reducible repeat first | apply bN | apply bD | apply bA); refine bR ?_ N70_.out _; (with_reducible repeat first | apply bN | apply bD | apply bA); refine bR ?_ N70_.out _; (with_reducible repeat first | apply bN | apply bD | apply bA); exact BK290.out⟩
      have n9_ : Aside0 (Below w.heap.size w ((((w166.setCell ⟨b289, 0, none⟩ (.int .i32 t285)).setCell ⟨b289, 1, none⟩ (.int .i32 t286)).setCell ⟨b290, 0, none⟩ (.int .i32 t287)).setCell ⟨b290, 1, none⟩ (.int .i32 t288))) := ⟨by repeat (first | (with_reducible first | exact HB.out | apply lA | apply lN | apply lD | refine lS ?_ GE254.out | refine lS ?_ GE255.out | refine lS ?_ GE256.out | refine lS ?_ GE257.out | refine lS ?_ GE258.out | refine lS ?_ GE275.out | refine lS ?_ GE276.out | refine lS ?_ GE289.out | refine lS ?_ GE290.out) | exact HB.out)⟩
      (try clear BK254)
      (try clear BK255)
      (try clear BK256)
      (try clear BK257)
      (try clear BK258)
      (try clear BK275)
      (try clear BK276)
      (try clear BK289)
      (try clear BK290)
      (try clear HB)
      generalize ((((w166.setCell ⟨b289, 0, none⟩ (.int .i32 t285)).setCell ⟨b289, 1, none⟩ (.int .i32 t286)).setCell ⟨b290, 0, none⟩ (.int .i32 t287)).setCell ⟨b290, 1, none⟩ (.int .i32 t288)) = w171 at n0_ n1_ n2_ n3_ n4_ n5_ n6_ n7_ n8_ n9_ ⊢
      have BK254 := n0_
      have BK255 := n1_
      have BK256 := n2_
      have BK257 := n3_
      have BK258 := n4_
      have BK275 := n5_
      have BK276 := n6_
      have BK289 := n7_
      have BK290 := n8_
      have HB := n9_
      clear n0_ n1_ n2_ n3_ n4_ n5_ n6_ n7_ n8_ n9_
      have n_ := kA9 BK254 BK255 BK256 BK257 BK258 BK275 BK276 BK289 BK290 HB (lD (lR _ _))
      clear BK254 BK255 BK256 BK257 BK258 BK275 BK276 BK289 BK290 HB
      obtain ⟨BK254, BK255, BK256, BK257, BK258, BK275, BK276, BK289, BK290, HB⟩ := n_
      refine start_ (n := 13) (S := fun w' => w'.cell? ⟨b289, 0, none⟩ = some (.int .i32 t285) ∧ w'.cell? ⟨b289, 1, none⟩ = some (.int .i32 t286) ∧ w'.cell? ⟨b275, 0, none⟩ = some (.int .i32 t271) ∧ w'.cell? ⟨b275, 1, none⟩ = some (.int .i32 t272) ∧ w'.cell? ⟨b258, 0, none⟩ = some (.int .i32 a4_0) ∧ w'.cell? ⟨b258, 1, none⟩ = some (.int .i32 a4_1) ∧ w'.cell? ⟨b290, 0, none⟩ = some (.int .i32 t287) ∧ w'.cell? ⟨b290, 1, none⟩ = some (.int .i32 t288) ∧ w'.cell? ⟨b276, 0, none⟩ = some (.int .i32 t273) ∧ w'.cell? ⟨b276, 1, none⟩ = some (.int .i32 t274)) (ds := []) #[F,F,F,F,F,F,F,F,F,F,F,F,F] (by kernel_rfl) rfl rfl ⟨(bC BK289.out 0).trans rfl, (bC BK289.out 1).trans rfl, (bC BK275.out 0).trans rfl, (bC BK275.out 1).trans rfl, (bC BK258.out 0).trans rfl, (bC BK258.out 1).trans rfl, (bC BK290.out 0).trans rfl, (bC BK290.out 1).trans rfl, (bC BK276.out 0).trans rfl, (bC BK276.out 1).trans rfl⟩ (fun hHeld => ?_); refine with_tabW billiardlaw13_SegmentMoves.tab7 billiardlaw13_SegmentMoves.bits7 (fun HT_ HW_ => ?_)
      generalize w171.drew = w172 at BK254 BK255 BK256 BK257 BK258 BK275 BK276 BK289 BK290 HB hHeld ⊢
      refine take_ (i := 0) (N := some 84) (v := ?_) (a' := ?_) #[T,F,F,F,F,F,F,F,F,F,F,F,F] rfl rfl (take_ofW HT_.out HW_.out (by kernel_rfl)) (fun _ _ _ h => h) (Or.inl ⟨by rfl, ?_⟩) hHeld ?_ ?_
      rotate_left
      ·rintro w' ⟨s0, s1, s2, s3, s4, s5, s6, s7, s8, s9⟩
       go_simp
       with_reducible rfl
      rotate_left
      ·simp only [Act.put, sA, sB, sC, i64_w, i32_w]
       rfl
      refine take_ (i := 1) (N := some 85) (v := ?_) (a' := ?_) #[T,T,F,F,F,F,F,F,F,F,F,F,F] rfl rfl (take_ofW HT_.out HW_.out (by kernel_rfl)) (fun _ _ _ h => h) (Or.inl ⟨by rfl, ?_⟩) hHeld ?_ ?_
      rotate_left
      ·rintro w' ⟨s0, s1, s2, s3, s4, s5, s6, s7, s8, s9⟩
       go_simp
       with_reducible rfl
      rotate_left
      ·simp only [Act.put, sA, sB, sC, i64_w, i32_w]
       rfl
      refine take_ (i := 2) (N := some 86) (v := ?_) (a' := ?_) #[T,T,T,F,F,F,F,F,F,F,F,F,F] rfl rfl (take_ofW HT_.out HW_.out (by kernel_rfl)) (fun _ _ _ h => h) (Or.inl ⟨by rfl, ?_⟩) hHeld ?_ ?_
      rotate_left
      ·rintro w' ⟨s0, s1, s2, s3, s4, s5, s6, s7, s8, s9⟩
       go_simp
       with_reducible rfl
      rotate_left
      ·simp only [Act.put, sA, sB, sC, i64_w, i32_w]
       rfl
      refine one_ (i := 3) (N := some 87) #[T,T,T,T,F,F,F,F,F,F,F,F,F] rfl rfl (one_of HT_.out (by kernel_rfl)) (by decide) (fun K hK => ?_)
      refine goes_ Try.func15 (by kernel_rfl) rfl #[.agg #[.int .i32 t271, .int .i32 t272], .agg #[.int .i32 a4_0, .int .i32 a4_1]] (by rfl) rfl rfl (by (try simp only [List.map_toArray, List.map_cons, List.map_nil]); first | done | rfl | (simp only [List.length_drop, List.length_take]; rfl)) ?_
      with_reducible refine (billiardlaw13_move.calls t271 t272 a4_0 a4_1 t291 t292 _ A118.out).mono ?_
      rintro e w173 ⟨rfl, hb⟩
      refine ⟨_, rfl, ?_⟩
      have n_ := kB9 BK254 BK255 BK256 BK257 BK258 BK275 BK276 BK289 BK290 HB (by repeat first | exact lR _ _ | apply lN | apply lD | apply lA) hb
      clear BK254 BK255 BK256 BK257 BK258 BK275 BK276 BK289 BK290 HB
      obtain ⟨BK254, BK255, BK256, BK257, BK258, BK275, BK276, BK289, BK290, HB⟩ := n_
      (try clear hb)
      (try clear hb2)
      (try clear hk)
      (try clear hi)
      refine hK.out _ _ ⟨bC BK289.out 0, bC BK289.out 1, bC BK275.out 0, bC BK275.out 1, bC BK258.out 0, bC BK258.out 1, bC BK290.out 0, bC BK290.out 1, bC BK276.out 0, bC BK276.out 1⟩ (fun hHeld => ?_)
      clear hK K
      refine norm_ (a' := ?_) ?_ ?_
      rotate_left
      ·show Act.put _ (some 87) _ = _
       simp only [Act.put, sA, sB, sC, i64_w, i32_w]
       rfl
      refine pure_ (i := 4) (N := some 88) (v := ?_) (a' := ?_) #[T,T,T,T,T,F,F,F,F,F,F,F,F] rfl rfl (any_of HT_.out (by kernel_rfl)) (fun _ _ _ h => h) (Or.inl ⟨by rfl, ?_⟩) ?_ ?_
      rotate_left
      ·intro w'
       go_simp
       with_reducible rfl
      rotate_left
      ·simp only [Act.put, sA, sB, sC, i64_w, i32_w]
       rfl
      refine pure_ (i := 5) (N := some 89) (v := ?_) (a' := ?_) #[T,T,T,T,T,T,F,F,F,F,F,F,F] rfl rfl (any_of HT_.out (by kernel_rfl)) (fun _ _ _ h => h) (Or.inl ⟨by rfl, ?_⟩) ?_ ?_
      rotate_left
      ·intro w'
       go_simp
       with_reducible rfl
      rotate_left
      ·simp only [Act.put, sA, sB, sC, i64_w, i32_w]
       rfl
      refine take_ (i := 6) (N := some 90) (v := ?_) (a' := ?_) #[T,T,T,T,T,T,T,F,F,F,F,F,F] rfl rfl (take_ofW HT_.out HW_.out (by kernel_rfl)) (fun _ _ _ h => h) (Or.inl ⟨by rfl, ?_⟩) hHeld ?_ ?_
      rotate_left
      ·rintro w' ⟨s0, s1, s2, s3, s4, s5, s6, s7, s8, s9⟩
       go_simp
       with_reducible rfl
      rotate_left
      ·simp only [Act.put, sA, sB, sC, i64_w, i32_w]
       rfl
      refine take_ (i := 7) (N := some 91) (v := ?_) (a' := ?_) #[T,T,T,T,T,T,T,T,F,F,F,F,F] rfl rfl (take_ofW HT_.out HW_.out (by kernel_rfl)) (fun _ _ _ h => h) (Or.inl ⟨by rfl, ?_⟩) hHeld ?_ ?_
      rotate_left
      ·rintro w' ⟨s0, s1, s2, s3, s4, s5, s6, s7, s8, s9⟩
       go_simp
       with_reducible rfl
      rotate_left
      ·simp only [Act.put, sA, sB, sC, i64_w, i32_w]
       rfl
      refine take_ (i := 8) (N := some 92) (v := ?_) (a' := ?_) #[T,T,T,T,T,T,T,T,T,F,F,F,F] rfl rfl (take_ofW HT_.out HW_.out (by kernel_rfl)) (fun _ _ _ h => h) (Or.inl ⟨by rfl, ?_⟩) hHeld ?_ ?_
      rotate_left
      ·rintro w' ⟨s0, s1, s2, s3, s4, s5, s6, s7, s8, s9⟩
       go_simp
       with_reducible rfl
      rotate_left
      ·simp only [Act.put, sA, sB, sC, i64_w, i32_w]
       rfl
      refine one_ (i := 9) (N := some 93) #[T,T,T,T,T,T,T,T,T,T,F,F,F] rfl rfl (one_of HT_.out (by kernel_rfl)) (by decide) (fun K hK => ?_)
      refine goes_ Try.func15 (by kernel_rfl) rfl #[.agg #[.int .i32 t273, .int .i32 t274], .agg #[.int .i32 a4_0, .int .i32 a4_1]] (by rfl) rfl rfl (by (try simp only [List.map_toArray, List.map_cons, List.map_nil]); first | done | rfl | (simp only [List.length_drop, List.length_take]; rfl)) ?_
      with_reducible refine (billiardlaw13_move.calls t273 t274 a4_0 a4_1 t293 t294 _ A120.out).mono ?_
      rintro e w174 ⟨rfl, hb⟩
      refine ⟨_, rfl, ?_⟩
      have n_ := kB9 BK254 BK255 BK256 BK257 BK258 BK275 BK276 BK289 BK290 HB (by repeat first | exact lR _ _ | apply lN | apply lD | apply lA) hb
      clear BK254 BK255 BK256 BK257 BK258 BK275 BK276 BK289 BK290 HB
      obtain ⟨BK254, BK255, BK256, BK257, BK258, BK275, BK276, BK289, BK290, HB⟩ := n_
      (try clear hb)
      (try clear hb2)
      (try clear hk)
      (try clear hi)
      refine hK.out _ _ ⟨bC BK289.out 0, bC BK289.out 1, bC BK275.out 0, bC BK275.out 1, bC BK258.out 0, bC BK258.out 1, bC BK290.out 0, bC BK290.out 1, bC BK276.out 0, bC BK276.out 1⟩ (fun hHeld => ?_)
      clear hK K
      refine norm_ (a' := ?_) ?_ ?_
      rotate_left
      ·show Act.put _ (some 93) _ = _
       simp only [Act.put, sA, sB, sC, i64_w, i32_w]
       rfl
      refine pure_ (i := 10) (N := some 94) (v := ?_) (a' := ?_) #[T,T,T,T,T,T,T,T,T,T,T,F,F] rfl rfl (any_of HT_.out (by kernel_rfl)) (fun _ _ _ h => h) (Or.inl ⟨by rfl, ?_⟩) ?_ ?_
      rotate_left
      ·intro w'
       go_simp
       with_reducible rfl
      rotate_left
      ·simp only [Act.put, sA, sB, sC, i64_w, i32_w]
       rfl
      refine pure_ (i := 11) (N := some 95) (v := ?_) (a' := ?_) #[T,T,T,T,T,T,T,T,T,T,T,T,F] rfl rfl (any_of HT_.out (by kernel_rfl)) (fun _ _ _ h => h) (Or.inl ⟨by rfl, ?_⟩) ?_ ?_
      rotate_left
      ·intro w'
       go_simp
       with_reducible rfl
      rotate_left
      ·simp only [Act.put, sA, sB, sC, i64_w, i32_w]
       rfl
      refine pure_ (i := 12) (N := some 10) (v := ?_) (a' := ?_) #[T,T,T,T,T,T,T,T,T,T,T,T,T] rfl rfl (any_of HT_.out (by kernel_rfl)) (fun _ _ _ h => h) (Or.inl ⟨by rfl, ?_⟩) ?_ ?_
      rotate_left
      ·intro w'
       go_simp
       with_reducible rfl
      rotate_left
      ·simp only [Act.put, sA, sB, sC, i64_w, i32_w]
       rfl
      refine done_ (done_of HT_.out (by kernel_rfl)) ?_
      try go_wp2
      go_ret
      exact ⟨by first | rfl | (simp [errW_none, errW_some] <;> rfl) | (simp [*, errW_none, errW_some] <;> rfl), by repeat (first | (with_reducible first | exact HB.out | apply lA | apply lN | apply lD | refine lS ?_ GE254.out | refine lS ?_ GE255.out | refine lS ?_ GE256.out | refine lS ?_ GE257.out | refine lS ?_ GE258.out | refine lS ?_ GE275.out | refine lS ?_ GE276.out | refine lS ?_ GE289.out | refine lS ?_ GE290.out) | exact HB.out)⟩
     ·rw [if_neg c119] at H
      have c119b0 : (t285 == t291 && (t286 == t292)) = false := by simpa using c119
      (try (have c119b1 : decide (t285 = t291 && (t286 == t292)) = false := by simpa using c119))
      (try (have c119b2 : (t285 == t291 && (t286 == t292)) = false := by simpa using c119))
      (try (have c119b3 : ¬ (t285 = t291 && (t286 == t292)) := by simpa using c119))
      clear c119
      exact absurd ((Option.some.inj H).trans HR.out) (by decide)
    ·replace c111 := Bool.eq_false_iff.mpr c111
     subst c111
     rw [if_neg (show ¬ (false = true) by decide)] at H
     obtain rfl := Option.some.inj H
     try go_wp2
     have n_ := kA5 BK254 BK255 BK256 BK257 BK258 HB (lD (lR _ _))
     clear BK254 BK255 BK256 BK257 BK258 HB
     obtain ⟨BK254, BK255, BK256, BK257, BK258, HB⟩ := n_
     refine start_ (n := 14) (S := fun w' => w'.cell? ⟨b254, 0, none⟩ = some (.int .i32 a0_0) ∧ w'.cell? ⟨b254, 1, none⟩ = some (.int .i32 a0_1) ∧ w'.cell? ⟨b258, 0, none⟩ = some (.int .i32 a4_0) ∧ w'.cell? ⟨b258, 1, none⟩ = some (.int .i32 a4_1) ∧ w'.cell? ⟨b255, 0, none⟩ = some (.int .i32 a1_0) ∧ w'.cell? ⟨b255, 1, none⟩ = some (.int .i32 a1_1) ∧ w'.cell? ⟨b256, 0, none⟩ = some (.int .i32 a2_0) ∧ w'.cell? ⟨b256, 1, none⟩ = some (.int .i32 a2_1) ∧ w'.cell? ⟨b257, 0, none⟩ = some (.int .i32 a3_0) ∧ w'.cell? ⟨b257, 1, none⟩ = some (.int .i32 a3_1)) (ds := []) #[F,F,F,F,F,F,F,F,F,F,F,F,F,F] (by kernel_rfl) rfl rfl ⟨(bC BK254.out 0).trans rfl, (bC BK254.out 1).trans rfl, (bC BK258.out 0).trans rfl, (bC BK258.out 1).trans rfl, (bC BK255.out 0).trans rfl, (bC BK255.out 1).trans rfl, (bC BK256.out 0).trans rfl, (bC BK256.out 1).trans rfl, (bC BK257.out 0).trans rfl, (bC BK257.out 1).trans rfl⟩ (fun hHeld => ?_); refine with_tabW billiardlaw13_SegmentMoves.tab3 billiardlaw13_SegmentMoves.bits3 (fun HT_ HW_ => ?_)
     generalize wc.drew = w175 at BK254 BK255 BK256 BK257 BK258 HB hHeld ⊢
     refine take_ (i := 0) (N := some 46) (v := ?_) (a' := ?_) #[T,F,F,F,F,F,F,F,F,F,F,F,F,F] rfl rfl (take_ofW HT_.out HW_.out (by kernel_rfl)) (fun _ _ _ h => h) (Or.inl ⟨by rfl, ?_⟩) hHeld ?_ ?_
     rotate_left
     ·rintro w' ⟨s0, s1, s2, s3, s4, s5, s6, s7, s8, s9⟩
      go_simp
      with_reducible rfl
     rotate_left
     ·simp only [Act.put, sA, sB, sC, i64_w, i32_w]
      rfl
     refine take_ (i := 1) (N := some 47) (v := ?_) (a' := ?_) #[T,T,F,F,F,F,F,F,F,F,F,F,F,F] rfl rfl (take_ofW HT_.out HW_.out (by kernel_rfl)) (fun _ _ _ h => h) (Or.inl ⟨by rfl, ?_⟩) hHeld ?_ ?_
     rotate_left
     ·rintro w' ⟨s0, s1, s2, s3, s4, s5, s6, s7, s8, s9⟩
      go_simp
      with_reducible rfl
     rotate_left
     ·simp only [Act.put, sA, sB, sC, i64_w, i32_w]
      rfl
     refine take_ (i := 3) (N := some 49) (v := ?_) (a' := ?_) #[T,T,F,T,F,F,F,F,F,F,F,F,F,F] rfl rfl (take_ofW HT_.out HW_.out (by kernel_rfl)) (fun _ _ _ h => h) (Or.inl ⟨by rfl, ?_⟩) hHeld ?_ ?_
     rotate_left
     ·rintro w' ⟨s0, s1, s2, s3, s4, s5, s6, s7, s8, s9⟩
      go_simp
      with_reducible rfl
     rotate_left
     ·simp only [Act.put, sA, sB, sC, i64_w, i32_w]
      rfl
     refine take_ (i := 4) (N := some 50) (v := ?_) (a' := ?_) #[T,T,F,T,T,F,F,F,F,F,F,F,F,F] rfl rfl (take_ofW HT_.out HW_.out (by kernel_rfl)) (fun _ _ _ h => h) (Or.inl ⟨by rfl, ?_⟩) hHeld ?_ ?_
     rotate_left
     ·rintro w' ⟨s0, s1, s2, s3, s4, s5, s6, s7, s8, s9⟩
      go_simp
      with_reducible rfl
     rotate_left
     ·simp only [Act.put, sA, sB, sC, i64_w, i32_w]
      rfl
     refine take_ (i := 6) (N := some 52) (v := ?_) (a' := ?_) #[T,T,F,T,T,F,T,F,F,F,F,F,F,F] rfl rfl (take_ofW HT_.out HW_.out (by kernel_rfl)) (fun _ _ _ h => h) (Or.inl ⟨by rfl, ?_⟩) hHeld ?_ ?_
     rotate_left
     ·rintro w' ⟨s0, s1, s2, s3, s4, s5, s6, s7, s8, s9⟩
      go_simp
      with_reducible rfl
     rotate_left
     ·simp only [Act.put, sA, sB, sC, i64_w, i32_w]
      rfl
     refine take_ (i := 7) (N := some 53) (v := ?_) (a' := ?_) #[T,T,F,T,T,F,T,T,F,F,F,F,F,F] rfl rfl (take_ofW HT_.out HW_.out (by kernel_rfl)) (fun _ _ _ h => h) (Or.inl ⟨by rfl, ?_⟩) hHeld ?_ ?_
     rotate_left
     ·rintro w' ⟨s0, s1, s2, s3, s4, s5, s6, s7, s8, s9⟩
      go_simp
      with_reducible rfl
     rotate_left
     ·simp only [Act.put, sA, sB, sC, i64_w, i32_w]
      rfl
     refine take_ (i := 9) (N := some 55) (v := ?_) (a' := ?_) #[T,T,F,T,T,F,T,T,F,T,F,F,F,F] rfl rfl (take_ofW HT_.out HW_.out (by kernel_rfl)) (fun _ _ _ h => h) (Or.inl ⟨by rfl, ?_⟩) hHeld ?_ ?_
     rotate_left
     ·rintro w' ⟨s0, s1, s2, s3, s4, s5, s6, s7, s8, s9⟩
      go_simp
      with_reducible rfl
     rotate_left
     ·simp only [Act.put, sA, sB, sC, i64_w, i32_w]
      rfl
     refine take_ (i := 10) (N := some 56) (v := ?_) (a' := ?_) #[T,T,F,T,T,F,T,T,F,T,T,F,F,F] rfl rfl (take_ofW HT_.out HW_.out (by kernel_rfl)) (fun _ _ _ h => h) (Or.inl ⟨by rfl, ?_⟩) hHeld ?_ ?_
     rotate_left
     ·rintro w' ⟨s0, s1, s2, s3, s4, s5, s6, s7, s8, s9⟩
      go_simp
      with_reducible rfl
     rotate_left
     ·simp only [Act.put, sA, sB, sC, i64_w, i32_w]
      rfl
     refine one_ (i := 2) (N := some 48) #[T,T,T,T,T,F,T,T,F,T,T,F,F,F] rfl rfl (one_of HT_.out (by kernel_rfl)) (by decide) (fun K hK => ?_)
     refine goes_ Try.func15 (by kernel_rfl) rfl #[.agg #[.int .i32 a0_0, .int .i32 a0_1], .agg #[.int .i32 a4_0, .int .i32 a4_1]] (by rfl) rfl rfl (by (try simp only [List.map_toArray, List.map_cons, List.map_nil]); first | done | rfl | (simp only [List.length_drop, List.length_take]; rfl)) ?_
     with_reducible refine (billiardlaw13_move.calls a0_0 a0_1 a4_0 a4_1 t262 t263 _ A106.out).mono ?_
     rintro e w176 ⟨rfl, hb⟩
     refine ⟨_, rfl, ?_⟩
     have n_ := kB5 BK254 BK255 BK256 BK257 BK258 HB (by repeat first | exact lR _ _ | apply lN | apply lD | apply lA) hb
     clear BK254 BK255 BK256 BK257 BK258 HB
     obtain ⟨BK254, BK255, BK256, BK257, BK258, HB⟩ := n_
     (try clear hb)
     (try clear hb2)
     (try clear hk)
     (try clear hi)
     refine hK.out _ _ ⟨bC BK254.out 0, bC BK254.out 1, bC BK258.out 0, bC BK258.out 1, bC BK255.out 0, bC BK255.out 1, bC BK256.out 0, bC BK256.out 1, bC BK257.out 0, bC BK257.out 1⟩ (fun hHeld => ?_)
     clear hK K
     refine norm_ (a' := ?_) ?_ ?_
     rotate_left
     ·show Act.put _ (some 48) _ = _
      simp only [Act.put, sA, sB, sC, i64_w, i32_w]
      rfl
     refine one_ (i := 5) (N := some 51) #[T,T,T,T,T,T,T,T,F,T,T,F,F,F] rfl rfl (one_of HT_.out (by kernel_rfl)) (by decide) (fun K hK => ?_)
     refine goes_ Try.func15 (by kernel_rfl) rfl #[.agg #[.int .i32 a1_0, .int .i32 a1_1], .agg #[.int .i32 a4_0, .int .i32 a4_1]] (by rfl) rfl rfl (by (try simp only [List.map_toArray, List.map_cons, List.map_nil]); first | done | rfl | (simp only [List.length_drop, List.length_take]; rfl)) ?_
     with_reducible refine (billiardlaw13_move.calls a1_0 a1_1 a4_0 a4_1 t264 t265 _ A107.out).mono ?_
     rintro e w177 ⟨rfl, hb⟩
     refine ⟨_, rfl, ?_⟩
     have n_ := kB5 BK254 BK255 BK256 BK257 BK258 HB (by repeat first | exact lR _ _ | apply lN | apply lD | apply lA) hb
     clear BK254 BK255 BK256 BK257 BK258 HB
     obtain ⟨BK254, BK255, BK256, BK257, BK258, HB⟩ := n_
     (try clear hb)
     (try clear hb2)
     (try clear hk)
     (try clear hi)
     refine hK.out _ _ ⟨bC BK254.out 0, bC BK254.out 1, bC BK258.out 0, bC BK258.out 1, bC BK255.out 0, bC BK255.out 1, bC BK256.out 0, bC BK256.out 1, bC BK257.out 0, bC BK257.out 1⟩ (fun hHeld => ?_)
     clear hK K
     refine norm_ (a' := ?_) ?_ ?_
     rotate_left
     ·show Act.put _ (some 51) _ = _
      simp only [Act.put, sA, sB, sC, i64_w, i32_w]
      rfl
     refine one_ (i := 8) (N := some 54) #[T,T,T,T,T,T,T,T,T,T,T,F,F,F] rfl rfl (one_of HT_.out (by kernel_rfl)) (by decide) (fun K hK => ?_)
     refine goes_ Try.func15 (by kernel_rfl) rfl #[.agg #[.int .i32 a2_0, .int .i32 a2_1], .agg #[.int .i32 a4_0, .int .i32 a4_1]] (by rfl) rfl rfl (by (try simp only [List.map_toArray, List.map_cons, List.map_nil]); first | done | rfl | (simp only [List.length_drop, List.length_take]; rfl)) ?_
     with_reducible refine (billiardlaw13_move.calls a2_0 a2_1 a4_0 a4_1 t266 t267 _ A108.out).mono ?_
     rintro e w178 ⟨rfl, hb⟩
     refine ⟨_, rfl, ?_⟩
     have n_ := kB5 BK254 BK255 BK256 BK257 BK258 HB (by repeat first | exact lR _ _ | apply lN | apply lD | apply lA) hb
     clear BK254 BK255 BK256 BK257 BK258 HB
     obtain ⟨BK254, BK255, BK256, BK257, BK258, HB⟩ := n_
     (try clear hb)
     (try clear hb2)
     (try clear hk)
     (try clear hi)
     refine hK.out _ _ ⟨bC BK254.out 0, bC BK254.out 1, bC BK258.out 0, bC BK258.out 1, bC BK255.out 0, bC BK255.out 1, bC BK256.out 0, bC BK256.out 1, bC BK257.out 0, bC BK257.out 1⟩ (fun hHeld => ?_)
     clear hK K
     refine norm_ (a' := ?_) ?_ ?_
     rotate_left
     ·show Act.put _ (some 54) _ = _
      simp only [Act.put, sA, sB, sC, i64_w, i32_w]
      rfl
     refine one_ (i := 11) (N := some 57) #[T,T,T,T,T,T,T,T,T,T,T,T,F,F] rfl rfl (one_of HT_.out (by kernel_rfl)) (by decide) (fun K hK => ?_)
     refine goes_ Try.func15 (by kernel_rfl) rfl #[.agg #[.int .i32 a3_0, .int .i32 a3_1], .agg #[.int .i32 a4_0, .int .i32 a4_1]] (by rfl) rfl rfl (by (try simp only [List.map_toArray, List.map_cons, List.map_nil]); first | done | rfl | (simp only [List.length_drop, List.length_take]; rfl)) ?_
     with_reducible refine (billiardlaw13_move.calls a3_0 a3_1 a4_0 a4_1 t268 t269 _ A109.out).mono ?_
     rintro e w179 ⟨rfl, hb⟩
     refine ⟨_, rfl, ?_⟩
     have n_ := kB5 BK254 BK255 BK256 BK257 BK258 HB (by repeat first | exact lR _ _ | apply lN | apply lD | apply lA) hb
     clear BK254 BK255 BK256 BK257 BK258 HB
     obtain ⟨BK254, BK255, BK256, BK257, BK258, HB⟩ := n_
     (try clear hb)
     (try clear hb2)
     (try clear hk)
     (try clear hi)
     refine hK.out _ _ ⟨bC BK254.out 0, bC BK254.out 1, bC BK258.out 0, bC BK258.out 1, bC BK255.out 0, bC BK255.out 1, bC BK256.out 0, bC BK256.out 1, bC BK257.out 0, bC BK257.out 1⟩ (fun hHeld => ?_)
     clear hK K
     refine norm_ (a' := ?_) ?_ ?_
     rotate_left
     ·show Act.put _ (some 57) _ = _
      simp only [Act.put, sA, sB, sC, i64_w, i32_w]
      rfl
     refine one_ (i := 12) (N := some 58) #[T,T,T,T,T,T,T,T,T,T,T,T,T,F] rfl rfl (one_of HT_.out (by kernel_rfl)) (by decide) (fun K hK => ?_)
     refine goes_ Try.func9 (by kernel_rfl) rfl #[.agg #[.int .i32 t262, .int .i32 t263], .agg #[.int .i32 t264, .int .i32 t265], .agg #[.int .i32 t266, .int .i32 t267], .agg #[.int .i32 t268, .int .i32 t269]] (by rfl) rfl rfl (by (try simp only [List.map_toArray, List.map_cons, List.map_nil]); first | done | rfl | (simp only [List.length_drop, List.length_take]; rfl)) ?_
     with_reducible refine (billiardref13_Right.calls t262 t263 t264 t265 t266 t267 t268 t269 false _ A110.out).mono ?_
     rintro e w180 ⟨rfl, hb⟩
     refine ⟨_, rfl, ?_⟩
     have n_ := kB5 BK254 BK255 BK256 BK257 BK258 HB (by repeat first | exact lR _ _ | apply lN | apply lD | apply lA) hb
     clear BK254 BK255 BK256 BK257 BK258 HB
     obtain ⟨BK254, BK255, BK256, BK257, BK258, HB⟩ := n_
     (try clear hb)
     (try clear hb2)
     (try clear hk)
     (try clear hi)
     refine hK.out _ _ ⟨bC BK254.out 0, bC BK254.out 1, bC BK258.out 0, bC BK258.out 1, bC BK255.out 0, bC BK255.out 1, bC BK256.out 0, bC BK256.out 1, bC BK257.out 0, bC BK257.out 1⟩ (fun hHeld => ?_)
     clear hK K
     refine norm_ (a' := ?_) ?_ ?_
     rotate_left
     ·show Act.put _ (some 58) _ = _
      simp only [Act.put, sA, sB, sC, i64_w, i32_w]
      rfl
     refine pure_ (i := 13) (N := some 59) (v := ?_) (a' := ?_) #[T,T,T,T,T,T,T,T,T,T,T,T,T,T] rfl rfl (any_of HT_.out (by kernel_rfl)) (fun _ _ _ h => h) (Or.inl ⟨by rfl, ?_⟩) ?_ ?_
     rotate_left
     ·intro w'
      go_simp
      with_reducible rfl
     rotate_left
     ·simp only [Act.put, sA, sB, sC, i64_w, i32_w]
      rfl
     refine done_ (done_of HT_.out (by kernel_rfl)) ?_
     try go_wp2
     go_ret
     exact ⟨by first | rfl | (simp [errW_none, errW_some] <;> rfl) | (simp [*, errW_none, errW_some] <;> rfl), by repeat (first | (with_reducible first | exact HB.out | apply lA | apply lN | apply lD | refine lS ?_ GE254.out | refine lS ?_ GE255.out | refine lS ?_ GE256.out | refine lS ?_ GE257.out | refine lS ?_ GE258.out) | exact HB.out)⟩

/-- THE ONE PURE STATEMENT of billiardlaw13_SegmentMoves: yours. -/
def billiardlaw13_SegmentMoves.Pure : Prop := ∀ (a0_0 : Int) (a0_1 : Int) (a1_0 : Int) (a1_1 : Int) (a2_0 : Int) (a2_1 : Int) (a3_0 : Int) (a3_1 : Int) (a4_0 : Int) (a4_1 : Int), (Lit.int .i32 a0_0).wf = true → (Lit.int .i32 a0_1).wf = true → (Lit.int .i32 a1_0).wf = true → (Lit.int .i32 a1_1).wf = true → (Lit.int .i32 a2_0).wf = true → (Lit.int .i32 a2_1).wf = true → (Lit.int .i32 a3_0).wf = true → (Lit.int .i32 a3_1).wf = true → (Lit.int .i32 a4_0).wf = true → (Lit.int .i32 a4_1).wf = true → ∃ k, billiardlaw13_SegmentMoves.f k a0_0 a0_1 a1_0 a1_1 a2_0 a2_1 a3_0 a3_1 a4_0 a4_1 = some true
theorem billiardlaw13_SegmentMoves.walk (P : billiardlaw13_SegmentMoves.Pure) (a0_0 : Int) (a0_1 : Int) (a1_0 : Int) (a1_1 : Int) (a2_0 : Int) (a2_1 : Int) (a3_0 : Int) (a3_1 : Int) (a4_0 : Int) (a4_1 : Int) (w : World) (w0_0 : (Lit.int .i32 a0_0).wf = true) (w0_1 : (Lit.int .i32 a0_1).wf = true) (w1_0 : (Lit.int .i32 a1_0).wf = true) (w1_1 : (Lit.int .i32 a1_1).wf = true) (w2_0 : (Lit.int .i32 a2_0).wf = true) (w2_1 : (Lit.int .i32 a2_1).wf = true) (w3_0 : (Lit.int .i32 a3_0).wf = true) (w3_1 : (Lit.int .i32 a3_1).wf = true) (w4_0 : (Lit.int .i32 a4_0).wf = true) (w4_1 : (Lit.int .i32 a4_1).wf = true) :
  Calls Try.prog 6 #[.agg #[.int .i32 a0_0, .int .i32 a0_1], .agg #[.int .i32 a1_0, .int .i32 a1_1], .agg #[.int .i32 a2_0, .int .i32 a2_1], .agg #[.int .i32 a3_0, .int .i32 a3_1], .agg #[.int .i32 a4_0, .int .i32 a4_1]] w fun e w' => e = .returned (.bool true) ∧ Below w.heap.size w w' := by
 obtain ⟨k, h⟩ := P a0_0 a0_1 a1_0 a1_1 a2_0 a2_1 a3_0 a3_1 a4_0 a4_1 w0_0 w0_1 w1_0 w1_1 w2_0 w2_1 w3_0 w3_1 w4_0 w4_1
 refine (billiardlaw13_SegmentMoves.calls k a0_0 a0_1 a1_0 a1_1 a2_0 a2_1 a3_0 a3_1 a4_0 a4_1 true w h rfl).mono ?_
 rintro e w' ⟨rfl, hd⟩
 exact ⟨rfl, hd⟩

end Go.Proofs.Ytddooigcnbpliaa.Q
