-- PRINTED by print.py (a twelfth state) out of the translation. Not trusted: Lean checks it.
import Derived.Test.YtahbfafnodeimaaQ0
import Derived.Test.YtahbfafnodeimaaQE1
import Derived.Test.YtahbfafnodeimaaQbilliardlaw14
import Derived.Test.YtahbfafnodeimaaQbilliardref08
import Derived.Test.YtahbfafnodeimaaQbilliardref14
import Derived.Test.YtahbfafnodeimaaQcontacty1
namespace Go.Proofs.Ytahbfafnodeimaa.Q
open Go.RowKit Go.Proofs.YtahbfafnodeimaaW.PrintWords Go.Proofs.YtahbfafnodeimaaW.PrintLast Go.Proofs.YtahbfafnodeimaaW.PrintMore
open Go.Proofs.YtahbfafnodeimaaW.PrintWords renaming blk_drewN → bN, blk_drew → bD, blk_alloc → bA, blk_below → bB, blk_cell → bC, blk_frozen → bF, blk_far → bR, blk_lt → bL, blk_put → bP, below_alloc → lA, pw_below_drewN → lN, below_drew1 → lD, below_set → lS, below_step → lT, below_size → lZ, Aside0.mk → aM
open List renaming setIfInBounds_toArray → sA, set_cons_zero → sB, set_cons_succ → sC
open Bool renaming true → T, false → F
attribute [local go_sem] max2_int min2_int max_two min_two max_three min_three max_four min_four   -- for this text's walks alone
set_option linter.unusedVariables false
set_option linter.unusedSimpArgs false

attribute [local go_sem high] eqA32
/-! ### billiardlaw14_ContactDepth: function 4 -/
def billiardlaw14_ContactDepth.j0 : Nat → Bool → Int → Int → Int → Int → Int → Int → Int → Int → Int → Int → Int → Int → Int → Int → Int → Int → Int → Int → Int → Int → Option (Bool)
 | 0, _, _, _, _, _, _, _, _, _, _, _, _, _, _, _, _, _, _, _, _, _ => none
 | k + 1, x15, x431000, x431001, x431002, x431003, x431004, x431005, x431006, x431007, x431008, x431009, x432000, x432001, x432002, x432003, x432004, x432005, x432006, x432007, x432008, x432009 => if x15 = true then ((billiardlaw14_awake.f k).bind fun t434 => (some t434)) else ((contact_Of.f k x431000 x431001 x431002 x431003 x431004 x431005 x431006 x431007 x431008 x431009 x432000 x432001 x432002 x432003 x432004 x432005 x432006 x432007 x432008 x432009).bind fun bt435 => ((contact_Gap.f k x431000 x431001 x431002 x431003 x431004 x431005 x431006 x431007 x431008 x431009 x432000 x432001 x432002 x432003 x432004 x432005 x432006 x432007 x432008 x432009).bind fun t442 => (if bt435.2.2.2.2.2 = true then (if bt435.2.2.2.2.1 ≥ 1 then (if bt435.2.2.2.2.1 ≤ (wrap32 (x431001 + x432001)) then (if (wrap64 (bt435.2.2.2.2.1)) = (wrap64 (-t442)) then (if bt435.1 < bt435.2.1 then ((billiardref08_Of.f x431000 x431001 x431002 x431003 x431004 x431005 x431006 x431007 x431008 x431009).bind fun bt443 => ((billiardref08_Of.f x432000 x432001 x432002 x432003 x432004 x432005 x432006 x432007 x432008 x432009).bind fun bt447 => ((billiardref08_Overlap.f bt443.1 bt443.2.1 bt443.2.2.1 bt443.2.2.2 bt447.1 bt447.2.1 bt447.2.2.1 bt447.2.2.2).bind fun t451 => (some t451)))) else (some false)) else (some false)) else (some false)) else (some false)) else (if t442 ≥ 0 then (some ((bt435.1 == 0 && (bt435.2.1 == 0)) && ((bt435.2.2.1 == 0 && (bt435.2.2.2.1 == 0)) && (bt435.2.2.2.2.1 == 0)))) else (some false)))))
def billiardlaw14_ContactDepth.f (k : Nat) (a0_0 : Int) (a0_1 : Int) (a0_2 : Int) (a0_3 : Int) (a0_4 : Int) (a0_5 : Int) (a0_6 : Int) (a0_7 : Int) (a0_8 : Int) (a0_9 : Int) (a1_0 : Int) (a1_1 : Int) (a1_2 : Int) (a1_3 : Int) (a1_4 : Int) (a1_5 : Int) (a1_6 : Int) (a1_7 : Int) (a1_8 : Int) (a1_9 : Int) : Option (Bool) := (billiardlaw14_awake.f k).bind fun t432 => (if t432 = true then ((billiardref14_Right.f k a0_0 a0_1 a0_2 a0_3 a0_4 a0_5 a0_6 a0_7 a0_8 a0_9 a1_0 a1_1 a1_2 a1_3 a1_4 a1_5 a1_6 a1_7 a1_8 a1_9).bind fun t433 => (billiardlaw14_ContactDepth.j0 k (!t433) a0_0 a0_1 a0_2 a0_3 a0_4 a0_5 a0_6 a0_7 a0_8 a0_9 a1_0 a1_1 a1_2 a1_3 a1_4 a1_5 a1_6 a1_7 a1_8 a1_9)) else (billiardlaw14_ContactDepth.j0 k true a0_0 a0_1 a0_2 a0_3 a0_4 a0_5 a0_6 a0_7 a0_8 a0_9 a1_0 a1_1 a1_2 a1_3 a1_4 a1_5 a1_6 a1_7 a1_8 a1_9))
theorem billiardlaw14_ContactDepth.mono_l : ∀ k, (∀ y0 y1 y2 y3 y4 y5 y6 y7 y8 y9 y10 y11 y12 y13 y14 y15 y16 y17 y18 y19 y20, LeO (billiardlaw14_ContactDepth.j0 k y0 y1 y2 y3 y4 y5 y6 y7 y8 y9 y10 y11 y12 y13 y14 y15 y16 y17 y18 y19 y20) (billiardlaw14_ContactDepth.j0 (k + 1) y0 y1 y2 y3 y4 y5 y6 y7 y8 y9 y10 y11 y12 y13 y14 y15 y16 y17 y18 y19 y20))
 | 0 => fun _ _ _ _ _ _ _ _ _ _ _ _ _ _ _ _ _ _ _ _ _ r h => by simp [billiardlaw14_ContactDepth.j0] at h
 | k + 1 => by
  have ih0 := billiardlaw14_ContactDepth.mono_l k
  ·intro y0 y1 y2 y3 y4 y5 y6 y7 y8 y9 y10 y11 y12 y13 y14 y15 y16 y17 y18 y19 y20
   unfold billiardlaw14_ContactDepth.j0
   repeat' first
   | (with_reducible exact ih0 _ _ _ _ _ _ _ _ _ _ _ _ _ _ _ _ _ _ _ _ _)
   | (with_reducible exact billiardlaw14_awake.mono _)
   | (with_reducible exact billiardref14_Right.mono _ _ _ _ _ _ _ _ _ _ _ _ _ _ _ _ _ _ _ _ _)
   | (with_reducible exact contact_Gap.mono _ _ _ _ _ _ _ _ _ _ _ _ _ _ _ _ _ _ _ _ _)
   | (with_reducible exact contact_Of.mono _ _ _ _ _ _ _ _ _ _ _ _ _ _ _ _ _ _ _ _ _)
   | (with_reducible exact LeO.refl _)
   | (with_reducible exact LeO.none _)
   | (with_reducible refine LeO.ite ?_ ?_)
   | (with_reducible refine LeO.bind ?_ (fun _ => ?_))
   | exact ih0 _ _ _ _ _ _ _ _ _ _ _ _ _ _ _ _ _ _ _ _ _
   | exact billiardlaw14_awake.mono _
   | exact billiardref14_Right.mono _ _ _ _ _ _ _ _ _ _ _ _ _ _ _ _ _ _ _ _ _
   | exact contact_Gap.mono _ _ _ _ _ _ _ _ _ _ _ _ _ _ _ _ _ _ _ _ _
   | exact contact_Of.mono _ _ _ _ _ _ _ _ _ _ _ _ _ _ _ _ _ _ _ _ _
   | exact LeO.none _
   | refine LeO.ite ?_ ?_
   | refine LeO.bind ?_ (fun _ => ?_)
theorem billiardlaw14_ContactDepth.mono : ∀ a0 a1 a2 a3 a4 a5 a6 a7 a8 a9 a10 a11 a12 a13 a14 a15 a16 a17 a18 a19 k, LeO (billiardlaw14_ContactDepth.f k a0 a1 a2 a3 a4 a5 a6 a7 a8 a9 a10 a11 a12 a13 a14 a15 a16 a17 a18 a19) (billiardlaw14_ContactDepth.f (k + 1) a0 a1 a2 a3 a4 a5 a6 a7 a8 a9 a10 a11 a12 a13 a14 a15 a16 a17 a18 a19) := by
 intro a0 a1 a2 a3 a4 a5 a6 a7 a8 a9 a10 a11 a12 a13 a14 a15 a16 a17 a18 a19 k
 have ih0 := billiardlaw14_ContactDepth.mono_l k
 unfold billiardlaw14_ContactDepth.f
 repeat' first
   | (with_reducible exact ih0 _ _ _ _ _ _ _ _ _ _ _ _ _ _ _ _ _ _ _ _ _)
   | (with_reducible exact billiardlaw14_awake.mono _)
   | (with_reducible exact billiardref14_Right.mono _ _ _ _ _ _ _ _ _ _ _ _ _ _ _ _ _ _ _ _ _)
   | (with_reducible exact contact_Gap.mono _ _ _ _ _ _ _ _ _ _ _ _ _ _ _ _ _ _ _ _ _)
   | (with_reducible exact contact_Of.mono _ _ _ _ _ _ _ _ _ _ _ _ _ _ _ _ _ _ _ _ _)
   | (with_reducible exact LeO.refl _)
   | (with_reducible exact LeO.none _)
   | (with_reducible refine LeO.ite ?_ ?_)
   | (with_reducible refine LeO.bind ?_ (fun _ => ?_))
   | exact ih0 _ _ _ _ _ _ _ _ _ _ _ _ _ _ _ _ _ _ _ _ _
   | exact billiardlaw14_awake.mono _
   | exact billiardref14_Right.mono _ _ _ _ _ _ _ _ _ _ _ _ _ _ _ _ _ _ _ _ _
   | exact contact_Gap.mono _ _ _ _ _ _ _ _ _ _ _ _ _ _ _ _ _ _ _ _ _
   | exact contact_Of.mono _ _ _ _ _ _ _ _ _ _ _ _ _ _ _ _ _ _ _ _ _
   | exact LeO.none _
   | refine LeO.ite ?_ ?_
   | refine LeO.bind ?_ (fun _ => ?_)
def billiardlaw14_ContactDepth.T7 : Bool × List (List Nat × List Nat) := (true, [([], []), ([0], [0]), ([1], [1]), ([2], [2]), ([3], [3]), ([4, 3], [3, 4]), ([3], [3]), ([6, 3], [3, 6]), ([3], [3]), ([8, 3], [3, 8]), ([7, 9, 3], [3, 7, 9]), ([5, 10, 3], [3, 5, 10]), ([3, 11], [3, 11]), ([12, 3], [12]), ([13], [13]), ([14, 13], [13, 14]), ([15, 13], [13, 15]), ([13], [13]), ([17, 13], [13, 17]), ([16, 18, 13], [13, 16, 18]), ([13, 19], [13, 19]), ([20, 13], [20]), ([21], [21]), ([22, 21], [21, 22]), ([23, 21], [21, 23]), ([21], [21]), ([25, 21], [21, 25]), ([26, 21], [21, 26]), ([24, 27, 21], [21, 24, 27]), ([21, 28], [21, 28]), ([29, 21], [29]), ([30], [30]), ([31, 30, 30], [30, 31]), ([30], [30]), ([33, 32, 30], [30, 33]), ([32, 34, 34, 30], [30, 32, 34]), ([30, 35], [30, 35]), ([36, 35, 0, 1, 2, 3, 4, 5, 6, 7, 8, 9, 10, 11, 12, 13, 14, 15, 16, 17, 18, 19, 20, 21, 22, 23, 24, 25, 26, 27, 28, 29, 30, 31, 32, 33, 34, 35, 36], [36])])
def billiardlaw14_ContactDepth.B7 : List Nat := [0, 1, 3, 7, 15, 31, 15, 79, 15, 271, 975, 2047, 4095, 8191, 16383, 32767, 65535, 16383, 147455, 524287, 1048575, 2097151, 4194303, 8388607, 16777215, 4194303, 37748735, 104857599, 268435455, 536870911, 1073741823, 2147483647, 4294967295, 2147483647, 17179869183, 34359738367, 68719476735, 137438953471]
theorem billiardlaw14_ContactDepth.tab7 : rtab .any (opsOf Try.f4 7) = billiardlaw14_ContactDepth.T7 := by kernel_rfl
theorem billiardlaw14_ContactDepth.bits7 : waitsOk billiardlaw14_ContactDepth.T7.2 billiardlaw14_ContactDepth.B7 = true := by kernel_rfl
set_option maxHeartbeats 8000000 in
set_option maxRecDepth 100000 in
theorem billiardlaw14_ContactDepth.calls (k : Nat) (a0_0 : Int) (a0_1 : Int) (a0_2 : Int) (a0_3 : Int) (a0_4 : Int) (a0_5 : Int) (a0_6 : Int) (a0_7 : Int) (a0_8 : Int) (a0_9 : Int) (a1_0 : Int) (a1_1 : Int) (a1_2 : Int) (a1_3 : Int) (a1_4 : Int) (a1_5 : Int) (a1_6 : Int) (a1_7 : Int) (a1_8 : Int) (a1_9 : Int) (r : Bool) (w : World) (h : billiardlaw14_ContactDepth.f k a0_0 a0_1 a0_2 a0_3 a0_4 a0_5 a0_6 a0_7 a0_8 a0_9 a1_0 a1_1 a1_2 a1_3 a1_4 a1_5 a1_6 a1_7 a1_8 a1_9 = some r) (hr : r = true) :
  Calls Try.prog 4 #[.agg #[.int .u32 a0_0, .int .i32 a0_1, .int .i32 a0_2, .int .i32 a0_3, .int .i32 a0_4, .int .i32 a0_5, .int .i32 a0_6, .int .i32 a0_7, .int .i32 a0_8, .int .i32 a0_9], .agg #[.int .u32 a1_0, .int .i32 a1_1, .int .i32 a1_2, .int .i32 a1_3, .int .i32 a1_4, .int .i32 a1_5, .int .i32 a1_6, .int .i32 a1_7, .int .i32 a1_8, .int .i32 a1_9]] w fun e w' => e = .returned (.bool r) ∧ Below w.heap.size w w' := by
 have HR := aM hr
 clear hr
 have hu26 := Try.underlying26
 have hu32 := Try.underlying32
 have HB := aM (Below.refl w.heap.size w)
 have H : ((billiardlaw14_awake.f k).bind fun t432 => (if t432 = true then ((billiardref14_Right.f k a0_0 a0_1 a0_2 a0_3 a0_4 a0_5 a0_6 a0_7 a0_8 a0_9 a1_0 a1_1 a1_2 a1_3 a1_4 a1_5 a1_6 a1_7 a1_8 a1_9).bind fun t433 => (billiardlaw14_ContactDepth.j0 k (!t433) a0_0 a0_1 a0_2 a0_3 a0_4 a0_5 a0_6 a0_7 a0_8 a0_9 a1_0 a1_1 a1_2 a1_3 a1_4 a1_5 a1_6 a1_7 a1_8 a1_9)) else (billiardlaw14_ContactDepth.j0 k true a0_0 a0_1 a0_2 a0_3 a0_4 a0_5 a0_6 a0_7 a0_8 a0_9 a1_0 a1_1 a1_2 a1_3 a1_4 a1_5 a1_6 a1_7 a1_8 a1_9))) = some r := h
 clear h
 have HC3 := aM H
 clear H
 go_enter Try.func4, Try.ntmps4
 go_upto_region 1 with (first | ((with_reducible refine gate_dst (N := 2) rfl ?_); refine box_event ?hg (N := 2) ?hd (cs := #[.int .u32 a0_0, .int .i32 a0_1, .int .i32 a0_2, .int .i32 a0_3, .int .i32 a0_4, .int .i32 a0_5, .int .i32 a0_6, .int .i32 a0_7, .int .i32 a0_8, .int .i32 a0_9]) (t := 26) ?hr ?_; (case hd => rfl); (case hg => rfl); (case hr => first | (go_simp; done) | (go_simp; rfl)); intro b430 hg w4 hbox hb; have n0_ := aM (lT (by repeat (first | (with_reducible first | exact HB.out | apply lA | apply lN | apply lD) | exact HB.out)) hb); have n1_ := aM (hbox); have n2_ := aM ((by rw [hg]; exact (lZ (by repeat (first | (with_reducible first | exact HB.out | apply lA | apply lN | apply lD) | exact HB.out))) : w.heap.size ≤ b430)); have n3_ := aM ((by rw [hg]; exact (lZ (by repeat (first | (with_reducible first | exact HB.out | apply lA | apply lN | apply lD) | exact HB.out))) : w.heap.size ≤ b430)); clear HB; have HB := n0_; have BK430 := n1_; have GW430 := n2_; have GE430 := n3_; clear n0_ n1_ n2_ n3_; clear hb hbox hg) | ((with_reducible refine gate_dst (N := 3) rfl ?_); refine box_event ?hg (N := 3) ?hd (cs := #[.int .u32 a1_0, .int .i32 a1_1, .int .i32 a1_2, .int .i32 a1_3, .int .i32 a1_4, .int .i32 a1_5, .int .i32 a1_6, .int .i32 a1_7, .int .i32 a1_8, .int .i32 a1_9]) (t := 26) ?hr ?_; (case hd => rfl); (case hg => rfl); (case hr => first | (go_simp; done) | (go_simp; rfl)); intro b431 hg w5 hbox hb; have n0_ := aM (bB (by (with_reducible repeat first | apply bN | apply bD | apply bA); exact BK430.out) hb); have n1_ := aM (lT (by repeat (first | (with_reducible first | exact HB.out | apply lA | apply lN | apply lD | refine lS ?_ GE430.out) | exact HB.out)) hb); have n2_ := aM (hbox); have n3_ := aM ((by rw [hg]; exact (lZ (by repeat (first | (with_reducible first | exact HB.out | apply lA | apply lN | apply lD | refine lS ?_ GE430.out) | exact HB.out))) : w.heap.size ≤ b431)); have n4_ := aM ((by rw [hg]; exact (lZ (by repeat (first | (with_reducible first | exact HB.out | apply lA | apply lN | apply lD | refine lS ?_ GE430.out) | exact HB.out))) : w.heap.size ≤ b431)); have n5_ := aM ((by rw [hg]; exact Nat.ne_of_lt (bL (g := b430) (by (with_reducible repeat first | apply bN | apply bD | apply bA); exact BK430.out)) : b430 ≠ b431)); have n6_ := aM ((by rw [hg]; exact Nat.ne_of_gt (bL (g := b430) (by (with_reducible repeat first | apply bN | apply bD | apply bA); exact BK430.out)) : b431 ≠ b430)); clear BK430; clear HB; have BK430 := n0_; have HB := n1_; have BK431 := n2_; have GW431 := n3_; have GE431 := n4_; have N0_ := n5_; have N1_ := n6_; clear n0_ n1_ n2_ n3_ n4_ n5_ n6_; clear hb hbox hg))
 (try simp only [Act.put, sA, sB, sC])
 go_cut [15] (fun v15 wc => ∃ (kq : Nat) (x15_2 : Bool), v15 = .bool x15_2 ∧ Aside0 (billiardlaw14_ContactDepth.j0 kq x15_2 a0_0 a0_1 a0_2 a0_3 a0_4 a0_5 a0_6 a0_7 a0_8 a0_9 a1_0 a1_1 a1_2 a1_3 a1_4 a1_5 a1_6 a1_7 a1_8 a1_9 = some r) ∧ Aside0 (kq ≤ k) ∧ Aside0 (wc.heap[b430]? = some (.cells #[.int .u32 a0_0, .int .i32 a0_1, .int .i32 a0_2, .int .i32 a0_3, .int .i32 a0_4, .int .i32 a0_5, .int .i32 a0_6, .int .i32 a0_7, .int .i32 a0_8, .int .i32 a0_9] 26 (0, 0))) ∧ Aside0 (wc.heap[b431]? = some (.cells #[.int .u32 a1_0, .int .i32 a1_1, .int .i32 a1_2, .int .i32 a1_3, .int .i32 a1_4, .int .i32 a1_5, .int .i32 a1_6, .int .i32 a1_7, .int .i32 a1_8, .int .i32 a1_9] 26 (0, 0))) ∧ Aside0 (Below w.heap.size w wc))
 case first =>
  have H := HC3.out
  clear HC3
  replace H := Option.bind_eq_some_iff.mp H
  obtain ⟨t432, A60, H⟩ := H
  replace H : (if t432 = true then ((billiardref14_Right.f k a0_0 a0_1 a0_2 a0_3 a0_4 a0_5 a0_6 a0_7 a0_8 a0_9 a1_0 a1_1 a1_2 a1_3 a1_4 a1_5 a1_6 a1_7 a1_8 a1_9).bind fun t433 => (billiardlaw14_ContactDepth.j0 k (!t433) a0_0 a0_1 a0_2 a0_3 a0_4 a0_5 a0_6 a0_7 a0_8 a0_9 a1_0 a1_1 a1_2 a1_3 a1_4 a1_5 a1_6 a1_7 a1_8 a1_9)) else (billiardlaw14_ContactDepth.j0 k true a0_0 a0_1 a0_2 a0_3 a0_4 a0_5 a0_6 a0_7 a0_8 a0_9 a1_0 a1_1 a1_2 a1_3 a1_4 a1_5 a1_6 a1_7 a1_8 a1_9)) = some r := H
  have A6 := aM A60
  clear A60
  by_cases c7 : t432 = true
  ·subst c7
   have H1 : ((billiardref14_Right.f k a0_0 a0_1 a0_2 a0_3 a0_4 a0_5 a0_6 a0_7 a0_8 a0_9 a1_0 a1_1 a1_2 a1_3 a1_4 a1_5 a1_6 a1_7 a1_8 a1_9).bind fun t433 => (billiardlaw14_ContactDepth.j0 k (!t433) a0_0 a0_1 a0_2 a0_3 a0_4 a0_5 a0_6 a0_7 a0_8 a0_9 a1_0 a1_1 a1_2 a1_3 a1_4 a1_5 a1_6 a1_7 a1_8 a1_9)) = some r := by rw [if_pos rfl] at H; exact H
   clear H
   have H := H1
   clear H1
   replace H := Option.bind_eq_some_iff.mp H
   obtain ⟨t433, A80, H⟩ := H
   replace H : (billiardlaw14_ContactDepth.j0 k (!t433) a0_0 a0_1 a0_2 a0_3 a0_4 a0_5 a0_6 a0_7 a0_8 a0_9 a1_0 a1_1 a1_2 a1_3 a1_4 a1_5 a1_6 a1_7 a1_8 a1_9) = some r := H
   have A8 := aM A80
   clear A80
   have H' := aM H
   clear H
   go_wp2_with (first | ((with_reducible refine gate_callee (f := 8) rfl ?_); refine goesL_ (some 8) rfl rfl Try.func8 (by kernel_rfl) rfl #[] rfl (by (try simp only [List.map_toArray, List.map_cons, List.map_nil]); first | done | rfl | (simp only [List.length_drop, List.length_take]; rfl)) ?_; (with_reducible refine (billiardlaw14_awake.calls k  true _ A6.out).mono ?_); rintro e w9 ⟨rfl, hb⟩; refine ⟨_, rfl, ?_⟩; have n0_ := aM (bB (by (with_reducible repeat first | apply bN | apply bD | apply bA); exact BK430.out) hb); have n1_ := aM (bB (by (with_reducible repeat first | apply bN | apply bD | apply bA); exact BK431.out) hb); have n2_ := aM (lT (by repeat (first | (with_reducible first | exact HB.out | apply lA | apply lN | apply lD | refine lS ?_ GE430.out | refine lS ?_ GE431.out) | exact HB.out)) hb); clear BK430; clear BK431; clear HB; have BK430 := n0_; have BK431 := n1_; have HB := n2_; clear n0_ n1_ n2_; (try clear hb); (try clear hb2); (try clear hk); (try clear hi); have hnb10 := N0_.out; have hnc10 := N1_.out; have hcz11_0 : w9.cell? ⟨b430, 0, none⟩ = some (.int .u32 a0_0) := (bC BK430.out 0).trans rfl; have hcz11_1 : w9.cell? ⟨b430, 1, none⟩ = some (.int .i32 a0_1) := (bC BK430.out 1).trans rfl; have hcz11_2 : w9.cell? ⟨b430, 2, none⟩ = some (.int .i32 a0_2) := (bC BK430.out 2).trans rfl; have hcz11_3 : w9.cell? ⟨b430, 3, none⟩ = some (.int .i32 a0_3) := (bC BK430.out 3).trans rfl; have hcz11_4 : w9.cell? ⟨b430, 4, none⟩ = some (.int .i32 a0_4) := (bC BK430.out 4).trans rfl; have hcz11_5 : w9.cell? ⟨b430, 5, none⟩ = some (.int .i32 a0_5) := (bC BK430.out 5).trans rfl; have hcz11_6 : w9.cell? ⟨b430, 6, none⟩ = some (.int .i32 a0_6) := (bC BK430.out 6).trans rfl; have hcz11_7 : w9.cell? ⟨b430, 7, none⟩ = some (.int .i32 a0_7) := (bC BK430.out 7).trans rfl; have hcz11_8 : w9.cell? ⟨b430, 8, none⟩ = some (.int .i32 a0_8) := (bC BK430.out 8).trans rfl; have hcz11_9 : w9.cell? ⟨b430, 9, none⟩ = some (.int .i32 a0_9) := (bC BK430.out 9).trans rfl; have hfz11_0 := bF BK430.out 0; have hfz11_1 := bF BK430.out 1; have hfz11_2 := bF BK430.out 2; have hfz11_3 := bF BK430.out 3; have hfz11_4 := bF BK430.out 4; have hfz11_5 := bF BK430.out 5; have hfz11_6 := bF BK430.out 6; have hfz11_7 := bF BK430.out 7; have hfz11_8 := bF BK430.out 8; have hfz11_9 := bF BK430.out 9; have hcz12_0 : w9.cell? ⟨b431, 0, none⟩ = some (.int .u32 a1_0) := (bC BK431.out 0).trans rfl; have hcz12_1 : w9.cell? ⟨b431, 1, none⟩ = some (.int .i32 a1_1) := (bC BK431.out 1).trans rfl; have hcz12_2 : w9.cell? ⟨b431, 2, none⟩ = some (.int .i32 a1_2) := (bC BK431.out 2).trans rfl; have hcz12_3 : w9.cell? ⟨b431, 3, none⟩ = some (.int .i32 a1_3) := (bC BK431.out 3).trans rfl; have hcz12_4 : w9.cell? ⟨b431, 4, none⟩ = some (.int .i32 a1_4) := (bC BK431.out 4).trans rfl; have hcz12_5 : w9.cell? ⟨b431, 5, none⟩ = some (.int .i32 a1_5) := (bC BK431.out 5).trans rfl; have hcz12_6 : w9.cell? ⟨b431, 6, none⟩ = some (.int .i32 a1_6) := (bC BK431.out 6).trans rfl; have hcz12_7 : w9.cell? ⟨b431, 7, none⟩ = some (.int .i32 a1_7) := (bC BK431.out 7).trans rfl; have hcz12_8 : w9.cell? ⟨b431, 8, none⟩ = some (.int .i32 a1_8) := (bC BK431.out 8).trans rfl; have hcz12_9 : w9.cell? ⟨b431, 9, none⟩ = some (.int .i32 a1_9) := (bC BK431.out 9).trans rfl; have hfz12_0 := bF BK431.out 0; have hfz12_1 := bF BK431.out 1; have hfz12_2 := bF BK431.out 2; have hfz12_3 := bF BK431.out 3; have hfz12_4 := bF BK431.out 4; have hfz12_5 := bF BK431.out 5; have hfz12_6 := bF BK431.out 6; have hfz12_7 := bF BK431.out 7; have hfz12_8 := bF BK431.out 8; have hfz12_9 := bF BK431.out 9) | (go_at_call 9; (with_reducible refine (billiardref14_Right.calls k a0_0 a0_1 a0_2 a0_3 a0_4 a0_5 a0_6 a0_7 a0_8 a0_9 a1_0 a1_1 a1_2 a1_3 a1_4 a1_5 a1_6 a1_7 a1_8 a1_9 t433 _ A8.out).mono ?_); rintro e w13 ⟨rfl, hb⟩; have n0_ := aM (bB (by (with_reducible repeat first | apply bN | apply bD | apply bA); exact BK430.out) hb); have n1_ := aM (bB (by (with_reducible repeat first | apply bN | apply bD | apply bA); exact BK431.out) hb); have n2_ := aM (lT (by repeat (first | (with_reducible first | exact HB.out | apply lA | apply lN | apply lD | refine lS ?_ GE430.out | refine lS ?_ GE431.out) | exact HB.out)) hb); clear BK430; clear BK431; clear HB; have BK430 := n0_; have BK431 := n1_; have HB := n2_; clear n0_ n1_ n2_; (try clear hb); (try clear hb2); (try clear hk); (try clear hi)))
   go_meet
   case rel => exact ⟨_, (!t433), (by first | rfl | (simp; done) | (simp [*]; done)), H', ⟨by first | omega | exact Nat.le_refl _⟩, ⟨by (with_reducible repeat first | apply bN | apply bD | apply bA); exact BK430.out⟩, ⟨by (with_reducible repeat first | apply bN | apply bD | apply bA); exact BK431.out⟩, ⟨by repeat (first | (with_reducible first | exact HB.out | apply lA | apply lN | apply lD | refine lS ?_ GE430.out | refine lS ?_ GE431.out) | exact HB.out)⟩⟩
  ·replace c7 := Bool.eq_false_iff.mpr c7
   subst c7
   exact absurd (billiardlaw14_awake.only A6.out) (by decide)
 case rest =>
  clear HC3
  try clear c1
  try clear p2
  try clear c4
  try clear c7
  try clear c8
  try clear c10
  try clear hcz11_0
  try clear hcz11_1
  try clear hcz11_2
  try clear hcz11_3
  try clear hcz11_4
  try clear hcz11_5
  try clear hcz11_6
  try clear hcz11_7
  try clear hcz11_8
  try clear hcz11_9
  try clear hcz12_0
  try clear hcz12_1
  try clear hcz12_2
  try clear hcz12_3
  try clear hcz12_4
  try clear hcz12_5
  try clear hcz12_6
  try clear hcz12_7
  try clear hcz12_8
  try clear hcz12_9
  try clear hfz11_0
  try clear hfz11_1
  try clear hfz11_2
  try clear hfz11_3
  try clear hfz11_4
  try clear hfz11_5
  try clear hfz11_6
  try clear hfz11_7
  try clear hfz11_8
  try clear hfz11_9
  try clear hfz12_0
  try clear hfz12_1
  try clear hfz12_2
  try clear hfz12_3
  try clear hfz12_4
  try clear hfz12_5
  try clear hfz12_6
  try clear hfz12_7
  try clear hfz12_8
  try clear hfz12_9
  obtain ⟨kq, x15_2, rfl, HA, HJ2, BK430, BK431, HB⟩ := hcut
  cases kq with
  | zero => exact absurd HA.out (by simp [billiardlaw14_ContactDepth.j0])
  | succ kj2 =>
   have H := HA.out
   clear HA
   simp only [billiardlaw14_ContactDepth.j0] at H
   by_cases c14 : x15_2 = true
   ·subst c14
    have H1 : ((billiardlaw14_awake.f kj2).bind fun t434 => (some t434)) = some r := by rw [if_pos rfl] at H; exact H
    clear H
    have H := H1
    clear H1
    replace H := Option.bind_eq_some_iff.mp H
    obtain ⟨t434, A150, H⟩ := H
    replace H : (some t434) = some r := H
    have A15 := aM A150
    clear A150
    obtain rfl := Option.some.inj H
    go_wp2_with (first | ((with_reducible refine gate_callee (f := 8) rfl ?_); refine goesL_ (some 16) rfl rfl Try.func8 (by kernel_rfl) rfl #[] rfl (by (try simp only [List.map_toArray, List.map_cons, List.map_nil]); first | done | rfl | (simp only [List.length_drop, List.length_take]; rfl)) ?_; (with_reducible refine (billiardlaw14_awake.calls kj2  t434 _ A15.out).mono ?_); rintro e w16 ⟨rfl, hb⟩; refine ⟨_, rfl, ?_⟩; have n0_ := aM (bB (by (with_reducible repeat first | apply bN | apply bD | apply bA); exact BK430.out) hb); have n1_ := aM (bB (by (with_reducible repeat first | apply bN | apply bD | apply bA); exact BK431.out) hb); have n2_ := aM (lT (by repeat (first | (with_reducible first | exact HB.out | apply lA | apply lN | apply lD | refine lS ?_ GE430.out | refine lS ?_ GE431.out) | exact HB.out)) hb); clear BK430; clear BK431; clear HB; have BK430 := n0_; have BK431 := n1_; have HB := n2_; clear n0_ n1_ n2_; (try clear hb); (try clear hb2); (try clear hk); (try clear hi)))
    go_ret
    exact ⟨by first | rfl | (simp [errW_none, errW_some] <;> rfl) | (simp [*, errW_none, errW_some] <;> rfl), by repeat (first | (with_reducible first | exact HB.out | apply lA | apply lN | apply lD | refine lS ?_ GE430.out | refine lS ?_ GE431.out) | exact HB.out)⟩
   ·replace c14 := Bool.eq_false_iff.mpr c14
    subst c14
    have H1 : ((contact_Of.f kj2 a0_0 a0_1 a0_2 a0_3 a0_4 a0_5 a0_6 a0_7 a0_8 a0_9 a1_0 a1_1 a1_2 a1_3 a1_4 a1_5 a1_6 a1_7 a1_8 a1_9).bind fun bt435 => ((contact_Gap.f kj2 a0_0 a0_1 a0_2 a0_3 a0_4 a0_5 a0_6 a0_7 a0_8 a0_9 a1_0 a1_1 a1_2 a1_3 a1_4 a1_5 a1_6 a1_7 a1_8 a1_9).bind fun t442 => (if bt435.2.2.2.2.2 = true then (if bt435.2.2.2.2.1 ≥ 1 then (if bt435.2.2.2.2.1 ≤ (wrap32 (a0_1 + a1_1)) then (if (wrap64 (bt435.2.2.2.2.1)) = (wrap64 (-t442)) then (if bt435.1 < bt435.2.1 then ((billiardref08_Of.f a0_0 a0_1 a0_2 a0_3 a0_4 a0_5 a0_6 a0_7 a0_8 a0_9).bind fun bt443 => ((billiardref08_Of.f a1_0 a1_1 a1_2 a1_3 a1_4 a1_5 a1_6 a1_7 a1_8 a1_9).bind fun bt447 => ((billiardref08_Overlap.f bt443.1 bt443.2.1 bt443.2.2.1 bt443.2.2.2 bt447.1 bt447.2.1 bt447.2.2.1 bt447.2.2.2).bind fun t451 => (some t451)))) else (some false)) else (some false)) else (some false)) else (some false)) else (if t442 ≥ 0 then (some ((bt435.1 == 0 && (bt435.2.1 == 0)) && ((bt435.2.2.1 == 0 && (bt435.2.2.2.1 == 0)) && (bt435.2.2.2.2.1 == 0)))) else (some false))))) = some r := by rw [if_neg (show ¬ (false = true) by decide)] at H; exact H
    clear H
    have H := H1
    clear H1
    replace H := Option.bind_eq_some_iff.mp H
    obtain ⟨⟨t435, t436, t437, t438, t439, t440⟩, A170, H⟩ := H
    replace H : ((contact_Gap.f kj2 a0_0 a0_1 a0_2 a0_3 a0_4 a0_5 a0_6 a0_7 a0_8 a0_9 a1_0 a1_1 a1_2 a1_3 a1_4 a1_5 a1_6 a1_7 a1_8 a1_9).bind fun t442 => (if t440 = true then (if t439 ≥ 1 then (if t439 ≤ (wrap32 (a0_1 + a1_1)) then (if (wrap64 (t439)) = (wrap64 (-t442)) then (if t435 < t436 then ((billiardref08_Of.f a0_0 a0_1 a0_2 a0_3 a0_4 a0_5 a0_6 a0_7 a0_8 a0_9).bind fun bt443 => ((billiardref08_Of.f a1_0 a1_1 a1_2 a1_3 a1_4 a1_5 a1_6 a1_7 a1_8 a1_9).bind fun bt447 => ((billiardref08_Overlap.f bt443.1 bt443.2.1 bt443.2.2.1 bt443.2.2.2 bt447.1 bt447.2.1 bt447.2.2.1 bt447.2.2.2).bind fun t451 => (some t451)))) else (some false)) else (some false)) else (some false)) else (some false)) else (if t442 ≥ 0 then (some ((t435 == 0 && (t436 == 0)) && ((t437 == 0 && (t438 == 0)) && (t439 == 0)))) else (some false)))) = some r := H
    have A17 := aM A170
    clear A170
    replace H := Option.bind_eq_some_iff.mp H
    obtain ⟨t442, A180, H⟩ := H
    replace H : (if t440 = true then (if t439 ≥ 1 then (if t439 ≤ (wrap32 (a0_1 + a1_1)) then (if (wrap64 (t439)) = (wrap64 (-t442)) then (if t435 < t436 then ((billiardref08_Of.f a0_0 a0_1 a0_2 a0_3 a0_4 a0_5 a0_6 a0_7 a0_8 a0_9).bind fun bt443 => ((billiardref08_Of.f a1_0 a1_1 a1_2 a1_3 a1_4 a1_5 a1_6 a1_7 a1_8 a1_9).bind fun bt447 => ((billiardref08_Overlap.f bt443.1 bt443.2.1 bt443.2.2.1 bt443.2.2.2 bt447.1 bt447.2.1 bt447.2.2.1 bt447.2.2.2).bind fun t451 => (some t451)))) else (some false)) else (some false)) else (some false)) else (some false)) else (if t442 ≥ 0 then (some ((t435 == 0 && (t436 == 0)) && ((t437 == 0 && (t438 == 0)) && (t439 == 0)))) else (some false))) = some r := H
    have A18 := aM A180
    clear A180
    by_cases c19 : t440 = true
    ·subst c19
     have H1 : (if t439 ≥ 1 then (if t439 ≤ (wrap32 (a0_1 + a1_1)) then (if (wrap64 (t439)) = (wrap64 (-t442)) then (if t435 < t436 then ((billiardref08_Of.f a0_0 a0_1 a0_2 a0_3 a0_4 a0_5 a0_6 a0_7 a0_8 a0_9).bind fun bt443 => ((billiardref08_Of.f a1_0 a1_1 a1_2 a1_3 a1_4 a1_5 a1_6 a1_7 a1_8 a1_9).bind fun bt447 => ((billiardref08_Overlap.f bt443.1 bt443.2.1 bt443.2.2.1 bt443.2.2.2 bt447.1 bt447.2.1 bt447.2.2.1 bt447.2.2.2).bind fun t451 => (some t451)))) else (some false)) else (some false)) else (some false)) else (some false)) = some r := by rw [if_pos rfl] at H; exact H
     clear H
     have H := H1
     clear H1
     by_cases c20 : t439 ≥ 1
     ·rw [if_pos c20] at H
      have c20b0 : decide (1 ≤ t439) = true := decide_eq_true c20
      clear c20
      by_cases c21 : t439 ≤ (wrap32 (a0_1 + a1_1))
      ·rw [if_pos c21] at H
       have c21b0 : decide (t439 ≤ (wrap32 (a0_1 + a1_1))) = true := decide_eq_true c21
       clear c21
       by_cases c22 : (wrap64 (t439)) = (wrap64 (-t442))
       ·rw [if_pos c22] at H
        have c22b0 : ((wrap64 (t439)) == (wrap64 (-t442))) = true := beq_iff_eq.mpr c22
        have c22b1 : ((wrap64 (t439)) != (wrap64 (-t442))) = false := bne_eq_false_iff_eq.mpr c22
        clear c22
        by_cases c23 : t435 < t436
        ·rw [if_pos c23] at H
         have c23b0 : decide (t435 < t436) = true := decide_eq_true c23
         clear c23
         replace H := Option.bind_eq_some_iff.mp H
         obtain ⟨⟨t443, t444, t445, t446⟩, A240, H⟩ := H
         replace H : ((billiardref08_Of.f a1_0 a1_1 a1_2 a1_3 a1_4 a1_5 a1_6 a1_7 a1_8 a1_9).bind fun bt447 => ((billiardref08_Overlap.f t443 t444 t445 t446 bt447.1 bt447.2.1 bt447.2.2.1 bt447.2.2.2).bind fun t451 => (some t451))) = some r := H
         have A24 := aM A240
         clear A240
         replace H := Option.bind_eq_some_iff.mp H
         obtain ⟨⟨t447, t448, t449, t450⟩, A250, H⟩ := H
         replace H : ((billiardref08_Overlap.f t443 t444 t445 t446 t447 t448 t449 t450).bind fun t451 => (some t451)) = some r := H
         have A25 := aM A250
         clear A250
         replace H := Option.bind_eq_some_iff.mp H
         obtain ⟨t451, A260, H⟩ := H
         replace H : (some t451) = some r := H
         have A26 := aM A260
         clear A260
         obtain rfl := Option.some.inj H
         have hnb27 := N0_.out
         have hnc27 := N1_.out
         have hcz28_0 : wc.cell? ⟨b430, 0, none⟩ = some (.int .u32 a0_0) := (bC BK430.out 0).trans rfl
         have hcz28_1 : wc.cell? ⟨b430, 1, none⟩ = some (.int .i32 a0_1) := (bC BK430.out 1).trans rfl
         have hcz28_2 : wc.cell? ⟨b430, 2, none⟩ = some (.int .i32 a0_2) := (bC BK430.out 2).trans rfl
         have hcz28_3 : wc.cell? ⟨b430, 3, none⟩ = some (.int .i32 a0_3) := (bC BK430.out 3).trans rfl
         have hcz28_4 : wc.cell? ⟨b430, 4, none⟩ = some (.int .i32 a0_4) := (bC BK430.out 4).trans rfl
         have hcz28_5 : wc.cell? ⟨b430, 5, none⟩ = some (.int .i32 a0_5) := (bC BK430.out 5).trans rfl
         have hcz28_6 : wc.cell? ⟨b430, 6, none⟩ = some (.int .i32 a0_6) := (bC BK430.out 6).trans rfl
         have hcz28_7 : wc.cell? ⟨b430, 7, none⟩ = some (.int .i32 a0_7) := (bC BK430.out 7).trans rfl
         have hcz28_8 : wc.cell? ⟨b430, 8, none⟩ = some (.int .i32 a0_8) := (bC BK430.out 8).trans rfl
         have hcz28_9 : wc.cell? ⟨b430, 9, none⟩ = some (.int .i32 a0_9) := (bC BK430.out 9).trans rfl
         have hfz28_0 := bF BK430.out 0
         have hfz28_1 := bF BK430.out 1
         have hfz28_2 := bF BK430.out 2
         have hfz28_3 := bF BK430.out 3
         have hfz28_4 := bF BK430.out 4
         have hfz28_5 := bF BK430.out 5
         have hfz28_6 := bF BK430.out 6
         have hfz28_7 := bF BK430.out 7
         have hfz28_8 := bF BK430.out 8
         have hfz28_9 := bF BK430.out 9
         have hcz29_0 : wc.cell? ⟨b431, 0, none⟩ = some (.int .u32 a1_0) := (bC BK431.out 0).trans rfl
         have hcz29_1 : wc.cell? ⟨b431, 1, none⟩ = some (.int .i32 a1_1) := (bC BK431.out 1).trans rfl
         have hcz29_2 : wc.cell? ⟨b431, 2, none⟩ = some (.int .i32 a1_2) := (bC BK431.out 2).trans rfl
         have hcz29_3 : wc.cell? ⟨b431, 3, none⟩ = some (.int .i32 a1_3) := (bC BK431.out 3).trans rfl
         have hcz29_4 : wc.cell? ⟨b431, 4, none⟩ = some (.int .i32 a1_4) := (bC BK431.out 4).trans rfl
         have hcz29_5 : wc.cell? ⟨b431, 5, none⟩ = some (.int .i32 a1_5) := (bC BK431.out 5).trans rfl
         have hcz29_6 : wc.cell? ⟨b431, 6, none⟩ = some (.int .i32 a1_6) := (bC BK431.out 6).trans rfl
         have hcz29_7 : wc.cell? ⟨b431, 7, none⟩ = some (.int .i32 a1_7) := (bC BK431.out 7).trans rfl
         have hcz29_8 : wc.cell? ⟨b431, 8, none⟩ = some (.int .i32 a1_8) := (bC BK431.out 8).trans rfl
         have hcz29_9 : wc.cell? ⟨b431, 9, none⟩ = some (.int .i32 a1_9) := (bC BK431.out 9).trans rfl
         have hfz29_0 := bF BK431.out 0
         have hfz29_1 := bF BK431.out 1
         have hfz29_2 := bF BK431.out 2
         have hfz29_3 := bF BK431.out 3
         have hfz29_4 := bF BK431.out 4
         have hfz29_5 := bF BK431.out 5
         have hfz29_6 := bF BK431.out 6
         have hfz29_7 := bF BK431.out 7
         have hfz29_8 := bF BK431.out 8
         have hfz29_9 := bF BK431.out 9
         try go_wp2_with (first | ((with_reducible refine gate_callee (f := 10) rfl ?_); refine goesL_ (some 20) rfl rfl Try.func10 (by kernel_rfl) rfl #[.agg #[.int .u32 a0_0, .int .i32 a0_1, .int .i32 a0_2, .int .i32 a0_3, .int .i32 a0_4, .int .i32 a0_5, .int .i32 a0_6, .int .i32 a0_7, .int .i32 a0_8, .int .i32 a0_9], .agg #[.int .u32 a1_0, .int .i32 a1_1, .int .i32 a1_2, .int .i32 a1_3, .int .i32 a1_4, .int .i32 a1_5, .int .i32 a1_6, .int .i32 a1_7, .int .i32 a1_8, .int .i32 a1_9]] rfl (by (try simp only [List.map_toArray, List.map_cons, List.map_nil]); first | done | rfl | (simp only [List.length_drop, List.length_take]; rfl)) ?_; (with_reducible refine (contact_Of.calls kj2 a0_0 a0_1 a0_2 a0_3 a0_4 a0_5 a0_6 a0_7 a0_8 a0_9 a1_0 a1_1 a1_2 a1_3 a1_4 a1_5 a1_6 a1_7 a1_8 a1_9 t435 t436 t437 t438 t439 true _ A17.out).mono ?_); rintro e w30 ⟨rfl, hb⟩; refine ⟨_, rfl, ?_⟩; have n0_ := aM (bB (by (with_reducible repeat first | apply bN | apply bD | apply bA); exact BK430.out) hb); have n1_ := aM (bB (by (with_reducible repeat first | apply bN | apply bD | apply bA); exact BK431.out) hb); have n2_ := aM (lT (by repeat (first | (with_reducible first | exact HB.out | apply lA | apply lN | apply lD | refine lS ?_ GE430.out | refine lS ?_ GE431.out) | exact HB.out)) hb); clear BK430; clear BK431; clear HB; have BK430 := n0_; have BK431 := n1_; have HB := n2_; clear n0_ n1_ n2_; (try clear hb); (try clear hb2); (try clear hk); (try clear hi)) | ((with_reducible refine gate_dst (N := 5) rfl ?_); refine box_event ?hg (N := 5) ?hd (cs := #[.int .u32 0, .int .u32 0, .int .i32 0, .int .i32 0, .int .i32 0]) (t := 32) ?hr ?_; (case hd => rfl); (case hg => rfl); (case hr => first | (go_simp; done) | (go_simp; rfl)); intro b441 hg w31 hbox hb; have n0_ := aM (bB (by (with_reducible repeat first | apply bN | apply bD | apply bA); exact BK430.out) hb); have n1_ := aM (bB (by (with_reducible repeat first | apply bN | apply bD | apply bA); exact BK431.out) hb); have n2_ := aM (lT (by repeat (first | (with_reducible first | exact HB.out | apply lA | apply lN | apply lD | refine lS ?_ GE430.out | refine lS ?_ GE431.out) | exact HB.out)) hb); have n3_ := aM (hbox); have n4_ := aM ((by rw [hg]; exact (lZ (by repeat (first | (with_reducible first | exact HB.out | apply lA | apply lN | apply lD | refine lS ?_ GE430.out | refine lS ?_ GE431.out) | exact HB.out))) : w.heap.size ≤ b441)); have n5_ := aM ((by rw [hg]; exact (lZ (by repeat (first | (with_reducible first | exact HB.out | apply lA | apply lN | apply lD | refine lS ?_ GE430.out | refine lS ?_ GE431.out) | exact HB.out))) : w.heap.size ≤ b441)); have n6_ := aM ((by rw [hg]; exact Nat.ne_of_lt (bL (g := b430) (by (with_reducible repeat first | apply bN | apply bD | apply bA); exact BK430.out)) : b430 ≠ b441)); have n7_ := aM ((by rw [hg]; exact Nat.ne_of_gt (bL (g := b430) (by (with_reducible repeat first | apply bN | apply bD | apply bA); exact BK430.out)) : b441 ≠ b430)); have n8_ := aM ((by rw [hg]; exact Nat.ne_of_lt (bL (g := b431) (by (with_reducible repeat first | apply bN | apply bD | apply bA); exact BK431.out)) : b431 ≠ b441)); have n9_ := aM ((by rw [hg]; exact Nat.ne_of_gt (bL (g := b431) (by (with_reducible repeat first | apply bN | apply bD | apply bA); exact BK431.out)) : b441 ≠ b431)); clear BK430; clear BK431; clear HB; have BK430 := n0_; have BK431 := n1_; have HB := n2_; have BK441 := n3_; have GW441 := n4_; have GE441 := n5_; have N2_ := n6_; have N3_ := n7_; have N4_ := n8_; have N5_ := n9_; clear n0_ n1_ n2_ n3_ n4_ n5_ n6_ n7_ n8_ n9_; clear hb hbox hg; have hnb32 := N3_.out; have hnc32 := N2_.out; have hnb33 := N5_.out; have hnc33 := N4_.out; have hcz34_0 : w31.cell? ⟨b441, 0, none⟩ = some (.int .u32 0) := (bC BK441.out 0).trans rfl; have hcz34_1 : w31.cell? ⟨b441, 1, none⟩ = some (.int .u32 0) := (bC BK441.out 1).trans rfl; have hcz34_2 : w31.cell? ⟨b441, 2, none⟩ = some (.int .i32 0) := (bC BK441.out 2).trans rfl; have hcz34_3 : w31.cell? ⟨b441, 3, none⟩ = some (.int .i32 0) := (bC BK441.out 3).trans rfl; have hcz34_4 : w31.cell? ⟨b441, 4, none⟩ = some (.int .i32 0) := (bC BK441.out 4).trans rfl; have hfz34_0 := bF BK441.out 0; have hfz34_1 := bF BK441.out 1; have hfz34_2 := bF BK441.out 2; have hfz34_3 := bF BK441.out 3; have hfz34_4 := bF BK441.out 4; have hcz35_0 : w31.cell? ⟨b430, 0, none⟩ = some (.int .u32 a0_0) := (bC BK430.out 0).trans rfl; have hcz35_1 : w31.cell? ⟨b430, 1, none⟩ = some (.int .i32 a0_1) := (bC BK430.out 1).trans rfl; have hcz35_2 : w31.cell? ⟨b430, 2, none⟩ = some (.int .i32 a0_2) := (bC BK430.out 2).trans rfl; have hcz35_3 : w31.cell? ⟨b430, 3, none⟩ = some (.int .i32 a0_3) := (bC BK430.out 3).trans rfl; have hcz35_4 : w31.cell? ⟨b430, 4, none⟩ = some (.int .i32 a0_4) := (bC BK430.out 4).trans rfl; have hcz35_5 : w31.cell? ⟨b430, 5, none⟩ = some (.int .i32 a0_5) := (bC BK430.out 5).trans rfl; have hcz35_6 : w31.cell? ⟨b430, 6, none⟩ = some (.int .i32 a0_6) := (bC BK430.out 6).trans rfl; have hcz35_7 : w31.cell? ⟨b430, 7, none⟩ = some (.int .i32 a0_7) := (bC BK430.out 7).trans rfl; have hcz35_8 : w31.cell? ⟨b430, 8, none⟩ = some (.int .i32 a0_8) := (bC BK430.out 8).trans rfl; have hcz35_9 : w31.cell? ⟨b430, 9, none⟩ = some (.int .i32 a0_9) := (bC BK430.out 9).trans rfl; have hfz35_0 := bF BK430.out 0; have hfz35_1 := bF BK430.out 1; have hfz35_2 := bF BK430.out 2; have hfz35_3 := bF BK430.out 3; have hfz35_4 := bF BK430.out 4; have hfz35_5 := bF BK430.out 5; have hfz35_6 := bF BK430.out 6; have hfz35_7 := bF BK430.out 7; have hfz35_8 := bF BK430.out 8; have hfz35_9 := bF BK430.out 9; have hcz36_0 : w31.cell? ⟨b431, 0, none⟩ = some (.int .u32 a1_0) := (bC BK431.out 0).trans rfl; have hcz36_1 : w31.cell? ⟨b431, 1, none⟩ = some (.int .i32 a1_1) := (bC BK431.out 1).trans rfl; have hcz36_2 : w31.cell? ⟨b431, 2, none⟩ = some (.int .i32 a1_2) := (bC BK431.out 2).trans rfl; have hcz36_3 : w31.cell? ⟨b431, 3, none⟩ = some (.int .i32 a1_3) := (bC BK431.out 3).trans rfl; have hcz36_4 : w31.cell? ⟨b431, 4, none⟩ = some (.int .i32 a1_4) := (bC BK431.out 4).trans rfl; have hcz36_5 : w31.cell? ⟨b431, 5, none⟩ = some (.int .i32 a1_5) := (bC BK431.out 5).trans rfl; have hcz36_6 : w31.cell? ⟨b431, 6, none⟩ = some (.int .i32 a1_6) := (bC BK431.out 6).trans rfl; have hcz36_7 : w31.cell? ⟨b431, 7, none⟩ = some (.int .i32 a1_7) := (bC BK431.out 7).trans rfl; have hcz36_8 : w31.cell? ⟨b431, 8, none⟩ = some (.int .i32 a1_8) := (bC BK431.out 8).trans rfl; have hcz36_9 : w31.cell? ⟨b431, 9, none⟩ = some (.int .i32 a1_9) := (bC BK431.out 9).trans rfl; have hfz36_0 := bF BK431.out 0; have hfz36_1 := bF BK431.out 1; have hfz36_2 := bF BK431.out 2; have hfz36_3 := bF BK431.out 3; have hfz36_4 := bF BK431.out 4; have hfz36_5 := bF BK431.out 5; have hfz36_6 := bF BK431.out 6; have hfz36_7 := bF BK431.out 7; have hfz36_8 := bF BK431.out 8; have hfz36_9 := bF BK431.out 9) | ((with_reducible refine gate_callee (f := 13) rfl ?_); refine goesL_ (some 25) rfl rfl Try.func13 (by kernel_rfl) rfl #[.agg #[.int .u32 a0_0, .int .i32 a0_1, .int .i32 a0_2, .int .i32 a0_3, .int .i32 a0_4, .int .i32 a0_5, .int .i32 a0_6, .int .i32 a0_7, .int .i32 a0_8, .int .i32 a0_9], .agg #[.int .u32 a1_0, .int .i32 a1_1, .int .i32 a1_2, .int .i32 a1_3, .int .i32 a1_4, .int .i32 a1_5, .int .i32 a1_6, .int .i32 a1_7, .int .i32 a1_8, .int .i32 a1_9]] rfl (by (try simp only [List.map_toArray, List.map_cons, List.map_nil]); first | done | rfl | (simp only [List.length_drop, List.length_take]; rfl)) ?_; (with_reducible refine (contact_Gap.calls kj2 a0_0 a0_1 a0_2 a0_3 a0_4 a0_5 a0_6 a0_7 a0_8 a0_9 a1_0 a1_1 a1_2 a1_3 a1_4 a1_5 a1_6 a1_7 a1_8 a1_9 t442 _ A18.out).mono ?_); rintro e w37 ⟨rfl, hb⟩; refine ⟨_, rfl, ?_⟩; have n0_ := aM (bB (g := b430) (o := .cells #[.int .u32 a0_0, .int .i32 a0_1, .int .i32 a0_2, .int .i32 a0_3, .int .i32 a0_4, .int .i32 a0_5, .int .i32 a0_6, .int .i32 a0_7, .int .i32 a0_8, .int .i32 a0_9] 26 (0, 0)) (by (with_reducible repeat first | apply bN | apply bD | apply bA); refine bR ?_ N2_.out _; (with_reducible repeat first | apply bN | apply bD | apply bA); refine bR ?_ N2_.out _; (with_reducible repeat first | apply bN | apply bD | apply bA); refine bR ?_ N2_.out _; (with_reducible repeat first | apply bN | apply bD | apply bA); refine bR ?_ N2_.out _; (with_reducible repeat first | apply bN | apply bD | apply bA); refine bR ?_ N2_.out _; (with_reducible repeat first | apply bN | apply bD | apply bA); exact BK430.out) hb); have n1_ := aM (bB (g := b431) (o := .cells #[.int .u32 a1_0, .int .i32 a1_1, .int .i32 a1_2, .int .i32 a1_3, .int .i32 a1_4, .int .i32 a1_5, .int .i32 a1_6, .int .i32 a1_7, .int .i32 a1_8, .int .i32 a1_9] 26 (0, 0)) (by (with_reducible repeat first | apply bN | apply bD | apply bA); refine bR ?_ N4_.out _; (with_reducible repeat first | apply bN | apply bD | apply bA); refine bR ?_ N4_.out _; (with_reducible repeat first | apply bN | apply bD | apply bA); refine bR ?_ N4_.out _; (with_reducible repeat first | apply bN | apply bD | apply bA); refine bR ?_ N4_.out _; (with_reducible repeat first | apply bN | apply bD | apply bA); refine bR ?_ N4_.out _; (with_reducible repeat first | apply bN | apply bD | apply bA); exact BK431.out) hb); have n2_ := aM (bB (g := b441) (o := .cells #[.int .u32 t435, .int .u32 t436, .int .i32 t437, .int .i32 t438, .int .i32 t439] 32 (0, 0)) (by (with_reducible repeat first | apply bN | apply bD | apply bA); refine bP (cs := #[.int .u32 t435, .int .u32 t436, .int .i32 t437, .int .i32 t438, .int .i32 0]) ?_ 4 _ rfl; (with_reducible repeat first | apply bN | apply bD | apply bA); refine bP (cs := #[.int .u32 t435, .int .u32 t436, .int .i32 t437, .int .i32 0, .int .i32 0]) ?_ 3 _ rfl; (with_reducible repeat first | apply bN | apply bD | apply bA); refine bP (cs := #[.int .u32 t435, .int .u32 t436, .int .i32 0, .int .i32 0, .int .i32 0]) ?_ 2 _ rfl; (with_reducible repeat first | apply bN | apply bD | apply bA); refine bP (cs := #[.int .u32 t435, .int .u32 0, .int .i32 0, .int .i32 0, .int .i32 0]) ?_ 1 _ rfl; (with_reducible repeat first | apply bN | apply bD | apply bA); refine bP (cs := #[.int .u32 0, .int .u32 0, .int .i32 0, .int .i32 0, .int .i32 0]) ?_ 0 _ rfl; (with_reducible repeat first | apply bN | apply bD | apply bA); exact BK441.out) hb); have n3_ := aM (lT (by repeat (first | (with_reducible first | exact HB.out | apply lA | apply lN | apply lD | refine lS ?_ GE430.out | refine lS ?_ GE431.out | refine lS ?_ GE441.out) | exact HB.out)) hb); clear BK430; clear BK431; clear BK441; clear HB; have BK430 := n0_; have BK431 := n1_; have BK441 := n2_; have HB := n3_; clear n0_ n1_ n2_ n3_; (try clear hb); (try clear hb2); (try clear hk); (try clear hi)))
         have n0_ := aM (bD BK430.out)
         have n1_ := aM (bD BK431.out)
         have n2_ := aM (bD BK441.out)
         have n3_ := aM (lD HB.out)
         clear BK430
         clear BK431
         clear BK441
         clear HB
         have BK430 := n0_
         have BK431 := n1_
         have BK441 := n2_
         have HB := n3_
         clear n0_ n1_ n2_ n3_
         refine start_ (n := 38) (S := fun w' => w'.cell? ⟨b441, 0, none⟩ = some (.int .u32 t435) ∧ w'.cell? ⟨b441, 1, none⟩ = some (.int .u32 t436) ∧ w'.cell? ⟨b441, 2, none⟩ = some (.int .i32 t437) ∧ w'.cell? ⟨b441, 3, none⟩ = some (.int .i32 t438) ∧ w'.cell? ⟨b441, 4, none⟩ = some (.int .i32 t439) ∧ w'.cell? ⟨b430, 0, none⟩ = some (.int .u32 a0_0) ∧ w'.cell? ⟨b430, 1, none⟩ = some (.int .i32 a0_1) ∧ w'.cell? ⟨b430, 2, none⟩ = some (.int .i32 a0_2) ∧ w'.cell? ⟨b430, 3, none⟩ = some (.int .i32 a0_3) ∧ w'.cell? ⟨b430, 4, none⟩ = some (.int .i32 a0_4) ∧ w'.cell? ⟨b430, 5, none⟩ = some (.int .i32 a0_5) ∧ w'.cell? ⟨b430, 6, none⟩ = some (.int .i32 a0_6) ∧ w'.cell? ⟨b430, 7, none⟩ = some (.int .i32 a0_7) ∧ w'.cell? ⟨b430, 8, none⟩ = some (.int .i32 a0_8) ∧ w'.cell? ⟨b430, 9, none⟩ = some (.int .i32 a0_9) ∧ w'.cell? ⟨b431, 0, none⟩ = some (.int .u32 a1_0) ∧ w'.cell? ⟨b431, 1, none⟩ = some (.int .i32 a1_1) ∧ w'.cell? ⟨b431, 2, none⟩ = some (.int .i32 a1_2) ∧ w'.cell? ⟨b431, 3, none⟩ = some (.int .i32 a1_3) ∧ w'.cell? ⟨b431, 4, none⟩ = some (.int .i32 a1_4) ∧ w'.cell? ⟨b431, 5, none⟩ = some (.int .i32 a1_5) ∧ w'.cell? ⟨b431, 6, none⟩ = some (.int .i32 a1_6) ∧ w'.cell? ⟨b431, 7, none⟩ = some (.int .i32 a1_7) ∧ w'.cell? ⟨b431, 8, none⟩ = some (.int .i32 a1_8) ∧ w'.cell? ⟨b431, 9, none⟩ = some (.int .i32 a1_9)) (ds := []) #[F,F,F,F,F,F,F,F,F,F,F,F,F,F,F,F,F,F,F,F,F,F,F,F,F,F,F,F,F,F,F,F,F,F,F,F,F,F] (by kernel_rfl) rfl rfl ⟨(bC BK441.out 0).trans rfl, (bC BK441.out 1).trans rfl, (bC BK441.out 2).trans rfl, (bC BK441.out 3).trans rfl, (bC BK441.out 4).trans rfl, (bC BK430.out 0).trans rfl, (bC BK430.out 1).trans rfl, (bC BK430.out 2).trans rfl, (bC BK430.out 3).trans rfl, (bC BK430.out 4).trans rfl, (bC BK430.out 5).trans rfl, (bC BK430.out 6).trans rfl, (bC BK430.out 7).trans rfl, (bC BK430.out 8).trans rfl, (bC BK430.out 9).trans rfl, (bC BK431.out 0).trans rfl, (bC BK431.out 1).trans rfl, (bC BK431.out 2).trans rfl, (bC BK431.out 3).trans rfl, (bC BK431.out 4).trans rfl, (bC BK431.out 5).trans rfl, (bC BK431.out 6).trans rfl, (bC BK431.out 7).trans rfl, (bC BK431.out 8).trans rfl, (bC BK431.out 9).trans rfl⟩ (fun hHeld => ?_); refine with_tabW billiardlaw14_ContactDepth.tab7 billiardlaw14_ContactDepth.bits7 (fun HT_ HW_ => ?_)
         generalize w37.drew = w38 at BK430 BK431 BK441 HB hHeld ⊢
         refine pure_ (i := 0) (N := some 35) (v := ?_) (a' := ?_) #[T,F,F,F,F,F,F,F,F,F,F,F,F,F,F,F,F,F,F,F,F,F,F,F,F,F,F,F,F,F,F,F,F,F,F,F,F,F] rfl rfl (any_of HT_.out (by kernel_rfl)) (fun _ _ _ h => h) (Or.inl ⟨by rfl, ?_⟩) ?_ ?_
         rotate_left
         ·intro w'
          go_simp
          with_reducible rfl
         rotate_left
         ·simp only [Act.put, sA, sB, sC, i64_w, i32_w]
          rfl
         refine take_ (i := 1) (N := some 36) (v := ?_) (a' := ?_) #[T,T,F,F,F,F,F,F,F,F,F,F,F,F,F,F,F,F,F,F,F,F,F,F,F,F,F,F,F,F,F,F,F,F,F,F,F,F] rfl rfl (take_ofW HT_.out HW_.out (by kernel_rfl)) (fun _ _ _ h => h) (Or.inl ⟨by rfl, ?_⟩) hHeld ?_ ?_
         rotate_left
         ·rintro w' ⟨s0, s1, s2, s3, s4, s5, s6, s7, s8, s9, s10, s11, s12, s13, s14, s15, s16, s17, s18, s19, s20, s21, s22, s23, s24⟩
          go_simp
          with_reducible rfl
         rotate_left
         ·simp only [Act.put, sA, sB, sC, i64_w, i32_w]
          rfl
         refine pure_ (i := 2) (N := some 37) (v := ?_) (a' := ?_) #[T,T,T,F,F,F,F,F,F,F,F,F,F,F,F,F,F,F,F,F,F,F,F,F,F,F,F,F,F,F,F,F,F,F,F,F,F,F] rfl rfl (any_of HT_.out (by kernel_rfl)) (fun _ _ _ h => h) (Or.inl ⟨by rfl, ?_⟩) ?_ ?_
         rotate_left
         ·intro w'
          go_simp
          with_reducible rfl
         rotate_left
         ·simp only [Act.put, sA, sB, sC, i64_w, i32_w]
          rfl
         refine pure_ (i := 3) (N := some 38) (v := ?_) (a' := ?_) #[T,T,T,T,F,F,F,F,F,F,F,F,F,F,F,F,F,F,F,F,F,F,F,F,F,F,F,F,F,F,F,F,F,F,F,F,F,F] rfl rfl (any_of HT_.out (by kernel_rfl)) (fun _ _ _ h => h) (Or.inl ⟨by rfl, ?_⟩) ?_ ?_
         rotate_left
         ·intro w'
          go_simp
          with_reducible rfl
         rotate_left
         ·simp only [Act.put, sA, sB, sC, i64_w, i32_w]
          rfl
         refine pure_ (i := 4) (N := some 39) (v := ?_) (a' := ?_) #[T,T,T,T,T,F,F,F,F,F,F,F,F,F,F,F,F,F,F,F,F,F,F,F,F,F,F,F,F,F,F,F,F,F,F,F,F,F] rfl rfl (any_of HT_.out (by kernel_rfl)) (fun _ _ _ h => h) (Or.inl ⟨by rfl, ?_⟩) ?_ ?_
         rotate_left
         ·intro w'
          go_simp
          with_reducible rfl
         rotate_left
         ·simp only [Act.put, sA, sB, sC, i64_w, i32_w]
          rfl
         refine pure_ (i := 6) (N := some 41) (v := ?_) (a' := ?_) #[T,T,T,T,T,F,T,F,F,F,F,F,F,F,F,F,F,F,F,F,F,F,F,F,F,F,F,F,F,F,F,F,F,F,F,F,F,F] rfl rfl (any_of HT_.out (by kernel_rfl)) (fun _ _ _ h => h) (Or.inl ⟨by rfl, ?_⟩) ?_ ?_
         rotate_left
         ·intro w'
          go_simp
          with_reducible rfl
         rotate_left
         ·simp only [Act.put, sA, sB, sC, i64_w, i32_w]
          rfl
         refine pure_ (i := 8) (N := some 43) (v := ?_) (a' := ?_) #[T,T,T,T,T,F,T,F,T,F,F,F,F,F,F,F,F,F,F,F,F,F,F,F,F,F,F,F,F,F,F,F,F,F,F,F,F,F] rfl rfl (any_of HT_.out (by kernel_rfl)) (fun _ _ _ h => h) (Or.inl ⟨by rfl, ?_⟩) ?_ ?_
         rotate_left
         ·intro w'
          go_simp
          with_reducible rfl
         rotate_left
         ·simp only [Act.put, sA, sB, sC, i64_w, i32_w]
          rfl
         refine take_ (i := 5) (N := some 40) (v := ?_) (a' := ?_) #[T,T,T,T,T,T,T,F,T,F,F,F,F,F,F,F,F,F,F,F,F,F,F,F,F,F,F,F,F,F,F,F,F,F,F,F,F,F] rfl rfl (take_ofW HT_.out HW_.out (by kernel_rfl)) (fun _ _ _ h => h) (Or.inl ⟨by rfl, ?_⟩) hHeld ?_ ?_
         rotate_left
         ·rintro w' ⟨s0, s1, s2, s3, s4, s5, s6, s7, s8, s9, s10, s11, s12, s13, s14, s15, s16, s17, s18, s19, s20, s21, s22, s23, s24⟩
          go_simp
          with_reducible rfl
         rotate_left
         ·simp only [Act.put, sA, sB, sC, i64_w, i32_w]
          rfl
         refine take_ (i := 7) (N := some 42) (v := ?_) (a' := ?_) #[T,T,T,T,T,T,T,T,T,F,F,F,F,F,F,F,F,F,F,F,F,F,F,F,F,F,F,F,F,F,F,F,F,F,F,F,F,F] rfl rfl (take_ofW HT_.out HW_.out (by kernel_rfl)) (fun _ _ _ h => h) (Or.inl ⟨by rfl, ?_⟩) hHeld ?_ ?_
         rotate_left
         ·rintro w' ⟨s0, s1, s2, s3, s4, s5, s6, s7, s8, s9, s10, s11, s12, s13, s14, s15, s16, s17, s18, s19, s20, s21, s22, s23, s24⟩
          go_simp
          with_reducible rfl
         rotate_left
         ·simp only [Act.put, sA, sB, sC, i64_w, i32_w]
          rfl
         refine take_ (i := 9) (N := some 44) (v := ?_) (a' := ?_) #[T,T,T,T,T,T,T,T,T,T,F,F,F,F,F,F,F,F,F,F,F,F,F,F,F,F,F,F,F,F,F,F,F,F,F,F,F,F] rfl rfl (take_ofW HT_.out HW_.out (by kernel_rfl)) (fun _ _ _ h => h) (Or.inl ⟨by rfl, ?_⟩) hHeld ?_ ?_
         rotate_left
         ·rintro w' ⟨s0, s1, s2, s3, s4, s5, s6, s7, s8, s9, s10, s11, s12, s13, s14, s15, s16, s17, s18, s19, s20, s21, s22, s23, s24⟩
          go_simp
          with_reducible rfl
         rotate_left
         ·simp only [Act.put, sA, sB, sC, i64_w, i32_w]
          rfl
         refine pure_ (i := 10) (N := some 45) (v := ?_) (a' := ?_) #[T,T,T,T,T,T,T,T,T,T,T,F,F,F,F,F,F,F,F,F,F,F,F,F,F,F,F,F,F,F,F,F,F,F,F,F,F,F] rfl rfl (any_of HT_.out (by kernel_rfl)) (fun _ _ _ h => h) (Or.inl ⟨by rfl, ?_⟩) ?_ ?_
         rotate_left
         ·intro w'
          go_simp
          with_reducible rfl
         rotate_left
         ·simp only [Act.put, sA, sB, sC, i64_w, i32_w]
          rfl
         refine pure_ (i := 11) (N := some 46) (v := ?_) (a' := ?_) #[T,T,T,T,T,T,T,T,T,T,T,T,F,F,F,F,F,F,F,F,F,F,F,F,F,F,F,F,F,F,F,F,F,F,F,F,F,F] rfl rfl (any_of HT_.out (by kernel_rfl)) (fun _ _ _ h => h) (Or.inl ⟨by rfl, ?_⟩) ?_ ?_
         rotate_left
         ·intro w'
          go_simp
          with_reducible rfl
         rotate_left
         ·simp only [Act.put, sA, sB, sC, i64_w, i32_w]
          rfl
         refine pure_ (i := 12) (N := some 47) (v := ?_) (a' := ?_) #[T,T,T,T,T,T,T,T,T,T,T,T,T,F,F,F,F,F,F,F,F,F,F,F,F,F,F,F,F,F,F,F,F,F,F,F,F,F] rfl rfl (any_of HT_.out (by kernel_rfl)) (fun _ _ _ h => h) (Or.inl ⟨by rfl, ?_⟩) ?_ ?_
         rotate_left
         ·intro w'
          go_simp
          with_reducible rfl
         rotate_left
         ·simp only [Act.put, sA, sB, sC, i64_w, i32_w]
          rfl
         refine pure_ (i := 13) (N := some 48) (v := ?_) (a' := ?_) #[T,T,T,T,T,T,T,T,T,T,T,T,T,T,F,F,F,F,F,F,F,F,F,F,F,F,F,F,F,F,F,F,F,F,F,F,F,F] rfl rfl (any_of HT_.out (by kernel_rfl)) (fun _ _ _ h => h) (Or.inl ⟨by rfl, ?_⟩) ?_ ?_
         rotate_left
         ·intro w'
          go_simp
          with_reducible rfl
         rotate_left
         ·simp only [Act.put, sA, sB, sC, i64_w, i32_w]
          rfl
         refine pure_ (i := 14) (N := some 49) (v := ?_) (a' := ?_) #[T,T,T,T,T,T,T,T,T,T,T,T,T,T,T,F,F,F,F,F,F,F,F,F,F,F,F,F,F,F,F,F,F,F,F,F,F,F] rfl rfl (any_of HT_.out (by kernel_rfl)) (fun _ _ _ h => h) (Or.inl ⟨by rfl, ?_⟩) ?_ ?_
         rotate_left
         ·intro w'
          go_simp
          with_reducible rfl
         rotate_left
         ·simp only [Act.put, sA, sB, sC, i64_w, i32_w]
          rfl
         refine pure_ (i := 17) (N := some 52) (v := ?_) (a' := ?_) #[T,T,T,T,T,T,T,T,T,T,T,T,T,T,T,F,F,T,F,F,F,F,F,F,F,F,F,F,F,F,F,F,F,F,F,F,F,F] rfl rfl (any_of HT_.out (by kernel_rfl)) (fun _ _ _ h => h) (Or.inl ⟨by rfl, ?_⟩) ?_ ?_
         rotate_left
         ·intro w'
          go_simp
          with_reducible rfl
         rotate_left
         ·simp only [Act.put, sA, sB, sC, i64_w, i32_w]
          rfl
         refine pure_ (i := 18) (N := some 53) (v := ?_) (a' := ?_) #[T,T,T,T,T,T,T,T,T,T,T,T,T,T,T,F,F,T,T,F,F,F,F,F,F,F,F,F,F,F,F,F,F,F,F,F,F,F] rfl rfl (any_of HT_.out (by kernel_rfl)) (fun _ _ _ h => h) (Or.inl ⟨by rfl, ?_⟩) ?_ ?_
         rotate_left
         ·intro w'
          go_simp
          with_reducible rfl
         rotate_left
         ·simp only [Act.put, sA, sB, sC, i64_w, i32_w]
          rfl
         refine take_ (i := 15) (N := some 50) (v := ?_) (a' := ?_) #[T,T,T,T,T,T,T,T,T,T,T,T,T,T,T,T,F,T,T,F,F,F,F,F,F,F,F,F,F,F,F,F,F,F,F,F,F,F] rfl rfl (take_ofW HT_.out HW_.out (by kernel_rfl)) (fun _ _ _ h => h) (Or.inl ⟨by rfl, ?_⟩) hHeld ?_ ?_
         rotate_left
         ·rintro w' ⟨s0, s1, s2, s3, s4, s5, s6, s7, s8, s9, s10, s11, s12, s13, s14, s15, s16, s17, s18, s19, s20, s21, s22, s23, s24⟩
          go_simp
          with_reducible rfl
         rotate_left
         ·simp only [Act.put, sA, sB, sC, i64_w, i32_w]
          rfl
         refine pure_ (i := 16) (N := some 51) (v := ?_) (a' := ?_) #[T,T,T,T,T,T,T,T,T,T,T,T,T,T,T,T,T,T,T,F,F,F,F,F,F,F,F,F,F,F,F,F,F,F,F,F,F,F] rfl rfl (any_of HT_.out (by kernel_rfl)) (fun _ _ _ h => h) (Or.inl ⟨by rfl, ?_⟩) ?_ ?_
         rotate_left
         ·intro w'
          go_simp
          with_reducible rfl
         rotate_left
         ·simp only [Act.put, sA, sB, sC, i64_w, i32_w]
          rfl
         refine pure_ (i := 19) (N := some 54) (v := ?_) (a' := ?_) #[T,T,T,T,T,T,T,T,T,T,T,T,T,T,T,T,T,T,T,T,F,F,F,F,F,F,F,F,F,F,F,F,F,F,F,F,F,F] rfl rfl (any_of HT_.out (by kernel_rfl)) (fun _ _ _ h => h) (Or.inl ⟨by rfl, ?_⟩) ?_ ?_
         rotate_left
         ·intro w'
          go_simp
          with_reducible rfl
         rotate_left
         ·simp only [Act.put, sA, sB, sC, i64_w, i32_w]
          rfl
         refine pure_ (i := 20) (N := some 55) (v := ?_) (a' := ?_) #[T,T,T,T,T,T,T,T,T,T,T,T,T,T,T,T,T,T,T,T,T,F,F,F,F,F,F,F,F,F,F,F,F,F,F,F,F,F] rfl rfl (any_of HT_.out (by kernel_rfl)) (fun _ _ _ h => h) (Or.inl ⟨by rfl, ?_⟩) ?_ ?_
         rotate_left
         ·intro w'
          go_simp
          with_reducible rfl
         rotate_left
         ·simp only [Act.put, sA, sB, sC, i64_w, i32_w]
          rfl
         refine pure_ (i := 21) (N := some 56) (v := ?_) (a' := ?_) #[T,T,T,T,T,T,T,T,T,T,T,T,T,T,T,T,T,T,T,T,T,T,F,F,F,F,F,F,F,F,F,F,F,F,F,F,F,F] rfl rfl (any_of HT_.out (by kernel_rfl)) (fun _ _ _ h => h) (Or.inl ⟨by rfl, ?_⟩) ?_ ?_
         rotate_left
         ·intro w'
          go_simp
          with_reducible rfl
         rotate_left
         ·simp only [Act.put, sA, sB, sC, i64_w, i32_w]
          rfl
         refine pure_ (i := 22) (N := some 57) (v := ?_) (a' := ?_) #[T,T,T,T,T,T,T,T,T,T,T,T,T,T,T,T,T,T,T,T,T,T,T,F,F,F,F,F,F,F,F,F,F,F,F,F,F,F] rfl rfl (any_of HT_.out (by kernel_rfl)) (fun _ _ _ h => h) (Or.inl ⟨by rfl, ?_⟩) ?_ ?_
         rotate_left
         ·intro w'
          go_simp
          with_reducible rfl
         rotate_left
         ·simp only [Act.put, sA, sB, sC, i64_w, i32_w]
          rfl
         refine pure_ (i := 23) (N := some 58) (v := ?_) (a' := ?_) #[T,T,T,T,T,T,T,T,T,T,T,T,T,T,T,T,T,T,T,T,T,T,T,T,F,F,F,F,F,F,F,F,F,F,F,F,F,F] rfl rfl (any_of HT_.out (by kernel_rfl)) (fun _ _ _ h => h) (Or.inl ⟨by rfl, ?_⟩) ?_ ?_
         rotate_left
         ·intro w'
          go_simp
          with_reducible rfl
         rotate_left
         ·simp only [Act.put, sA, sB, sC, i64_w, i32_w]
          rfl
         refine pure_ (i := 25) (N := some 60) (v := ?_) (a' := ?_) #[T,T,T,T,T,T,T,T,T,T,T,T,T,T,T,T,T,T,T,T,T,T,T,T,F,T,F,F,F,F,F,F,F,F,F,F,F,F] rfl rfl (any_of HT_.out (by kernel_rfl)) (fun _ _ _ h => h) (Or.inl ⟨by rfl, ?_⟩) ?_ ?_
         rotate_left
         ·intro w'
          go_simp
          with_reducible rfl
         rotate_left
         ·simp only [Act.put, sA, sB, sC, i64_w, i32_w]
          rfl
         refine pure_ (i := 26) (N := some 61) (v := ?_) (a' := ?_) #[T,T,T,T,T,T,T,T,T,T,T,T,T,T,T,T,T,T,T,T,T,T,T,T,F,T,T,F,F,F,F,F,F,F,F,F,F,F] rfl rfl (any_of HT_.out (by kernel_rfl)) (fun _ _ _ h => h) (Or.inl ⟨by rfl, ?_⟩) ?_ ?_
         rotate_left
         ·intro w'
          go_simp
          with_reducible rfl
         rotate_left
         ·simp only [Act.put, sA, sB, sC, i64_w, i32_w]
          rfl
         refine take_ (i := 24) (N := some 59) (v := ?_) (a' := ?_) #[T,T,T,T,T,T,T,T,T,T,T,T,T,T,T,T,T,T,T,T,T,T,T,T,T,T,T,F,F,F,F,F,F,F,F,F,F,F] rfl rfl (take_ofW HT_.out HW_.out (by kernel_rfl)) (fun _ _ _ h => h) (Or.inl ⟨by rfl, ?_⟩) hHeld ?_ ?_
         rotate_left
         ·rintro w' ⟨s0, s1, s2, s3, s4, s5, s6, s7, s8, s9, s10, s11, s12, s13, s14, s15, s16, s17, s18, s19, s20, s21, s22, s23, s24⟩
          go_simp
          with_reducible rfl
         rotate_left
         ·simp only [Act.put, sA, sB, sC, i64_w, i32_w]
          rfl
         refine take_ (i := 27) (N := some 62) (v := ?_) (a' := ?_) #[T,T,T,T,T,T,T,T,T,T,T,T,T,T,T,T,T,T,T,T,T,T,T,T,T,T,T,T,F,F,F,F,F,F,F,F,F,F] rfl rfl (take_ofW HT_.out HW_.out (by kernel_rfl)) (fun _ _ _ h => h) (Or.inl ⟨by rfl, ?_⟩) hHeld ?_ ?_
         rotate_left
         ·rintro w' ⟨s0, s1, s2, s3, s4, s5, s6, s7, s8, s9, s10, s11, s12, s13, s14, s15, s16, s17, s18, s19, s20, s21, s22, s23, s24⟩
          go_simp
          with_reducible rfl
         rotate_left
         ·simp only [Act.put, sA, sB, sC, i64_w, i32_w]
          rfl
         refine pure_ (i := 28) (N := some 63) (v := ?_) (a' := ?_) #[T,T,T,T,T,T,T,T,T,T,T,T,T,T,T,T,T,T,T,T,T,T,T,T,T,T,T,T,T,F,F,F,F,F,F,F,F,F] rfl rfl (any_of HT_.out (by kernel_rfl)) (fun _ _ _ h => h) (Or.inl ⟨by rfl, ?_⟩) ?_ ?_
         rotate_left
         ·intro w'
          go_simp
          with_reducible rfl
         rotate_left
         ·simp only [Act.put, sA, sB, sC, i64_w, i32_w]
          rfl
         refine pure_ (i := 29) (N := some 64) (v := ?_) (a' := ?_) #[T,T,T,T,T,T,T,T,T,T,T,T,T,T,T,T,T,T,T,T,T,T,T,T,T,T,T,T,T,T,F,F,F,F,F,F,F,F] rfl rfl (any_of HT_.out (by kernel_rfl)) (fun _ _ _ h => h) (Or.inl ⟨by rfl, ?_⟩) ?_ ?_
         rotate_left
         ·intro w'
          go_simp
          with_reducible rfl
         rotate_left
         ·simp only [Act.put, sA, sB, sC, i64_w, i32_w]
          rfl
         refine pure_ (i := 30) (N := some 65) (v := ?_) (a' := ?_) #[T,T,T,T,T,T,T,T,T,T,T,T,T,T,T,T,T,T,T,T,T,T,T,T,T,T,T,T,T,T,T,F,F,F,F,F,F,F] rfl rfl (any_of HT_.out (by kernel_rfl)) (fun _ _ _ h => h) (Or.inl ⟨by rfl, ?_⟩) ?_ ?_
         rotate_left
         ·intro w'
          go_simp
          with_reducible rfl
         rotate_left
         ·simp only [Act.put, sA, sB, sC, i64_w, i32_w]
          rfl
         refine take_ (i := 31) (N := some 66) (v := ?_) (a' := ?_) #[T,T,T,T,T,T,T,T,T,T,T,T,T,T,T,T,T,T,T,T,T,T,T,T,T,T,T,T,T,T,T,T,F,F,F,F,F,F] rfl rfl (take_ofW HT_.out HW_.out (by kernel_rfl)) (fun _ _ _ h => h) (Or.inl ⟨by rfl, ?_⟩) hHeld ?_ ?_
         rotate_left
         ·rintro w' ⟨s0, s1, s2, s3, s4, s5, s6, s7, s8, s9, s10, s11, s12, s13, s14, s15, s16, s17, s18, s19, s20, s21, s22, s23, s24⟩
          go_simp
          with_reducible rfl
         rotate_left
         ·simp only [Act.put, sA, sB, sC, i64_w, i32_w]
          rfl
         refine take_ (i := 33) (N := some 68) (v := ?_) (a' := ?_) #[T,T,T,T,T,T,T,T,T,T,T,T,T,T,T,T,T,T,T,T,T,T,T,T,T,T,T,T,T,T,T,T,F,T,F,F,F,F] rfl rfl (take_ofW HT_.out HW_.out (by kernel_rfl)) (fun _ _ _ h => h) (Or.inl ⟨by rfl, ?_⟩) hHeld ?_ ?_
         rotate_left
         ·rintro w' ⟨s0, s1, s2, s3, s4, s5, s6, s7, s8, s9, s10, s11, s12, s13, s14, s15, s16, s17, s18, s19, s20, s21, s22, s23, s24⟩
          go_simp
          with_reducible rfl
         rotate_left
         ·simp only [Act.put, sA, sB, sC, i64_w, i32_w]
          rfl
         refine one_ (i := 32) (N := some 67) #[T,T,T,T,T,T,T,T,T,T,T,T,T,T,T,T,T,T,T,T,T,T,T,T,T,T,T,T,T,T,T,T,T,T,F,F,F,F] rfl rfl (one_of HT_.out (by kernel_rfl)) (by decide) (fun K hK => ?_)
         refine goes_ Try.func16 (by kernel_rfl) rfl #[.agg #[.int .u32 a0_0, .int .i32 a0_1, .int .i32 a0_2, .int .i32 a0_3, .int .i32 a0_4, .int .i32 a0_5, .int .i32 a0_6, .int .i32 a0_7, .int .i32 a0_8, .int .i32 a0_9]] (by rfl) rfl rfl (by (try simp only [List.map_toArray, List.map_cons, List.map_nil]); first | done | rfl | (simp only [List.length_drop, List.length_take]; rfl)) ?_
         with_reducible refine (billiardref08_Of.calls a0_0 a0_1 a0_2 a0_3 a0_4 a0_5 a0_6 a0_7 a0_8 a0_9 t443 t444 t445 t446 _ A24.out).mono ?_
         rintro e w39 ⟨rfl, hb⟩
         refine ⟨_, rfl, ?_⟩
         have n0_ := aM (bB (by (with_reducible repeat first | apply bN | apply bD | apply bA); exact BK430.out) hb)
         have n1_ := aM (bB (by (with_reducible repeat first | apply bN | apply bD | apply bA); exact BK431.out) hb)
         have n2_ := aM (bB (by (with_reducible repeat first | apply bN | apply bD | apply bA); exact BK441.out) hb)
         have n3_ := aM (lT (by repeat (first | (with_reducible first | exact HB.out | apply lA | apply lN | apply lD | refine lS ?_ GE430.out | refine lS ?_ GE431.out | refine lS ?_ GE441.out) | exact HB.out)) hb)
         clear BK430
         clear BK431
         clear BK441
         clear HB
         have BK430 := n0_
         have BK431 := n1_
         have BK441 := n2_
         have HB := n3_
         clear n0_ n1_ n2_ n3_
         (try clear hb)
         (try clear hb2)
         (try clear hk)
         (try clear hi)
         refine hK.out _ _ ⟨(bC BK441.out 0).trans rfl, (bC BK441.out 1).trans rfl, (bC BK441.out 2).trans rfl, (bC BK441.out 3).trans rfl, (bC BK441.out 4).trans rfl, (bC BK430.out 0).trans rfl, (bC BK430.out 1).trans rfl, (bC BK430.out 2).trans rfl, (bC BK430.out 3).trans rfl, (bC BK430.out 4).trans rfl, (bC BK430.out 5).trans rfl, (bC BK430.out 6).trans rfl, (bC BK430.out 7).trans rfl, (bC BK430.out 8).trans rfl, (bC BK430.out 9).trans rfl, (bC BK431.out 0).trans rfl, (bC BK431.out 1).trans rfl, (bC BK431.out 2).trans rfl, (bC BK431.out 3).trans rfl, (bC BK431.out 4).trans rfl, (bC BK431.out 5).trans rfl, (bC BK431.out 6).trans rfl, (bC BK431.out 7).trans rfl, (bC BK431.out 8).trans rfl, (bC BK431.out 9).trans rfl⟩ (fun hHeld => ?_)
         clear hK K
         refine norm_ (a' := ?_) ?_ ?_
         rotate_left
         ·show Act.put _ (some 67) _ = _
          simp only [Act.put, sA, sB, sC, i64_w, i32_w]
          rfl
         refine one_ (i := 34) (N := some 69) #[T,T,T,T,T,T,T,T,T,T,T,T,T,T,T,T,T,T,T,T,T,T,T,T,T,T,T,T,T,T,T,T,T,T,T,F,F,F] rfl rfl (one_of HT_.out (by kernel_rfl)) (by decide) (fun K hK => ?_)
         refine goes_ Try.func16 (by kernel_rfl) rfl #[.agg #[.int .u32 a1_0, .int .i32 a1_1, .int .i32 a1_2, .int .i32 a1_3, .int .i32 a1_4, .int .i32 a1_5, .int .i32 a1_6, .int .i32 a1_7, .int .i32 a1_8, .int .i32 a1_9]] (by rfl) rfl rfl (by (try simp only [List.map_toArray, List.map_cons, List.map_nil]); first | done | rfl | (simp only [List.length_drop, List.length_take]; rfl)) ?_
         with_reducible refine (billiardref08_Of.calls a1_0 a1_1 a1_2 a1_3 a1_4 a1_5 a1_6 a1_7 a1_8 a1_9 t447 t448 t449 t450 _ A25.out).mono ?_
         rintro e w40 ⟨rfl, hb⟩
         refine ⟨_, rfl, ?_⟩
         have n0_ := aM (bB (by (with_reducible repeat first | apply bN | apply bD | apply bA); exact BK430.out) hb)
         have n1_ := aM (bB (by (with_reducible repeat first | apply bN | apply bD | apply bA); exact BK431.out) hb)
         have n2_ := aM (bB (by (with_reducible repeat first | apply bN | apply bD | apply bA); exact BK441.out) hb)
         have n3_ := aM (lT (by repeat (first | (with_reducible first | exact HB.out | apply lA | apply lN | apply lD | refine lS ?_ GE430.out | refine lS ?_ GE431.out | refine lS ?_ GE441.out) | exact HB.out)) hb)
         clear BK430
         clear BK431
         clear BK441
         clear HB
         have BK430 := n0_
         have BK431 := n1_
         have BK441 := n2_
         have HB := n3_
         clear n0_ n1_ n2_ n3_
         (try clear hb)
         (try clear hb2)
         (try clear hk)
         (try clear hi)
         refine hK.out _ _ ⟨(bC BK441.out 0).trans rfl, (bC BK441.out 1).trans rfl, (bC BK441.out 2).trans rfl, (bC BK441.out 3).trans rfl, (bC BK441.out 4).trans rfl, (bC BK430.out 0).trans rfl, (bC BK430.out 1).trans rfl, (bC BK430.out 2).trans rfl, (bC BK430.out 3).trans rfl, (bC BK430.out 4).trans rfl, (bC BK430.out 5).trans rfl, (bC BK430.out 6).trans rfl, (bC BK430.out 7).trans rfl, (bC BK430.out 8).trans rfl, (bC BK430.out 9).trans rfl, (bC BK431.out 0).trans rfl, (bC BK431.out 1).trans rfl, (bC BK431.out 2).trans rfl, (bC BK431.out 3).trans rfl, (bC BK431.out 4).trans rfl, (bC BK431.out 5).trans rfl, (bC BK431.out 6).trans rfl, (bC BK431.out 7).trans rfl, (bC BK431.out 8).trans rfl, (bC BK431.out 9).trans rfl⟩ (fun hHeld => ?_)
         clear hK K
         refine norm_ (a' := ?_) ?_ ?_
         rotate_left
         ·show Act.put _ (some 69) _ = _
          simp only [Act.put, sA, sB, sC, i64_w, i32_w]
          rfl
         refine one_ (i := 35) (N := some 70) #[T,T,T,T,T,T,T,T,T,T,T,T,T,T,T,T,T,T,T,T,T,T,T,T,T,T,T,T,T,T,T,T,T,T,T,T,F,F] rfl rfl (one_of HT_.out (by kernel_rfl)) (by decide) (fun K hK => ?_)
         refine goes_ Try.func15 (by kernel_rfl) rfl #[.agg #[.int .i32 t443, .int .i32 t444, .int .i32 t445, .int .i32 t446], .agg #[.int .i32 t447, .int .i32 t448, .int .i32 t449, .int .i32 t450]] (by rfl) rfl rfl (by (try simp only [List.map_toArray, List.map_cons, List.map_nil]); first | done | rfl | (simp only [List.length_drop, List.length_take]; rfl)) ?_
         with_reducible refine (billiardref08_Overlap.calls t443 t444 t445 t446 t447 t448 t449 t450 t451 _ A26.out).mono ?_
         rintro e w41 ⟨rfl, hb⟩
         refine ⟨_, rfl, ?_⟩
         have n0_ := aM (bB (by (with_reducible repeat first | apply bN | apply bD | apply bA); exact BK430.out) hb)
         have n1_ := aM (bB (by (with_reducible repeat first | apply bN | apply bD | apply bA); exact BK431.out) hb)
         have n2_ := aM (bB (by (with_reducible repeat first | apply bN | apply bD | apply bA); exact BK441.out) hb)
         have n3_ := aM (lT (by repeat (first | (with_reducible first | exact HB.out | apply lA | apply lN | apply lD | refine lS ?_ GE430.out | refine lS ?_ GE431.out | refine lS ?_ GE441.out) | exact HB.out)) hb)
         clear BK430
         clear BK431
         clear BK441
         clear HB
         have BK430 := n0_
         have BK431 := n1_
         have BK441 := n2_
         have HB := n3_
         clear n0_ n1_ n2_ n3_
         (try clear hb)
         (try clear hb2)
         (try clear hk)
         (try clear hi)
         refine hK.out _ _ ⟨(bC BK441.out 0).trans rfl, (bC BK441.out 1).trans rfl, (bC BK441.out 2).trans rfl, (bC BK441.out 3).trans rfl, (bC BK441.out 4).trans rfl, (bC BK430.out 0).trans rfl, (bC BK430.out 1).trans rfl, (bC BK430.out 2).trans rfl, (bC BK430.out 3).trans rfl, (bC BK430.out 4).trans rfl, (bC BK430.out 5).trans rfl, (bC BK430.out 6).trans rfl, (bC BK430.out 7).trans rfl, (bC BK430.out 8).trans rfl, (bC BK430.out 9).trans rfl, (bC BK431.out 0).trans rfl, (bC BK431.out 1).trans rfl, (bC BK431.out 2).trans rfl, (bC BK431.out 3).trans rfl, (bC BK431.out 4).trans rfl, (bC BK431.out 5).trans rfl, (bC BK431.out 6).trans rfl, (bC BK431.out 7).trans rfl, (bC BK431.out 8).trans rfl, (bC BK431.out 9).trans rfl⟩ (fun hHeld => ?_)
         clear hK K
         refine norm_ (a' := ?_) ?_ ?_
         rotate_left
         ·show Act.put _ (some 70) _ = _
          simp only [Act.put, sA, sB, sC, i64_w, i32_w]
          rfl
         refine pure_ (i := 36) (N := some 71) (v := ?_) (a' := ?_) #[T,T,T,T,T,T,T,T,T,T,T,T,T,T,T,T,T,T,T,T,T,T,T,T,T,T,T,T,T,T,T,T,T,T,T,T,T,F] rfl rfl (any_of HT_.out (by kernel_rfl)) (fun _ _ _ h => h) (Or.inl ⟨by rfl, ?_⟩) ?_ ?_
         rotate_left
         ·intro w'
          go_simp
          with_reducible rfl
         rotate_left
         ·simp only [Act.put, sA, sB, sC, i64_w, i32_w]
          rfl
         refine pure_ (i := 37) (N := some 4) (v := ?_) (a' := ?_) #[T,T,T,T,T,T,T,T,T,T,T,T,T,T,T,T,T,T,T,T,T,T,T,T,T,T,T,T,T,T,T,T,T,T,T,T,T,T] rfl rfl (any_of HT_.out (by kernel_rfl)) (fun _ _ _ h => h) (Or.inl ⟨by rfl, ?_⟩) ?_ ?_
         rotate_left
         ·intro w'
          go_simp
          with_reducible rfl
         rotate_left
         ·simp only [Act.put, sA, sB, sC, i64_w, i32_w]
          rfl
         refine done_ (done_of HT_.out (by kernel_rfl)) ?_
         try go_wp2
         go_ret
         exact ⟨by first | rfl | (simp [errW_none, errW_some] <;> rfl) | (simp [*, errW_none, errW_some] <;> rfl), by repeat (first | (with_reducible first | exact HB.out | apply lA | apply lN | apply lD | refine lS ?_ GE430.out | refine lS ?_ GE431.out | refine lS ?_ GE441.out) | exact HB.out)⟩
        ·rw [if_neg c23] at H
         have c23b0 : decide (t435 < t436) = false := decide_eq_false c23
         clear c23
         exact absurd ((Option.some.inj H).trans HR.out) (by decide)
       ·rw [if_neg c22] at H
        have c22b0 : ((wrap64 (t439)) == (wrap64 (-t442))) = false := beq_eq_false_iff_ne.mpr c22
        have c22b1 : ((wrap64 (t439)) != (wrap64 (-t442))) = true := bne_iff_ne.mpr c22
        exact absurd ((Option.some.inj H).trans HR.out) (by decide)
      ·rw [if_neg c21] at H
       have c21b0 : decide (t439 ≤ (wrap32 (a0_1 + a1_1))) = false := decide_eq_false c21
       clear c21
       exact absurd ((Option.some.inj H).trans HR.out) (by decide)
     ·rw [if_neg c20] at H
      have c20b0 : decide (1 ≤ t439) = false := decide_eq_false c20
      clear c20
      exact absurd ((Option.some.inj H).trans HR.out) (by decide)
    ·replace c19 := Bool.eq_false_iff.mpr c19
     subst c19
     have H1 : (if t442 ≥ 0 then (some ((t435 == 0 && (t436 == 0)) && ((t437 == 0 && (t438 == 0)) && (t439 == 0)))) else (some false)) = some r := by rw [if_neg (show ¬ (false = true) by decide)] at H; exact H
     clear H
     have H := H1
     clear H1
     by_cases c42 : t442 ≥ 0
     ·rw [if_pos c42] at H
      have c42b0 : decide (0 ≤ t442) = true := decide_eq_true c42
      clear c42
      obtain rfl := Option.some.inj H
      have hnb43 := N0_.out
      have hnc43 := N1_.out
      have hcz44_0 : wc.cell? ⟨b430, 0, none⟩ = some (.int .u32 a0_0) := (bC BK430.out 0).trans rfl
      have hcz44_1 : wc.cell? ⟨b430, 1, none⟩ = some (.int .i32 a0_1) := (bC BK430.out 1).trans rfl
      have hcz44_2 : wc.cell? ⟨b430, 2, none⟩ = some (.int .i32 a0_2) := (bC BK430.out 2).trans rfl
      have hcz44_3 : wc.cell? ⟨b430, 3, none⟩ = some (.int .i32 a0_3) := (bC BK430.out 3).trans rfl
      have hcz44_4 : wc.cell? ⟨b430, 4, none⟩ = some (.int .i32 a0_4) := (bC BK430.out 4).trans rfl
      have hcz44_5 : wc.cell? ⟨b430, 5, none⟩ = some (.int .i32 a0_5) := (bC BK430.out 5).trans rfl
      have hcz44_6 : wc.cell? ⟨b430, 6, none⟩ = some (.int .i32 a0_6) := (bC BK430.out 6).trans rfl
      have hcz44_7 : wc.cell? ⟨b430, 7, none⟩ = some (.int .i32 a0_7) := (bC BK430.out 7).trans rfl
      have hcz44_8 : wc.cell? ⟨b430, 8, none⟩ = some (.int .i32 a0_8) := (bC BK430.out 8).trans rfl
      have hcz44_9 : wc.cell? ⟨b430, 9, none⟩ = some (.int .i32 a0_9) := (bC BK430.out 9).trans rfl
      have hfz44_0 := bF BK430.out 0
      have hfz44_1 := bF BK430.out 1
      have hfz44_2 := bF BK430.out 2
      have hfz44_3 := bF BK430.out 3
      have hfz44_4 := bF BK430.out 4
      have hfz44_5 := bF BK430.out 5
      have hfz44_6 := bF BK430.out 6
      have hfz44_7 := bF BK430.out 7
      have hfz44_8 := bF BK430.out 8
      have hfz44_9 := bF BK430.out 9
      have hcz45_0 : wc.cell? ⟨b431, 0, none⟩ = some (.int .u32 a1_0) := (bC BK431.out 0).trans rfl
      have hcz45_1 : wc.cell? ⟨b431, 1, none⟩ = some (.int .i32 a1_1) := (bC BK431.out 1).trans rfl
      have hcz45_2 : wc.cell? ⟨b431, 2, none⟩ = some (.int .i32 a1_2) := (bC BK431.out 2).trans rfl
      have hcz45_3 : wc.cell? ⟨b431, 3, none⟩ = some (.int .i32 a1_3) := (bC BK431.out 3).trans rfl
      have hcz45_4 : wc.cell? ⟨b431, 4, none⟩ = some (.int .i32 a1_4) := (bC BK431.out 4).trans rfl
      have hcz45_5 : wc.cell? ⟨b431, 5, none⟩ = some (.int .i32 a1_5) := (bC BK431.out 5).trans rfl
      have hcz45_6 : wc.cell? ⟨b431, 6, none⟩ = some (.int .i32 a1_6) := (bC BK431.out 6).trans rfl
      have hcz45_7 : wc.cell? ⟨b431, 7, none⟩ = some (.int .i32 a1_7) := (bC BK431.out 7).trans rfl
      have hcz45_8 : wc.cell? ⟨b431, 8, none⟩ = some (.int .i32 a1_8) := (bC BK431.out 8).trans rfl
      have hcz45_9 : wc.cell? ⟨b431, 9, none⟩ = some (.int .i32 a1_9) := (bC BK431.out 9).trans rfl
      have hfz45_0 := bF BK431.out 0
      have hfz45_1 := bF BK431.out 1
      have hfz45_2 := bF BK431.out 2
      have hfz45_3 := bF BK431.out 3
      have hfz45_4 := bF BK431.out 4
      have hfz45_5 := bF BK431.out 5
      have hfz45_6 := bF BK431.out 6
      have hfz45_7 := bF BK431.out 7
      have hfz45_8 := bF BK431.out 8
      have hfz45_9 := bF BK431.out 9
      go_wp2_with (first | ((with_reducible refine gate_callee (f := 10) rfl ?_); refine goesL_ (some 20) rfl rfl Try.func10 (by kernel_rfl) rfl #[.agg #[.int .u32 a0_0, .int .i32 a0_1, .int .i32 a0_2, .int .i32 a0_3, .int .i32 a0_4, .int .i32 a0_5, .int .i32 a0_6, .int .i32 a0_7, .int .i32 a0_8, .int .i32 a0_9], .agg #[.int .u32 a1_0, .int .i32 a1_1, .int .i32 a1_2, .int .i32 a1_3, .int .i32 a1_4, .int .i32 a1_5, .int .i32 a1_6, .int .i32 a1_7, .int .i32 a1_8, .int .i32 a1_9]] rfl (by (try simp only [List.map_toArray, List.map_cons, List.map_nil]); first | done | rfl | (simp only [List.length_drop, List.length_take]; rfl)) ?_; (with_reducible refine (contact_Of.calls kj2 a0_0 a0_1 a0_2 a0_3 a0_4 a0_5 a0_6 a0_7 a0_8 a0_9 a1_0 a1_1 a1_2 a1_3 a1_4 a1_5 a1_6 a1_7 a1_8 a1_9 t435 t436 t437 t438 t439 false _ A17.out).mono ?_); rintro e w46 ⟨rfl, hb⟩; refine ⟨_, rfl, ?_⟩; have n0_ := aM (bB (by (with_reducible repeat first | apply bN | apply bD | apply bA); exact BK430.out) hb); have n1_ := aM (bB (by (with_reducible repeat first | apply bN | apply bD | apply bA); exact BK431.out) hb); have n2_ := aM (lT (by repeat (first | (with_reducible first | exact HB.out | apply lA | apply lN | apply lD | refine lS ?_ GE430.out | refine lS ?_ GE431.out) | exact HB.out)) hb); clear BK430; clear BK431; clear HB; have BK430 := n0_; have BK431 := n1_; have HB := n2_; clear n0_ n1_ n2_; (try clear hb); (try clear hb2); (try clear hk); (try clear hi)) | ((with_reducible refine gate_dst (N := 5) rfl ?_); refine box_event ?hg (N := 5) ?hd (cs := #[.int .u32 0, .int .u32 0, .int .i32 0, .int .i32 0, .int .i32 0]) (t := 32) ?hr ?_; (case hd => rfl); (case hg => rfl); (case hr => first | (go_simp; done) | (go_simp; rfl)); intro b441 hg w47 hbox hb; have n0_ := aM (bB (by (with_reducible repeat first | apply bN | apply bD | apply bA); exact BK430.out) hb); have n1_ := aM (bB (by (with_reducible repeat first | apply bN | apply bD | apply bA); exact BK431.out) hb); have n2_ := aM (lT (by repeat (first | (with_reducible first | exact HB.out | apply lA | apply lN | apply lD | refine lS ?_ GE430.out | refine lS ?_ GE431.out) | exact HB.out)) hb); have n3_ := aM (hbox); have n4_ := aM ((by rw [hg]; exact (lZ (by repeat (first | (with_reducible first | exact HB.out | apply lA | apply lN | apply lD | refine lS ?_ GE430.out | refine lS ?_ GE431.out) | exact HB.out))) : w.heap.size ≤ b441)); have n5_ := aM ((by rw [hg]; exact (lZ (by repeat (first | (with_reducible first | exact HB.out | apply lA | apply lN | apply lD | refine lS ?_ GE430.out | refine lS ?_ GE431.out) | exact HB.out))) : w.heap.size ≤ b441)); have n6_ := aM ((by rw [hg]; exact Nat.ne_of_lt (bL (g := b430) (by (with_reducible repeat first | apply bN | apply bD | apply bA); exact BK430.out)) : b430 ≠ b441)); have n7_ := aM ((by rw [hg]; exact Nat.ne_of_gt (bL (g := b430) (by (with_reducible repeat first | apply bN | apply bD | apply bA); exact BK430.out)) : b441 ≠ b430)); have n8_ := aM ((by rw [hg]; exact Nat.ne_of_lt (bL (g := b431) (by (with_reducible repeat first | apply bN | apply bD | apply bA); exact BK431.out)) : b431 ≠ b441)); have n9_ := aM ((by rw [hg]; exact Nat.ne_of_gt (bL (g := b431) (by (with_reducible repeat first | apply bN | apply bD | apply bA); exact BK431.out)) : b441 ≠ b431)); clear BK430; clear BK431; clear HB; have BK430 := n0_; have BK431 := n1_; have HB := n2_; have BK441 := n3_; have GW441 := n4_; have GE441 := n5_; have N2_ := n6_; have N3_ := n7_; have N4_ := n8_; have N5_ := n9_; clear n0_ n1_ n2_ n3_ n4_ n5_ n6_ n7_ n8_ n9_; clear hb hbox hg; have hnb48 := N3_.out; have hnc48 := N2_.out; have hnb49 := N5_.out; have hnc49 := N4_.out; have hcz50_0 : w47.cell? ⟨b441, 0, none⟩ = some (.int .u32 0) := (bC BK441.out 0).trans rfl; have hcz50_1 : w47.cell? ⟨b441, 1, none⟩ = some (.int .u32 0) := (bC BK441.out 1).trans rfl; have hcz50_2 : w47.cell? ⟨b441, 2, none⟩ = some (.int .i32 0) := (bC BK441.out 2).trans rfl; have hcz50_3 : w47.cell? ⟨b441, 3, none⟩ = some (.int .i32 0) := (bC BK441.out 3).trans rfl; have hcz50_4 : w47.cell? ⟨b441, 4, none⟩ = some (.int .i32 0) := (bC BK441.out 4).trans rfl; have hfz50_0 := bF BK441.out 0; have hfz50_1 := bF BK441.out 1; have hfz50_2 := bF BK441.out 2; have hfz50_3 := bF BK441.out 3; have hfz50_4 := bF BK441.out 4; have hcz51_0 : w47.cell? ⟨b430, 0, none⟩ = some (.int .u32 a0_0) := (bC BK430.out 0).trans rfl; have hcz51_1 : w47.cell? ⟨b430, 1, none⟩ = some (.int .i32 a0_1) := (bC BK430.out 1).trans rfl; have hcz51_2 : w47.cell? ⟨b430, 2, none⟩ = some (.int .i32 a0_2) := (bC BK430.out 2).trans rfl; have hcz51_3 : w47.cell? ⟨b430, 3, none⟩ = some (.int .i32 a0_3) := (bC BK430.out 3).trans rfl; have hcz51_4 : w47.cell? ⟨b430, 4, none⟩ = some (.int .i32 a0_4) := (bC BK430.out 4).trans rfl; have hcz51_5 : w47.cell? ⟨b430, 5, none⟩ = some (.int .i32 a0_5) := (bC BK430.out 5).trans rfl; have hcz51_6 : w47.cell? ⟨b430, 6, none⟩ = some (.int .i32 a0_6) := (bC BK430.out 6).trans rfl; have hcz51_7 : w47.cell? ⟨b430, 7, none⟩ = some (.int .i32 a0_7) := (bC BK430.out 7).trans rfl; have hcz51_8 : w47.cell? ⟨b430, 8, none⟩ = some (.int .i32 a0_8) := (bC BK430.out 8).trans rfl; have hcz51_9 : w47.cell? ⟨b430, 9, none⟩ = some (.int .i32 a0_9) := (bC BK430.out 9).trans rfl; have hfz51_0 := bF BK430.out 0; have hfz51_1 := bF BK430.out 1; have hfz51_2 := bF BK430.out 2; have hfz51_3 := bF BK430.out 3; have hfz51_4 := bF BK430.out 4; have hfz51_5 := bF BK430.out 5; have hfz51_6 := bF BK430.out 6; have hfz51_7 := bF BK430.out 7; have hfz51_8 := bF BK430.out 8; have hfz51_9 := bF BK430.out 9; have hcz52_0 : w47.cell? ⟨b431, 0, none⟩ = some (.int .u32 a1_0) := (bC BK431.out 0).trans rfl; have hcz52_1 : w47.cell? ⟨b431, 1, none⟩ = some (.int .i32 a1_1) := (bC BK431.out 1).trans rfl; have hcz52_2 : w47.cell? ⟨b431, 2, none⟩ = some (.int .i32 a1_2) := (bC BK431.out 2).trans rfl; have hcz52_3 : w47.cell? ⟨b431, 3, none⟩ = some (.int .i32 a1_3) := (bC BK431.out 3).trans rfl; have hcz52_4 : w47.cell? ⟨b431, 4, none⟩ = some (.int .i32 a1_4) := (bC BK431.out 4).trans rfl; have hcz52_5 : w47.cell? ⟨b431, 5, none⟩ = some (.int .i32 a1_5) := (bC BK431.out 5).trans rfl; have hcz52_6 : w47.cell? ⟨b431, 6, none⟩ = some (.int .i32 a1_6) := (bC BK431.out 6).trans rfl; have hcz52_7 : w47.cell? ⟨b431, 7, none⟩ = some (.int .i32 a1_7) := (bC BK431.out 7).trans rfl; have hcz52_8 : w47.cell? ⟨b431, 8, none⟩ = some (.int .i32 a1_8) := (bC BK431.out 8).trans rfl; have hcz52_9 : w47.cell? ⟨b431, 9, none⟩ = some (.int .i32 a1_9) := (bC BK431.out 9).trans rfl; have hfz52_0 := bF BK431.out 0; have hfz52_1 := bF BK431.out 1; have hfz52_2 := bF BK431.out 2; have hfz52_3 := bF BK431.out 3; have hfz52_4 := bF BK431.out 4; have hfz52_5 := bF BK431.out 5; have hfz52_6 := bF BK431.out 6; have hfz52_7 := bF BK431.out 7; have hfz52_8 := bF BK431.out 8; have hfz52_9 := bF BK431.out 9) | ((with_reducible refine gate_callee (f := 13) rfl ?_); refine goesL_ (some 25) rfl rfl Try.func13 (by kernel_rfl) rfl #[.agg #[.int .u32 a0_0, .int .i32 a0_1, .int .i32 a0_2, .int .i32 a0_3, .int .i32 a0_4, .int .i32 a0_5, .int .i32 a0_6, .int .i32 a0_7, .int .i32 a0_8, .int .i32 a0_9], .agg #[.int .u32 a1_0, .int .i32 a1_1, .int .i32 a1_2, .int .i32 a1_3, .int .i32 a1_4, .int .i32 a1_5, .int .i32 a1_6, .int .i32 a1_7, .int .i32 a1_8, .int .i32 a1_9]] rfl (by (try simp only [List.map_toArray, List.map_cons, List.map_nil]); first | done | rfl | (simp only [List.length_drop, List.length_take]; rfl)) ?_; (with_reducible refine (contact_Gap.calls kj2 a0_0 a0_1 a0_2 a0_3 a0_4 a0_5 a0_6 a0_7 a0_8 a0_9 a1_0 a1_1 a1_2 a1_3 a1_4 a1_5 a1_6 a1_7 a1_8 a1_9 t442 _ A18.out).mono ?_); rintro e w53 ⟨rfl, hb⟩; refine ⟨_, rfl, ?_⟩; have n0_ := aM (bB (g := b430) (o := .cells #[.int .u32 a0_0, .int .i32 a0_1, .int .i32 a0_2, .int .i32 a0_3, .int .i32 a0_4, .int .i32 a0_5, .int .i32 a0_6, .int .i32 a0_7, .int .i32 a0_8, .int .i32 a0_9] 26 (0, 0)) (by (with_reducible repeat first | apply bN | apply bD | apply bA); refine bR ?_ N2_.out _; (with_reducible repeat first | apply bN | apply bD | apply bA); refine bR ?_ N2_.out _; (with_reducible repeat first | apply bN | apply bD | apply bA); refine bR ?_ N2_.out _; (with_reducible repeat first | apply bN | apply bD | apply bA); refine bR ?_ N2_.out _; (with_reducible repeat first | apply bN | apply bD | apply bA); refine bR ?_ N2_.out _; (with_reducible repeat first | apply bN | apply bD | apply bA); exact BK430.out) hb); have n1_ := aM (bB (g := b431) (o := .cells #[.int .u32 a1_0, .int .i32 a1_1, .int .i32 a1_2, .int .i32 a1_3, .int .i32 a1_4, .int .i32 a1_5, .int .i32 a1_6, .int .i32 a1_7, .int .i32 a1_8, .int .i32 a1_9] 26 (0, 0)) (by (with_reducible repeat first | apply bN | apply bD | apply bA); refine bR ?_ N4_.out _; (with_reducible repeat first | apply bN | apply bD | apply bA); refine bR ?_ N4_.out _; (with_reducible repeat first | apply bN | apply bD | apply bA); refine bR ?_ N4_.out _; (with_reducible repeat first | apply bN | apply bD | apply bA); refine bR ?_ N4_.out _; (with_reducible repeat first | apply bN | apply bD | apply bA); refine bR ?_ N4_.out _; (with_reducible repeat first | apply bN | apply bD | apply bA); exact BK431.out) hb); have n2_ := aM (bB (g := b441) (o := .cells #[.int .u32 t435, .int .u32 t436, .int .i32 t437, .int .i32 t438, .int .i32 t439] 32 (0, 0)) (by (with_reducible repeat first | apply bN | apply bD | apply bA); refine bP (cs := #[.int .u32 t435, .int .u32 t436, .int .i32 t437, .int .i32 t438, .int .i32 0]) ?_ 4 _ rfl; (with_reducible repeat first | apply bN | apply bD | apply bA); refine bP (cs := #[.int .u32 t435, .int .u32 t436, .int .i32 t437, .int .i32 0, .int .i32 0]) ?_ 3 _ rfl; (with_reducible repeat first | apply bN | apply bD | apply bA); refine bP (cs := #[.int .u32 t435, .int .u32 t436, .int .i32 0, .int .i32 0, .int .i32 0]) ?_ 2 _ rfl; (with_reducible repeat first | apply bN | apply bD | apply bA); refine bP (cs := #[.int .u32 t435, .int .u32 0, .int .i32 0, .int .i32 0, .int .i32 0]) ?_ 1 _ rfl; (with_reducible repeat first | apply bN | apply bD | apply bA); refine bP (cs := #[.int .u32 0, .int .u32 0, .int .i32 0, .int .i32 0, .int .i32 0]) ?_ 0 _ rfl; (with_reducible repeat first | apply bN | apply bD | apply bA); exact BK441.out) hb); have n3_ := aM (lT (by repeat (first | (with_reducible first | exact HB.out | apply lA | apply lN | apply lD | refine lS ?_ GE430.out | refine lS ?_ GE431.out | refine lS ?_ GE441.out) | exact HB.out)) hb); clear BK430; clear BK431; clear BK441; clear HB; have BK430 := n0_; have BK431 := n1_; have BK441 := n2_; have HB := n3_; clear n0_ n1_ n2_ n3_; (try clear hb); (try clear hb2); (try clear hk); (try clear hi); have hcz54_0 : w53.cell? ⟨b441, 0, none⟩ = some (.int .u32 t435) := (bC BK441.out 0).trans rfl; have hcz54_1 : w53.cell? ⟨b441, 1, none⟩ = some (.int .u32 t436) := (bC BK441.out 1).trans rfl; have hcz54_2 : w53.cell? ⟨b441, 2, none⟩ = some (.int .i32 t437) := (bC BK441.out 2).trans rfl; have hcz54_3 : w53.cell? ⟨b441, 3, none⟩ = some (.int .i32 t438) := (bC BK441.out 3).trans rfl; have hcz54_4 : w53.cell? ⟨b441, 4, none⟩ = some (.int .i32 t439) := (bC BK441.out 4).trans rfl; have hfz54_0 := bF BK441.out 0; have hfz54_1 := bF BK441.out 1; have hfz54_2 := bF BK441.out 2; have hfz54_3 := bF BK441.out 3; have hfz54_4 := bF BK441.out 4))
      go_ret
      exact ⟨by first | rfl | (simp [errW_none, errW_some] <;> rfl) | (simp [*, errW_none, errW_some] <;> rfl), by repeat (first | (with_reducible first | exact HB.out | apply lA | apply lN | apply lD | refine lS ?_ GE430.out | refine lS ?_ GE431.out | refine lS ?_ GE441.out) | exact HB.out)⟩
     ·rw [if_neg c42] at H
      have c42b0 : decide (0 ≤ t442) = false := decide_eq_false c42
      clear c42
      exact absurd ((Option.some.inj H).trans HR.out) (by decide)

/-- THE ONE PURE STATEMENT of billiardlaw14_ContactDepth: yours. -/
def billiardlaw14_ContactDepth.Pure : Prop := ∀ (a0_0 : Int) (a0_1 : Int) (a0_2 : Int) (a0_3 : Int) (a0_4 : Int) (a0_5 : Int) (a0_6 : Int) (a0_7 : Int) (a0_8 : Int) (a0_9 : Int) (a1_0 : Int) (a1_1 : Int) (a1_2 : Int) (a1_3 : Int) (a1_4 : Int) (a1_5 : Int) (a1_6 : Int) (a1_7 : Int) (a1_8 : Int) (a1_9 : Int), (Lit.int .u32 a0_0).wf = true → (Lit.int .i32 a0_1).wf = true → (Lit.int .i32 a0_2).wf = true → (Lit.int .i32 a0_3).wf = true → (Lit.int .i32 a0_4).wf = true → (Lit.int .i32 a0_5).wf = true → (Lit.int .i32 a0_6).wf = true → (Lit.int .i32 a0_7).wf = true → (Lit.int .i32 a0_8).wf = true → (Lit.int .i32 a0_9).wf = true → (Lit.int .u32 a1_0).wf = true → (Lit.int .i32 a1_1).wf = true → (Lit.int .i32 a1_2).wf = true → (Lit.int .i32 a1_3).wf = true → (Lit.int .i32 a1_4).wf = true → (Lit.int .i32 a1_5).wf = true → (Lit.int .i32 a1_6).wf = true → (Lit.int .i32 a1_7).wf = true → (Lit.int .i32 a1_8).wf = true → (Lit.int .i32 a1_9).wf = true → ∃ k, billiardlaw14_ContactDepth.f k a0_0 a0_1 a0_2 a0_3 a0_4 a0_5 a0_6 a0_7 a0_8 a0_9 a1_0 a1_1 a1_2 a1_3 a1_4 a1_5 a1_6 a1_7 a1_8 a1_9 = some true
theorem billiardlaw14_ContactDepth.walk (P : billiardlaw14_ContactDepth.Pure) (a0_0 : Int) (a0_1 : Int) (a0_2 : Int) (a0_3 : Int) (a0_4 : Int) (a0_5 : Int) (a0_6 : Int) (a0_7 : Int) (a0_8 : Int) (a0_9 : Int) (a1_0 : Int) (a1_1 : Int) (a1_2 : Int) (a1_3 : Int) (a1_4 : Int) (a1_5 : Int) (a1_6 : Int) (a1_7 : Int) (a1_8 : Int) (a1_9 : Int) (w : World) (w0_0 : (Lit.int .u32 a0_0).wf = true) (w0_1 : (Lit.int .i32 a0_1).wf = true) (w0_2 : (Lit.int .i32 a0_2).wf = true) (w0_3 : (Lit.int .i32 a0_3).wf = true) (w0_4 : (Lit.int .i32 a0_4).wf = true) (w0_5 : (Lit.int .i32 a0_5).wf = true) (w0_6 : (Lit.int .i32 a0_6).wf = true) (w0_7 : (Lit.int .i32 a0_7).wf = true) (w0_8 : (Lit.int .i32 a0_8).wf = true) (w0_9 : (Lit.int .i32 a0_9).wf = true) (w1_0 : (Lit.int .u32 a1_0).wf = true) (w1_1 : (Lit.int .i32 a1_1).wf = true) (w1_2 : (Lit.int .i32 a1_2).wf = true) (w1_3 : (Lit.int .i32 a1_3).wf = true) (w1_4 : (Lit.int .i32 a1_4).wf = true) (w1_5 : (Lit.int .i32 a1_5).wf = true) (w1_6 : (Lit.int .i32 a1_6).wf = true) (w1_7 : (Lit.int .i32 a1_7).wf = true) (w1_8 : (Lit.int .i32 a1_8).wf = true) (w1_9 : (Lit.int .i32 a1_9).wf = true) :
  Calls Try.prog 4 #[.agg #[.int .u32 a0_0, .int .i32 a0_1, .int .i32 a0_2, .int .i32 a0_3, .int .i32 a0_4, .int .i32 a0_5, .int .i32 a0_6, .int .i32 a0_7, .int .i32 a0_8, .int .i32 a0_9], .agg #[.int .u32 a1_0, .int .i32 a1_1, .int .i32 a1_2, .int .i32 a1_3, .int .i32 a1_4, .int .i32 a1_5, .int .i32 a1_6, .int .i32 a1_7, .int .i32 a1_8, .int .i32 a1_9]] w fun e w' => e = .returned (.bool true) ∧ Below w.heap.size w w' := by
 obtain ⟨k, h⟩ := P a0_0 a0_1 a0_2 a0_3 a0_4 a0_5 a0_6 a0_7 a0_8 a0_9 a1_0 a1_1 a1_2 a1_3 a1_4 a1_5 a1_6 a1_7 a1_8 a1_9 w0_0 w0_1 w0_2 w0_3 w0_4 w0_5 w0_6 w0_7 w0_8 w0_9 w1_0 w1_1 w1_2 w1_3 w1_4 w1_5 w1_6 w1_7 w1_8 w1_9
 refine (billiardlaw14_ContactDepth.calls k a0_0 a0_1 a0_2 a0_3 a0_4 a0_5 a0_6 a0_7 a0_8 a0_9 a1_0 a1_1 a1_2 a1_3 a1_4 a1_5 a1_6 a1_7 a1_8 a1_9 true w h rfl).mono ?_
 rintro e w' ⟨rfl, hd⟩
 exact ⟨rfl, hd⟩

end Go.Proofs.Ytahbfafnodeimaa.Q
