-- PRINTED by print.py (a twelfth state) out of the translation. Not trusted: Lean checks it.
import Derived.Test.YtahbfafnodeimaaQ0
import Derived.Test.YtahbfafnodeimaaQE1
import Derived.Test.YtahbfafnodeimaaQbilliardlaw14
import Derived.Test.YtahbfafnodeimaaQbilliardref14
import Derived.Test.YtahbfafnodeimaaQcontacty1
namespace Go.Proofs.Ytahbfafnodeimaa.Q
open Go.RowKit Go.Proofs.YtahbfafnodeimaaW.PrintWords Go.Proofs.YtahbfafnodeimaaW.PrintLast Go.Proofs.YtahbfafnodeimaaW.PrintMore
open Go.Proofs.YtahbfafnodeimaaW.PrintWords renaming blk_drewN → bN, blk_drew → bD, blk_alloc → bA, blk_below → bB, blk_cell → bC, blk_frozen → bF, blk_far → bR, blk_lt → bL, blk_put → bP, below_alloc → lA, pw_below_drewN → lN, below_drew1 → lD, below_set → lS, below_step → lT, below_size → lZ, Aside0.mk → aM
open List renaming setIfInBounds_toArray → sA, set_cons_zero → sB, set_cons_succ → sC
open Bool renaming true → T, false → F
attribute [local go_sem] max2_int min2_int max_two min_two max_three min_three max_four min_four   -- for this text's walks alone
set_option linter.unusedVariables false
set_option linter.unusedSimpArgs false

attribute [local go_sem high] eqA32
/-! ### billiardlaw14_ContactMatchesReference: function 3 -/
def billiardlaw14_ContactMatchesReference.j0 : Nat → Bool → Int → Int → Int → Int → Int → Int → Int → Int → Int → Int → Int → Int → Int → Int → Int → Int → Int → Int → Int → Int → Option (Bool)
 | 0, _, _, _, _, _, _, _, _, _, _, _, _, _, _, _, _, _, _, _, _, _ => none
 | k + 1, x16, x400000, x400001, x400002, x400003, x400004, x400005, x400006, x400007, x400008, x400009, x401000, x401001, x401002, x401003, x401004, x401005, x401006, x401007, x401008, x401009 => if x16 = true then ((billiardlaw14_awake.f k).bind fun t403 => (some t403)) else ((contact_Of.f k x400000 x400001 x400002 x400003 x400004 x400005 x400006 x400007 x400008 x400009 x401000 x401001 x401002 x401003 x401004 x401005 x401006 x401007 x401008 x401009).bind fun bt404 => ((billiardref14_Of.f k x400000 x400001 x400002 x400003 x400004 x400005 x400006 x400007 x400008 x400009 x401000 x401001 x401002 x401003 x401004 x401005 x401006 x401007 x401008 x401009).bind fun bt411 => (if ((bt404.1 == bt411.1 && (bt404.2.1 == bt411.2.1)) && ((bt404.2.2.1 == bt411.2.2.1 && (bt404.2.2.2.1 == bt411.2.2.2.1)) && (bt404.2.2.2.2.1 == bt411.2.2.2.2.1))) = true then (if (bt404.2.2.2.2.2 == bt411.2.2.2.2.2) = true then ((contact_Touch.f k x400000 x400001 x400002 x400003 x400004 x400005 x400006 x400007 x400008 x400009 x401000 x401001 x401002 x401003 x401004 x401005 x401006 x401007 x401008 x401009).bind fun t418 => (if (t418 == bt411.2.2.2.2.2) = true then ((contact_Gap.f k x400000 x400001 x400002 x400003 x400004 x400005 x400006 x400007 x400008 x400009 x401000 x401001 x401002 x401003 x401004 x401005 x401006 x401007 x401008 x401009).bind fun t419 => ((billiardref14_Gap.f k x400000 x400001 x400002 x400003 x400004 x400005 x400006 x400007 x400008 x400009 x401000 x401001 x401002 x401003 x401004 x401005 x401006 x401007 x401008 x401009).bind fun t420 => (some (t419 == t420)))) else (some false))) else (some false)) else (some false))))
def billiardlaw14_ContactMatchesReference.f (k : Nat) (a0_0 : Int) (a0_1 : Int) (a0_2 : Int) (a0_3 : Int) (a0_4 : Int) (a0_5 : Int) (a0_6 : Int) (a0_7 : Int) (a0_8 : Int) (a0_9 : Int) (a1_0 : Int) (a1_1 : Int) (a1_2 : Int) (a1_3 : Int) (a1_4 : Int) (a1_5 : Int) (a1_6 : Int) (a1_7 : Int) (a1_8 : Int) (a1_9 : Int) : Option (Bool) := (billiardlaw14_awake.f k).bind fun t401 => (if t401 = true then ((billiardref14_Right.f k a0_0 a0_1 a0_2 a0_3 a0_4 a0_5 a0_6 a0_7 a0_8 a0_9 a1_0 a1_1 a1_2 a1_3 a1_4 a1_5 a1_6 a1_7 a1_8 a1_9).bind fun t402 => (billiardlaw14_ContactMatchesReference.j0 k (!t402) a0_0 a0_1 a0_2 a0_3 a0_4 a0_5 a0_6 a0_7 a0_8 a0_9 a1_0 a1_1 a1_2 a1_3 a1_4 a1_5 a1_6 a1_7 a1_8 a1_9)) else (billiardlaw14_ContactMatchesReference.j0 k true a0_0 a0_1 a0_2 a0_3 a0_4 a0_5 a0_6 a0_7 a0_8 a0_9 a1_0 a1_1 a1_2 a1_3 a1_4 a1_5 a1_6 a1_7 a1_8 a1_9))
theorem billiardlaw14_ContactMatchesReference.mono_l : ∀ k, (∀ y0 y1 y2 y3 y4 y5 y6 y7 y8 y9 y10 y11 y12 y13 y14 y15 y16 y17 y18 y19 y20, LeO (billiardlaw14_ContactMatchesReference.j0 k y0 y1 y2 y3 y4 y5 y6 y7 y8 y9 y10 y11 y12 y13 y14 y15 y16 y17 y18 y19 y20) (billiardlaw14_ContactMatchesReference.j0 (k + 1) y0 y1 y2 y3 y4 y5 y6 y7 y8 y9 y10 y11 y12 y13 y14 y15 y16 y17 y18 y19 y20))
 | 0 => fun _ _ _ _ _ _ _ _ _ _ _ _ _ _ _ _ _ _ _ _ _ r h => by simp [billiardlaw14_ContactMatchesReference.j0] at h
 | k + 1 => by
  have ih0 := billiardlaw14_ContactMatchesReference.mono_l k
  ·intro y0 y1 y2 y3 y4 y5 y6 y7 y8 y9 y10 y11 y12 y13 y14 y15 y16 y17 y18 y19 y20
   unfold billiardlaw14_ContactMatchesReference.j0
   repeat' first
   | (with_reducible exact ih0 _ _ _ _ _ _ _ _ _ _ _ _ _ _ _ _ _ _ _ _ _)
   | (with_reducible exact billiardlaw14_awake.mono _)
   | (with_reducible exact billiardref14_Gap.mono _ _ _ _ _ _ _ _ _ _ _ _ _ _ _ _ _ _ _ _ _)
   | (with_reducible exact billiardref14_Of.mono _ _ _ _ _ _ _ _ _ _ _ _ _ _ _ _ _ _ _ _ _)
   | (with_reducible exact billiardref14_Right.mono _ _ _ _ _ _ _ _ _ _ _ _ _ _ _ _ _ _ _ _ _)
   | (with_reducible exact contact_Gap.mono _ _ _ _ _ _ _ _ _ _ _ _ _ _ _ _ _ _ _ _ _)
   | (with_reducible exact contact_Of.mono _ _ _ _ _ _ _ _ _ _ _ _ _ _ _ _ _ _ _ _ _)
   | (with_reducible exact contact_Touch.mono _ _ _ _ _ _ _ _ _ _ _ _ _ _ _ _ _ _ _ _ _)
   | (with_reducible exact LeO.refl _)
   | (with_reducible exact LeO.none _)
   | (with_reducible refine LeO.ite ?_ ?_)
   | (with_reducible refine LeO.bind ?_ (fun _ => ?_))
   | exact ih0 _ _ _ _ _ _ _ _ _ _ _ _ _ _ _ _ _ _ _ _ _
   | exact billiardlaw14_awake.mono _
   | exact billiardref14_Gap.mono _ _ _ _ _ _ _ _ _ _ _ _ _ _ _ _ _ _ _ _ _
   | exact billiardref14_Of.mono _ _ _ _ _ _ _ _ _ _ _ _ _ _ _ _ _ _ _ _ _
   | exact billiardref14_Right.mono _ _ _ _ _ _ _ _ _ _ _ _ _ _ _ _ _ _ _ _ _
   | exact contact_Gap.mono _ _ _ _ _ _ _ _ _ _ _ _ _ _ _ _ _ _ _ _ _
   | exact contact_Of.mono _ _ _ _ _ _ _ _ _ _ _ _ _ _ _ _ _ _ _ _ _
   | exact contact_Touch.mono _ _ _ _ _ _ _ _ _ _ _ _ _ _ _ _ _ _ _ _ _
   | exact LeO.none _
   | refine LeO.ite ?_ ?_
   | refine LeO.bind ?_ (fun _ => ?_)
theorem billiardlaw14_ContactMatchesReference.mono : ∀ a0 a1 a2 a3 a4 a5 a6 a7 a8 a9 a10 a11 a12 a13 a14 a15 a16 a17 a18 a19 k, LeO (billiardlaw14_ContactMatchesReference.f k a0 a1 a2 a3 a4 a5 a6 a7 a8 a9 a10 a11 a12 a13 a14 a15 a16 a17 a18 a19) (billiardlaw14_ContactMatchesReference.f (k + 1) a0 a1 a2 a3 a4 a5 a6 a7 a8 a9 a10 a11 a12 a13 a14 a15 a16 a17 a18 a19) := by
 intro a0 a1 a2 a3 a4 a5 a6 a7 a8 a9 a10 a11 a12 a13 a14 a15 a16 a17 a18 a19 k
 have ih0 := billiardlaw14_ContactMatchesReference.mono_l k
 unfold billiardlaw14_ContactMatchesReference.f
 repeat' first
   | (with_reducible exact ih0 _ _ _ _ _ _ _ _ _ _ _ _ _ _ _ _ _ _ _ _ _)
   | (with_reducible exact billiardlaw14_awake.mono _)
   | (with_reducible exact billiardref14_Gap.mono _ _ _ _ _ _ _ _ _ _ _ _ _ _ _ _ _ _ _ _ _)
   | (with_reducible exact billiardref14_Of.mono _ _ _ _ _ _ _ _ _ _ _ _ _ _ _ _ _ _ _ _ _)
   | (with_reducible exact billiardref14_Right.mono _ _ _ _ _ _ _ _ _ _ _ _ _ _ _ _ _ _ _ _ _)
   | (with_reducible exact contact_Gap.mono _ _ _ _ _ _ _ _ _ _ _ _ _ _ _ _ _ _ _ _ _)
   | (with_reducible exact contact_Of.mono _ _ _ _ _ _ _ _ _ _ _ _ _ _ _ _ _ _ _ _ _)
   | (with_reducible exact contact_Touch.mono _ _ _ _ _ _ _ _ _ _ _ _ _ _ _ _ _ _ _ _ _)
   | (with_reducible exact LeO.refl _)
   | (with_reducible exact LeO.none _)
   | (with_reducible refine LeO.ite ?_ ?_)
   | (with_reducible refine LeO.bind ?_ (fun _ => ?_))
   | exact ih0 _ _ _ _ _ _ _ _ _ _ _ _ _ _ _ _ _ _ _ _ _
   | exact billiardlaw14_awake.mono _
   | exact billiardref14_Gap.mono _ _ _ _ _ _ _ _ _ _ _ _ _ _ _ _ _ _ _ _ _
   | exact billiardref14_Of.mono _ _ _ _ _ _ _ _ _ _ _ _ _ _ _ _ _ _ _ _ _
   | exact billiardref14_Right.mono _ _ _ _ _ _ _ _ _ _ _ _ _ _ _ _ _ _ _ _ _
   | exact contact_Gap.mono _ _ _ _ _ _ _ _ _ _ _ _ _ _ _ _ _ _ _ _ _
   | exact contact_Of.mono _ _ _ _ _ _ _ _ _ _ _ _ _ _ _ _ _ _ _ _ _
   | exact contact_Touch.mono _ _ _ _ _ _ _ _ _ _ _ _ _ _ _ _ _ _ _ _ _
   | exact LeO.none _
   | refine LeO.ite ?_ ?_
   | refine LeO.bind ?_ (fun _ => ?_)
def billiardlaw14_ContactMatchesReference.T5 : Bool × List (List Nat × List Nat) := (true, [([], []), ([], []), ([0, 1], [0, 1]), ([2], [2]), ([3], [3]), ([3], [3]), ([4, 5, 3], [3, 4, 5]), ([3, 6], [3, 6]), ([7, 3], [7]), ([8], [8]), ([8], [8]), ([9, 10, 8, 8], [8, 9, 10]), ([8], [8]), ([11, 12, 8], [8, 11, 12]), ([8, 13], [8, 13]), ([14, 11], [14]), ([15], [15]), ([15], [15]), ([16, 17, 15, 15], [15, 16, 17]), ([15], [15]), ([15], [15]), ([19, 20, 18, 15], [15, 19, 20]), ([18, 21, 15], [15, 18, 21]), ([15, 22], [15, 22]), ([23, 21, 0, 1, 2, 3, 4, 5, 6, 7, 8, 9, 10, 11, 12, 13, 14, 15, 16, 17, 18, 19, 20, 21, 22, 23], [23])])
def billiardlaw14_ContactMatchesReference.B5 : List Nat := [0, 0, 3, 7, 15, 15, 63, 127, 255, 511, 511, 2047, 511, 8191, 16383, 32767, 65535, 65535, 262143, 65535, 65535, 2097151, 4194303, 8388607, 16777215]
theorem billiardlaw14_ContactMatchesReference.tab5 : rtab .any (opsOf Try.f3 5) = billiardlaw14_ContactMatchesReference.T5 := by kernel_rfl
theorem billiardlaw14_ContactMatchesReference.bits5 : waitsOk billiardlaw14_ContactMatchesReference.T5.2 billiardlaw14_ContactMatchesReference.B5 = true := by kernel_rfl
set_option maxHeartbeats 8000000 in
set_option maxRecDepth 100000 in
theorem billiardlaw14_ContactMatchesReference.calls (k : Nat) (a0_0 : Int) (a0_1 : Int) (a0_2 : Int) (a0_3 : Int) (a0_4 : Int) (a0_5 : Int) (a0_6 : Int) (a0_7 : Int) (a0_8 : Int) (a0_9 : Int) (a1_0 : Int) (a1_1 : Int) (a1_2 : Int) (a1_3 : Int) (a1_4 : Int) (a1_5 : Int) (a1_6 : Int) (a1_7 : Int) (a1_8 : Int) (a1_9 : Int) (r : Bool) (w : World) (h : billiardlaw14_ContactMatchesReference.f k a0_0 a0_1 a0_2 a0_3 a0_4 a0_5 a0_6 a0_7 a0_8 a0_9 a1_0 a1_1 a1_2 a1_3 a1_4 a1_5 a1_6 a1_7 a1_8 a1_9 = some r) (hr : r = true) :
  Calls Try.prog 3 #[.agg #[.int .u32 a0_0, .int .i32 a0_1, .int .i32 a0_2, .int .i32 a0_3, .int .i32 a0_4, .int .i32 a0_5, .int .i32 a0_6, .int .i32 a0_7, .int .i32 a0_8, .int .i32 a0_9], .agg #[.int .u32 a1_0, .int .i32 a1_1, .int .i32 a1_2, .int .i32 a1_3, .int .i32 a1_4, .int .i32 a1_5, .int .i32 a1_6, .int .i32 a1_7, .int .i32 a1_8, .int .i32 a1_9]] w fun e w' => e = .returned (.bool r) ∧ Below w.heap.size w w' := by
 have HR := aM hr
 clear hr
 have hu26 := Try.underlying26
 have hu32 := Try.underlying32
 have HB := aM (Below.refl w.heap.size w)
 have H : ((billiardlaw14_awake.f k).bind fun t401 => (if t401 = true then ((billiardref14_Right.f k a0_0 a0_1 a0_2 a0_3 a0_4 a0_5 a0_6 a0_7 a0_8 a0_9 a1_0 a1_1 a1_2 a1_3 a1_4 a1_5 a1_6 a1_7 a1_8 a1_9).bind fun t402 => (billiardlaw14_ContactMatchesReference.j0 k (!t402) a0_0 a0_1 a0_2 a0_3 a0_4 a0_5 a0_6 a0_7 a0_8 a0_9 a1_0 a1_1 a1_2 a1_3 a1_4 a1_5 a1_6 a1_7 a1_8 a1_9)) else (billiardlaw14_ContactMatchesReference.j0 k true a0_0 a0_1 a0_2 a0_3 a0_4 a0_5 a0_6 a0_7 a0_8 a0_9 a1_0 a1_1 a1_2 a1_3 a1_4 a1_5 a1_6 a1_7 a1_8 a1_9))) = some r := h
 clear h
 have HC3 := aM H
 clear H
 go_enter Try.func3, Try.ntmps3
 go_upto_region 1 with (first | ((with_reducible refine gate_dst (N := 2) rfl ?_); refine box_event ?hg (N := 2) ?hd (cs := #[.int .u32 a0_0, .int .i32 a0_1, .int .i32 a0_2, .int .i32 a0_3, .int .i32 a0_4, .int .i32 a0_5, .int .i32 a0_6, .int .i32 a0_7, .int .i32 a0_8, .int .i32 a0_9]) (t := 26) ?hr ?_; (case hd => rfl); (case hg => rfl); (case hr => first | (go_simp; done) | (go_simp; rfl)); intro b399 hg w4 hbox hb; have n0_ := aM (lT (by repeat (first | (with_reducible first | exact HB.out | apply lA | apply lN | apply lD) | exact HB.out)) hb); have n1_ := aM (hbox); have n2_ := aM ((by rw [hg]; exact (lZ (by repeat (first | (with_reducible first | exact HB.out | apply lA | apply lN | apply lD) | exact HB.out))) : w.heap.size ≤ b399)); have n3_ := aM ((by rw [hg]; exact (lZ (by repeat (first | (with_reducible first | exact HB.out | apply lA | apply lN | apply lD) | exact HB.out))) : w.heap.size ≤ b399)); clear HB; have HB := n0_; have BK399 := n1_; have GW399 := n2_; have GE399 := n3_; clear n0_ n1_ n2_ n3_; clear hb hbox hg) | ((with_reducible refine gate_dst (N := 3) rfl ?_); refine box_event ?hg (N := 3) ?hd (cs := #[.int .u32 a1_0, .int .i32 a1_1, .int .i32 a1_2, .int .i32 a1_3, .int .i32 a1_4, .int .i32 a1_5, .int .i32 a1_6, .int .i32 a1_7, .int .i32 a1_8, .int .i32 a1_9]) (t := 26) ?hr ?_; (case hd => rfl); (case hg => rfl); (case hr => first | (go_simp; done) | (go_simp; rfl)); intro b400 hg w5 hbox hb; have n0_ := aM (bB (by (with_reducible repeat first | apply bN | apply bD | apply bA); exact BK399.out) hb); have n1_ := aM (lT (by repeat (first | (with_reducible first | exact HB.out | apply lA | apply lN | apply lD | refine lS ?_ GE399.out) | exact HB.out)) hb); have n2_ := aM (hbox); have n3_ := aM ((by rw [hg]; exact (lZ (by repeat (first | (with_reducible first | exact HB.out | apply lA | apply lN | apply lD | refine lS ?_ GE399.out) | exact HB.out))) : w.heap.size ≤ b400)); have n4_ := aM ((by rw [hg]; exact (lZ (by repeat (first | (with_reducible first | exact HB.out | apply lA | apply lN | apply lD | refine lS ?_ GE399.out) | exact HB.out))) : w.heap.size ≤ b400)); have n5_ := aM ((by rw [hg]; exact Nat.ne_of_lt (bL (g := b399) (by (with_reducible repeat first | apply bN | apply bD | apply bA); exact BK399.out)) : b399 ≠ b400)); have n6_ := aM ((by rw [hg]; exact Nat.ne_of_gt (bL (g := b399) (by (with_reducible repeat first | apply bN | apply bD | apply bA); exact BK399.out)) : b400 ≠ b399)); clear BK399; clear HB; have BK399 := n0_; have HB := n1_; have BK400 := n2_; have GW400 := n3_; have GE400 := n4_; have N0_ := n5_; have N1_ := n6_; clear n0_ n1_ n2_ n3_ n4_ n5_ n6_; clear hb hbox hg))
 (try simp only [Act.put, sA, sB, sC])
 go_cut [16] (fun v16 wc => ∃ (kq : Nat) (x16_2 : Bool), v16 = .bool x16_2 ∧ Aside0 (billiardlaw14_ContactMatchesReference.j0 kq x16_2 a0_0 a0_1 a0_2 a0_3 a0_4 a0_5 a0_6 a0_7 a0_8 a0_9 a1_0 a1_1 a1_2 a1_3 a1_4 a1_5 a1_6 a1_7 a1_8 a1_9 = some r) ∧ Aside0 (kq ≤ k) ∧ Aside0 (wc.heap[b399]? = some (.cells #[.int .u32 a0_0, .int .i32 a0_1, .int .i32 a0_2, .int .i32 a0_3, .int .i32 a0_4, .int .i32 a0_5, .int .i32 a0_6, .int .i32 a0_7, .int .i32 a0_8, .int .i32 a0_9] 26 (0, 0))) ∧ Aside0 (wc.heap[b400]? = some (.cells #[.int .u32 a1_0, .int .i32 a1_1, .int .i32 a1_2, .int .i32 a1_3, .int .i32 a1_4, .int .i32 a1_5, .int .i32 a1_6, .int .i32 a1_7, .int .i32 a1_8, .int .i32 a1_9] 26 (0, 0))) ∧ Aside0 (Below w.heap.size w wc))
 case first =>
  have H := HC3.out
  clear HC3
  replace H := Option.bind_eq_some_iff.mp H
  obtain ⟨t401, A60, H⟩ := H
  replace H : (if t401 = true then ((billiardref14_Right.f k a0_0 a0_1 a0_2 a0_3 a0_4 a0_5 a0_6 a0_7 a0_8 a0_9 a1_0 a1_1 a1_2 a1_3 a1_4 a1_5 a1_6 a1_7 a1_8 a1_9).bind fun t402 => (billiardlaw14_ContactMatchesReference.j0 k (!t402) a0_0 a0_1 a0_2 a0_3 a0_4 a0_5 a0_6 a0_7 a0_8 a0_9 a1_0 a1_1 a1_2 a1_3 a1_4 a1_5 a1_6 a1_7 a1_8 a1_9)) else (billiardlaw14_ContactMatchesReference.j0 k true a0_0 a0_1 a0_2 a0_3 a0_4 a0_5 a0_6 a0_7 a0_8 a0_9 a1_0 a1_1 a1_2 a1_3 a1_4 a1_5 a1_6 a1_7 a1_8 a1_9)) = some r := H
  have A6 := aM A60
  clear A60
  by_cases c7 : t401 = true
  ·subst c7
   have H1 : ((billiardref14_Right.f k a0_0 a0_1 a0_2 a0_3 a0_4 a0_5 a0_6 a0_7 a0_8 a0_9 a1_0 a1_1 a1_2 a1_3 a1_4 a1_5 a1_6 a1_7 a1_8 a1_9).bind fun t402 => (billiardlaw14_ContactMatchesReference.j0 k (!t402) a0_0 a0_1 a0_2 a0_3 a0_4 a0_5 a0_6 a0_7 a0_8 a0_9 a1_0 a1_1 a1_2 a1_3 a1_4 a1_5 a1_6 a1_7 a1_8 a1_9)) = some r := by rw [if_pos rfl] at H; exact H
   clear H
   have H := H1
   clear H1
   replace H := Option.bind_eq_some_iff.mp H
   obtain ⟨t402, A80, H⟩ := H
   replace H : (billiardlaw14_ContactMatchesReference.j0 k (!t402) a0_0 a0_1 a0_2 a0_3 a0_4 a0_5 a0_6 a0_7 a0_8 a0_9 a1_0 a1_1 a1_2 a1_3 a1_4 a1_5 a1_6 a1_7 a1_8 a1_9) = some r := H
   have A8 := aM A80
   clear A80
   have H' := aM H
   clear H
   go_wp2_with (first | ((with_reducible refine gate_callee (f := 8) rfl ?_); refine goesL_ (some 9) rfl rfl Try.func8 (by kernel_rfl) rfl #[] rfl (by (try simp only [List.map_toArray, List.map_cons, List.map_nil]); first | done | rfl | (simp only [List.length_drop, List.length_take]; rfl)) ?_; (with_reducible refine (billiardlaw14_awake.calls k  true _ A6.out).mono ?_); rintro e w9 ⟨rfl, hb⟩; refine ⟨_, rfl, ?_⟩; have n0_ := aM (bB (by (with_reducible repeat first | apply bN | apply bD | apply bA); exact BK399.out) hb); have n1_ := aM (bB (by (with_reducible repeat first | apply bN | apply bD | apply bA); exact BK400.out) hb); have n2_ := aM (lT (by repeat (first | (with_reducible first | exact HB.out | apply lA | apply lN | apply lD | refine lS ?_ GE399.out | refine lS ?_ GE400.out) | exact HB.out)) hb); clear BK399; clear BK400; clear HB; have BK399 := n0_; have BK400 := n1_; have HB := n2_; clear n0_ n1_ n2_; (try clear hb); (try clear hb2); (try clear hk); (try clear hi); have hnb10 := N0_.out; have hnc10 := N1_.out; have hcz11_0 : w9.cell? ⟨b399, 0, none⟩ = some (.int .u32 a0_0) := (bC BK399.out 0).trans rfl; have hcz11_1 : w9.cell? ⟨b399, 1, none⟩ = some (.int .i32 a0_1) := (bC BK399.out 1).trans rfl; have hcz11_2 : w9.cell? ⟨b399, 2, none⟩ = some (.int .i32 a0_2) := (bC BK399.out 2).trans rfl; have hcz11_3 : w9.cell? ⟨b399, 3, none⟩ = some (.int .i32 a0_3) := (bC BK399.out 3).trans rfl; have hcz11_4 : w9.cell? ⟨b399, 4, none⟩ = some (.int .i32 a0_4) := (bC BK399.out 4).trans rfl; have hcz11_5 : w9.cell? ⟨b399, 5, none⟩ = some (.int .i32 a0_5) := (bC BK399.out 5).trans rfl; have hcz11_6 : w9.cell? ⟨b399, 6, none⟩ = some (.int .i32 a0_6) := (bC BK399.out 6).trans rfl; have hcz11_7 : w9.cell? ⟨b399, 7, none⟩ = some (.int .i32 a0_7) := (bC BK399.out 7).trans rfl; have hcz11_8 : w9.cell? ⟨b399, 8, none⟩ = some (.int .i32 a0_8) := (bC BK399.out 8).trans rfl; have hcz11_9 : w9.cell? ⟨b399, 9, none⟩ = some (.int .i32 a0_9) := (bC BK399.out 9).trans rfl; have hfz11_0 := bF BK399.out 0; have hfz11_1 := bF BK399.out 1; have hfz11_2 := bF BK399.out 2; have hfz11_3 := bF BK399.out 3; have hfz11_4 := bF BK399.out 4; have hfz11_5 := bF BK399.out 5; have hfz11_6 := bF BK399.out 6; have hfz11_7 := bF BK399.out 7; have hfz11_8 := bF BK399.out 8; have hfz11_9 := bF BK399.out 9; have hcz12_0 : w9.cell? ⟨b400, 0, none⟩ = some (.int .u32 a1_0) := (bC BK400.out 0).trans rfl; have hcz12_1 : w9.cell? ⟨b400, 1, none⟩ = some (.int .i32 a1_1) := (bC BK400.out 1).trans rfl; have hcz12_2 : w9.cell? ⟨b400, 2, none⟩ = some (.int .i32 a1_2) := (bC BK400.out 2).trans rfl; have hcz12_3 : w9.cell? ⟨b400, 3, none⟩ = some (.int .i32 a1_3) := (bC BK400.out 3).trans rfl; have hcz12_4 : w9.cell? ⟨b400, 4, none⟩ = some (.int .i32 a1_4) := (bC BK400.out 4).trans rfl; have hcz12_5 : w9.cell? ⟨b400, 5, none⟩ = some (.int .i32 a1_5) := (bC BK400.out 5).trans rfl; have hcz12_6 : w9.cell? ⟨b400, 6, none⟩ = some (.int .i32 a1_6) := (bC BK400.out 6).trans rfl; have hcz12_7 : w9.cell? ⟨b400, 7, none⟩ = some (.int .i32 a1_7) := (bC BK400.out 7).trans rfl; have hcz12_8 : w9.cell? ⟨b400, 8, none⟩ = some (.int .i32 a1_8) := (bC BK400.out 8).trans rfl; have hcz12_9 : w9.cell? ⟨b400, 9, none⟩ = some (.int .i32 a1_9) := (bC BK400.out 9).trans rfl; have hfz12_0 := bF BK400.out 0; have hfz12_1 := bF BK400.out 1; have hfz12_2 := bF BK400.out 2; have hfz12_3 := bF BK400.out 3; have hfz12_4 := bF BK400.out 4; have hfz12_5 := bF BK400.out 5; have hfz12_6 := bF BK400.out 6; have hfz12_7 := bF BK400.out 7; have hfz12_8 := bF BK400.out 8; have hfz12_9 := bF BK400.out 9) | (go_at_call 9; (with_reducible refine (billiardref14_Right.calls k a0_0 a0_1 a0_2 a0_3 a0_4 a0_5 a0_6 a0_7 a0_8 a0_9 a1_0 a1_1 a1_2 a1_3 a1_4 a1_5 a1_6 a1_7 a1_8 a1_9 t402 _ A8.out).mono ?_); rintro e w13 ⟨rfl, hb⟩; have n0_ := aM (bB (by (with_reducible repeat first | apply bN | apply bD | apply bA); exact BK399.out) hb); have n1_ := aM (bB (by (with_reducible repeat first | apply bN | apply bD | apply bA); exact BK400.out) hb); have n2_ := aM (lT (by repeat (first | (with_reducible first | exact HB.out | apply lA | apply lN | apply lD | refine lS ?_ GE399.out | refine lS ?_ GE400.out) | exact HB.out)) hb); clear BK399; clear BK400; clear HB; have BK399 := n0_; have BK400 := n1_; have HB := n2_; clear n0_ n1_ n2_; (try clear hb); (try clear hb2); (try clear hk); (try clear hi)))
   go_meet
   case rel => exact ⟨_, (!t402), (by first | rfl | (simp; done) | (simp [*]; done)), H', ⟨by first | omega | exact Nat.le_refl _⟩, ⟨by (with_reducible repeat first | apply bN | apply bD | apply bA); exact BK399.out⟩, ⟨by (with_reducible repeat first | apply bN | apply bD | apply bA); exact BK400.out⟩, ⟨by repeat (first | (with_reducible first | exact HB.out | apply lA | apply lN | apply lD | refine lS ?_ GE399.out | refine lS ?_ GE400.out) | exact HB.out)⟩⟩
  ·replace c7 := Bool.eq_false_iff.mpr c7
   subst c7
   exact absurd (billiardlaw14_awake.only A6.out) (by decide)
 case rest =>
  clear HC3
  try clear c1
  try clear p2
  try clear c3
  try clear c7
  try clear c8
  try clear c10
  try clear hcz11_0
  try clear hcz11_1
  try clear hcz11_2
  try clear hcz11_3
  try clear hcz11_4
  try clear hcz11_5
  try clear hcz11_6
  try clear hcz11_7
  try clear hcz11_8
  try clear hcz11_9
  try clear hcz12_0
  try clear hcz12_1
  try clear hcz12_2
  try clear hcz12_3
  try clear hcz12_4
  try clear hcz12_5
  try clear hcz12_6
  try clear hcz12_7
  try clear hcz12_8
  try clear hcz12_9
  try clear hfz11_0
  try clear hfz11_1
  try clear hfz11_2
  try clear hfz11_3
  try clear hfz11_4
  try clear hfz11_5
  try clear hfz11_6
  try clear hfz11_7
  try clear hfz11_8
  try clear hfz11_9
  try clear hfz12_0
  try clear hfz12_1
  try clear hfz12_2
  try clear hfz12_3
  try clear hfz12_4
  try clear hfz12_5
  try clear hfz12_6
  try clear hfz12_7
  try clear hfz12_8
  try clear hfz12_9
  obtain ⟨kq, x16_2, rfl, HA, HJ2, BK399, BK400, HB⟩ := hcut
  cases kq with
  | zero => exact absurd HA.out (by simp [billiardlaw14_ContactMatchesReference.j0])
  | succ kj2 =>
   have H := HA.out
   clear HA
   simp only [billiardlaw14_ContactMatchesReference.j0] at H
   by_cases c14 : x16_2 = true
   ·subst c14
    have H1 : ((billiardlaw14_awake.f kj2).bind fun t403 => (some t403)) = some r := by rw [if_pos rfl] at H; exact H
    clear H
    have H := H1
    clear H1
    replace H := Option.bind_eq_some_iff.mp H
    obtain ⟨t403, A150, H⟩ := H
    replace H : (some t403) = some r := H
    have A15 := aM A150
    clear A150
    obtain rfl := Option.some.inj H
    go_wp2_with (first | ((with_reducible refine gate_callee (f := 8) rfl ?_); refine goesL_ (some 17) rfl rfl Try.func8 (by kernel_rfl) rfl #[] rfl (by (try simp only [List.map_toArray, List.map_cons, List.map_nil]); first | done | rfl | (simp only [List.length_drop, List.length_take]; rfl)) ?_; (with_reducible refine (billiardlaw14_awake.calls kj2  t403 _ A15.out).mono ?_); rintro e w16 ⟨rfl, hb⟩; refine ⟨_, rfl, ?_⟩; have n0_ := aM (bB (by (with_reducible repeat first | apply bN | apply bD | apply bA); exact BK399.out) hb); have n1_ := aM (bB (by (with_reducible repeat first | apply bN | apply bD | apply bA); exact BK400.out) hb); have n2_ := aM (lT (by repeat (first | (with_reducible first | exact HB.out | apply lA | apply lN | apply lD | refine lS ?_ GE399.out | refine lS ?_ GE400.out) | exact HB.out)) hb); clear BK399; clear BK400; clear HB; have BK399 := n0_; have BK400 := n1_; have HB := n2_; clear n0_ n1_ n2_; (try clear hb); (try clear hb2); (try clear hk); (try clear hi)))
    go_ret
    exact ⟨by first | rfl | (simp [errW_none, errW_some] <;> rfl) | (simp [*, errW_none, errW_some] <;> rfl), by repeat (first | (with_reducible first | exact HB.out | apply lA | apply lN | apply lD | refine lS ?_ GE399.out | refine lS ?_ GE400.out) | exact HB.out)⟩
   ·replace c14 := Bool.eq_false_iff.mpr c14
    subst c14
    have H1 : ((contact_Of.f kj2 a0_0 a0_1 a0_2 a0_3 a0_4 a0_5 a0_6 a0_7 a0_8 a0_9 a1_0 a1_1 a1_2 a1_3 a1_4 a1_5 a1_6 a1_7 a1_8 a1_9).bind fun bt404 => ((billiardref14_Of.f kj2 a0_0 a0_1 a0_2 a0_3 a0_4 a0_5 a0_6 a0_7 a0_8 a0_9 a1_0 a1_1 a1_2 a1_3 a1_4 a1_5 a1_6 a1_7 a1_8 a1_9).bind fun bt411 => (if ((bt404.1 == bt411.1 && (bt404.2.1 == bt411.2.1)) && ((bt404.2.2.1 == bt411.2.2.1 && (bt404.2.2.2.1 == bt411.2.2.2.1)) && (bt404.2.2.2.2.1 == bt411.2.2.2.2.1))) = true then (if (bt404.2.2.2.2.2 == bt411.2.2.2.2.2) = true then ((contact_Touch.f kj2 a0_0 a0_1 a0_2 a0_3 a0_4 a0_5 a0_6 a0_7 a0_8 a0_9 a1_0 a1_1 a1_2 a1_3 a1_4 a1_5 a1_6 a1_7 a1_8 a1_9).bind fun t418 => (if (t418 == bt411.2.2.2.2.2) = true then ((contact_Gap.f kj2 a0_0 a0_1 a0_2 a0_3 a0_4 a0_5 a0_6 a0_7 a0_8 a0_9 a1_0 a1_1 a1_2 a1_3 a1_4 a1_5 a1_6 a1_7 a1_8 a1_9).bind fun t419 => ((billiardref14_Gap.f kj2 a0_0 a0_1 a0_2 a0_3 a0_4 a0_5 a0_6 a0_7 a0_8 a0_9 a1_0 a1_1 a1_2 a1_3 a1_4 a1_5 a1_6 a1_7 a1_8 a1_9).bind fun t420 => (some (t419 == t420)))) else (some false))) else (some false)) else (some false)))) = some r := by rw [if_neg (show ¬ (false = true) by decide)] at H; exact H
    clear H
    have H := H1
    clear H1
    replace H := Option.bind_eq_some_iff.mp H
    obtain ⟨⟨t404, t405, t406, t407, t408, t409⟩, A170, H⟩ := H
    replace H : ((billiardref14_Of.f kj2 a0_0 a0_1 a0_2 a0_3 a0_4 a0_5 a0_6 a0_7 a0_8 a0_9 a1_0 a1_1 a1_2 a1_3 a1_4 a1_5 a1_6 a1_7 a1_8 a1_9).bind fun bt411 => (if ((t404 == bt411.1 && (t405 == bt411.2.1)) && ((t406 == bt411.2.2.1 && (t407 == bt411.2.2.2.1)) && (t408 == bt411.2.2.2.2.1))) = true then (if (t409 == bt411.2.2.2.2.2) = true then ((contact_Touch.f kj2 a0_0 a0_1 a0_2 a0_3 a0_4 a0_5 a0_6 a0_7 a0_8 a0_9 a1_0 a1_1 a1_2 a1_3 a1_4 a1_5 a1_6 a1_7 a1_8 a1_9).bind fun t418 => (if (t418 == bt411.2.2.2.2.2) = true then ((contact_Gap.f kj2 a0_0 a0_1 a0_2 a0_3 a0_4 a0_5 a0_6 a0_7 a0_8 a0_9 a1_0 a1_1 a1_2 a1_3 a1_4 a1_5 a1_6 a1_7 a1_8 a1_9).bind fun t419 => ((billiardref14_Gap.f kj2 a0_0 a0_1 a0_2 a0_3 a0_4 a0_5 a0_6 a0_7 a0_8 a0_9 a1_0 a1_1 a1_2 a1_3 a1_4 a1_5 a1_6 a1_7 a1_8 a1_9).bind fun t420 => (some (t419 == t420)))) else (some false))) else (some false)) else (some false))) = some r := H
    have A17 := aM A170
    clear A170
    replace H := Option.bind_eq_some_iff.mp H
    obtain ⟨⟨t411, t412, t413, t414, t415, t416⟩, A180, H⟩ := H
    replace H : (if ((t404 == t411 && (t405 == t412)) && ((t406 == t413 && (t407 == t414)) && (t408 == t415))) = true then (if (t409 == t416) = true then ((contact_Touch.f kj2 a0_0 a0_1 a0_2 a0_3 a0_4 a0_5 a0_6 a0_7 a0_8 a0_9 a1_0 a1_1 a1_2 a1_3 a1_4 a1_5 a1_6 a1_7 a1_8 a1_9).bind fun t418 => (if (t418 == t416) = true then ((contact_Gap.f kj2 a0_0 a0_1 a0_2 a0_3 a0_4 a0_5 a0_6 a0_7 a0_8 a0_9 a1_0 a1_1 a1_2 a1_3 a1_4 a1_5 a1_6 a1_7 a1_8 a1_9).bind fun t419 => ((billiardref14_Gap.f kj2 a0_0 a0_1 a0_2 a0_3 a0_4 a0_5 a0_6 a0_7 a0_8 a0_9 a1_0 a1_1 a1_2 a1_3 a1_4 a1_5 a1_6 a1_7 a1_8 a1_9).bind fun t420 => (some (t419 == t420)))) else (some false))) else (some false)) else (some false)) = some r := H
    have A18 := aM A180
    clear A180
    by_cases c19 : ((t404 == t411 && (t405 == t412)) && ((t406 == t413 && (t407 == t414)) && (t408 == t415))) = true
    ·rw [if_pos c19] at H
     have c19b0 : ((t404 == t411 && (t405 == t412)) && ((t406 == t413 && (t407 == t414)) && (t408 == t415))) = true := c19
     clear c19
     by_cases c20 : (t409 == t416) = true
     ·rw [if_pos c20] at H
      have c20b0 : (t409 == t416) = true := c20
      (try (have c20b1 : decide (t409 = t416) = true := by simpa using c20))
      (try (have c20b2 : (t409 == t416) = true := by simpa using c20))
      clear c20
      replace H := Option.bind_eq_some_iff.mp H
      obtain ⟨t418, A210, H⟩ := H
      replace H : (if (t418 == t416) = true then ((contact_Gap.f kj2 a0_0 a0_1 a0_2 a0_3 a0_4 a0_5 a0_6 a0_7 a0_8 a0_9 a1_0 a1_1 a1_2 a1_3 a1_4 a1_5 a1_6 a1_7 a1_8 a1_9).bind fun t419 => ((billiardref14_Gap.f kj2 a0_0 a0_1 a0_2 a0_3 a0_4 a0_5 a0_6 a0_7 a0_8 a0_9 a1_0 a1_1 a1_2 a1_3 a1_4 a1_5 a1_6 a1_7 a1_8 a1_9).bind fun t420 => (some (t419 == t420)))) else (some false)) = some r := H
      have A21 := aM A210
      clear A210
      by_cases c22 : (t418 == t416) = true
      ·rw [if_pos c22] at H
       have c22b0 : (t418 == t416) = true := c22
       (try (have c22b1 : decide (t418 = t416) = true := by simpa using c22))
       (try (have c22b2 : (t418 == t416) = true := by simpa using c22))
       clear c22
       replace H := Option.bind_eq_some_iff.mp H
       obtain ⟨t419, A230, H⟩ := H
       replace H : ((billiardref14_Gap.f kj2 a0_0 a0_1 a0_2 a0_3 a0_4 a0_5 a0_6 a0_7 a0_8 a0_9 a1_0 a1_1 a1_2 a1_3 a1_4 a1_5 a1_6 a1_7 a1_8 a1_9).bind fun t420 => (some (t419 == t420))) = some r := H
       have A23 := aM A230
       clear A230
       replace H := Option.bind_eq_some_iff.mp H
       obtain ⟨t420, A240, H⟩ := H
       replace H : (some (t419 == t420)) = some r := H
       have A24 := aM A240
       clear A240
       obtain rfl := Option.some.inj H
       have hnb25 := N0_.out
       have hnc25 := N1_.out
       have hcz26_0 : wc.cell? ⟨b399, 0, none⟩ = some (.int .u32 a0_0) := (bC BK399.out 0).trans rfl
       have hcz26_1 : wc.cell? ⟨b399, 1, none⟩ = some (.int .i32 a0_1) := (bC BK399.out 1).trans rfl
       have hcz26_2 : wc.cell? ⟨b399, 2, none⟩ = some (.int .i32 a0_2) := (bC BK399.out 2).trans rfl
       have hcz26_3 : wc.cell? ⟨b399, 3, none⟩ = some (.int .i32 a0_3) := (bC BK399.out 3).trans rfl
       have hcz26_4 : wc.cell? ⟨b399, 4, none⟩ = some (.int .i32 a0_4) := (bC BK399.out 4).trans rfl
       have hcz26_5 : wc.cell? ⟨b399, 5, none⟩ = some (.int .i32 a0_5) := (bC BK399.out 5).trans rfl
       have hcz26_6 : wc.cell? ⟨b399, 6, none⟩ = some (.int .i32 a0_6) := (bC BK399.out 6).trans rfl
       have hcz26_7 : wc.cell? ⟨b399, 7, none⟩ = some (.int .i32 a0_7) := (bC BK399.out 7).trans rfl
       have hcz26_8 : wc.cell? ⟨b399, 8, none⟩ = some (.int .i32 a0_8) := (bC BK399.out 8).trans rfl
       have hcz26_9 : wc.cell? ⟨b399, 9, none⟩ = some (.int .i32 a0_9) := (bC BK399.out 9).trans rfl
       have hfz26_0 := bF BK399.out 0
       have hfz26_1 := bF BK399.out 1
       have hfz26_2 := bF BK399.out 2
       have hfz26_3 := bF BK399.out 3
       have hfz26_4 := bF BK399.out 4
       have hfz26_5 := bF BK399.out 5
       have hfz26_6 := bF BK399.out 6
       have hfz26_7 := bF BK399.out 7
       have hfz26_8 := bF BK399.out 8
       have hfz26_9 := bF BK399.out 9
       have hcz27_0 : wc.cell? ⟨b400, 0, none⟩ = some (.int .u32 a1_0) := (bC BK400.out 0).trans rfl
       have hcz27_1 : wc.cell? ⟨b400, 1, none⟩ = some (.int .i32 a1_1) := (bC BK400.out 1).trans rfl
       have hcz27_2 : wc.cell? ⟨b400, 2, none⟩ = some (.int .i32 a1_2) := (bC BK400.out 2).trans rfl
       have hcz27_3 : wc.cell? ⟨b400, 3, none⟩ = some (.int .i32 a1_3) := (bC BK400.out 3).trans rfl
       have hcz27_4 : wc.cell? ⟨b400, 4, none⟩ = some (.int .i32 a1_4) := (bC BK400.out 4).trans rfl
       have hcz27_5 : wc.cell? ⟨b400, 5, none⟩ = some (.int .i32 a1_5) := (bC BK400.out 5).trans rfl
       have hcz27_6 : wc.cell? ⟨b400, 6, none⟩ = some (.int .i32 a1_6) := (bC BK400.out 6).trans rfl
       have hcz27_7 : wc.cell? ⟨b400, 7, none⟩ = some (.int .i32 a1_7) := (bC BK400.out 7).trans rfl
       have hcz27_8 : wc.cell? ⟨b400, 8, none⟩ = some (.int .i32 a1_8) := (bC BK400.out 8).trans rfl
       have hcz27_9 : wc.cell? ⟨b400, 9, none⟩ = some (.int .i32 a1_9) := (bC BK400.out 9).trans rfl
       have hfz27_0 := bF BK400.out 0
       have hfz27_1 := bF BK400.out 1
       have hfz27_2 := bF BK400.out 2
       have hfz27_3 := bF BK400.out 3
       have hfz27_4 := bF BK400.out 4
       have hfz27_5 := bF BK400.out 5
       have hfz27_6 := bF BK400.out 6
       have hfz27_7 := bF BK400.out 7
       have hfz27_8 := bF BK400.out 8
       have hfz27_9 := bF BK400.out 9
       try go_wp2_with (first | ((with_reducible refine gate_callee (f := 10) rfl ?_); refine goesL_ (some 21) rfl rfl Try.func10 (by kernel_rfl) rfl #[.agg #[.int .u32 a0_0, .int .i32 a0_1, .int .i32 a0_2, .int .i32 a0_3, .int .i32 a0_4, .int .i32 a0_5, .int .i32 a0_6, .int .i32 a0_7, .int .i32 a0_8, .int .i32 a0_9], .agg #[.int .u32 a1_0, .int .i32 a1_1, .int .i32 a1_2, .int .i32 a1_3, .int .i32 a1_4, .int .i32 a1_5, .int .i32 a1_6, .int .i32 a1_7, .int .i32 a1_8, .int .i32 a1_9]] rfl (by (try simp only [List.map_toArray, List.map_cons, List.map_nil]); first | done | rfl | (simp only [List.length_drop, List.length_take]; rfl)) ?_; (with_reducible refine (contact_Of.calls kj2 a0_0 a0_1 a0_2 a0_3 a0_4 a0_5 a0_6 a0_7 a0_8 a0_9 a1_0 a1_1 a1_2 a1_3 a1_4 a1_5 a1_6 a1_7 a1_8 a1_9 t404 t405 t406 t407 t408 t409 _ A17.out).mono ?_); rintro e w28 ⟨rfl, hb⟩; refine ⟨_, rfl, ?_⟩; have n0_ := aM (bB (by (with_reducible repeat first | apply bN | apply bD | apply bA); exact BK399.out) hb); have n1_ := aM (bB (by (with_reducible repeat first | apply bN | apply bD | apply bA); exact BK400.out) hb); have n2_ := aM (lT (by repeat (first | (with_reducible first | exact HB.out | apply lA | apply lN | apply lD | refine lS ?_ GE399.out | refine lS ?_ GE400.out) | exact HB.out)) hb); clear BK399; clear BK400; clear HB; have BK399 := n0_; have BK400 := n1_; have HB := n2_; clear n0_ n1_ n2_; (try clear hb); (try clear hb2); (try clear hk); (try clear hi)) | ((with_reducible refine gate_dst (N := 5) rfl ?_); refine box_event ?hg (N := 5) ?hd (cs := #[.int .u32 0, .int .u32 0, .int .i32 0, .int .i32 0, .int .i32 0]) (t := 32) ?hr ?_; (case hd => rfl); (case hg => rfl); (case hr => first | (go_simp; done) | (go_simp; rfl)); intro b410 hg w29 hbox hb; have n0_ := aM (bB (by (with_reducible repeat first | apply bN | apply bD | apply bA); exact BK399.out) hb); have n1_ := aM (bB (by (with_reducible repeat first | apply bN | apply bD | apply bA); exact BK400.out) hb); have n2_ := aM (lT (by repeat (first | (with_reducible first | exact HB.out | apply lA | apply lN | apply lD | refine lS ?_ GE399.out | refine lS ?_ GE400.out) | exact HB.out)) hb); have n3_ := aM (hbox); have n4_ := aM ((by rw [hg]; exact (lZ (by repeat (first | (with_reducible first | exact HB.out | apply lA | apply lN | apply lD | refine lS ?_ GE399.out | refine lS ?_ GE400.out) | exact HB.out))) : w.heap.size ≤ b410)); have n5_ := aM ((by rw [hg]; exact (lZ (by repeat (first | (with_reducible first | exact HB.out | apply lA | apply lN | apply lD | refine lS ?_ GE399.out | refine lS ?_ GE400.out) | exact HB.out))) : w.heap.size ≤ b410)); have n6_ := aM ((by rw [hg]; exact Nat.ne_of_lt (bL (g := b399) (by (with_reducible repeat first | apply bN | apply bD | apply bA); exact BK399.out)) : b399 ≠ b410)); have n7_ := aM ((by rw [hg]; exact Nat.ne_of_gt (bL (g := b399) (by (with_reducible repeat first | apply bN | apply bD | apply bA); exact BK399.out)) : b410 ≠ b399)); have n8_ := aM ((by rw [hg]; exact Nat.ne_of_lt (bL (g := b400) (by (with_reducible repeat first | apply bN | apply bD | apply bA); exact BK400.out)) : b400 ≠ b410)); have n9_ := aM ((by rw [hg]; exact Nat.ne_of_gt (bL (g := b400) (by (with_reducible repeat first | apply bN | apply bD | apply bA); exact BK400.out)) : b410 ≠ b400)); clear BK399; clear BK400; clear HB; have BK399 := n0_; have BK400 := n1_; have HB := n2_; have BK410 := n3_; have GW410 := n4_; have GE410 := n5_; have N2_ := n6_; have N3_ := n7_; have N4_ := n8_; have N5_ := n9_; clear n0_ n1_ n2_ n3_ n4_ n5_ n6_ n7_ n8_ n9_; clear hb hbox hg; have hnb30 := N3_.out; have hnc30 := N2_.out; have hnb31 := N5_.out; have hnc31 := N4_.out; have hcz32_0 : w29.cell? ⟨b410, 0, none⟩ = some (.int .u32 0) := (bC BK410.out 0).trans rfl; have hcz32_1 : w29.cell? ⟨b410, 1, none⟩ = some (.int .u32 0) := (bC BK410.out 1).trans rfl; have hcz32_2 : w29.cell? ⟨b410, 2, none⟩ = some (.int .i32 0) := (bC BK410.out 2).trans rfl; have hcz32_3 : w29.cell? ⟨b410, 3, none⟩ = some (.int .i32 0) := (bC BK410.out 3).trans rfl; have hcz32_4 : w29.cell? ⟨b410, 4, none⟩ = some (.int .i32 0) := (bC BK410.out 4).trans rfl; have hfz32_0 := bF BK410.out 0; have hfz32_1 := bF BK410.out 1; have hfz32_2 := bF BK410.out 2; have hfz32_3 := bF BK410.out 3; have hfz32_4 := bF BK410.out 4; have hcz33_0 : w29.cell? ⟨b399, 0, none⟩ = some (.int .u32 a0_0) := (bC BK399.out 0).trans rfl; have hcz33_1 : w29.cell? ⟨b399, 1, none⟩ = some (.int .i32 a0_1) := (bC BK399.out 1).trans rfl; have hcz33_2 : w29.cell? ⟨b399, 2, none⟩ = some (.int .i32 a0_2) := (bC BK399.out 2).trans rfl; have hcz33_3 : w29.cell? ⟨b399, 3, none⟩ = some (.int .i32 a0_3) := (bC BK399.out 3).trans rfl; have hcz33_4 : w29.cell? ⟨b399, 4, none⟩ = some (.int .i32 a0_4) := (bC BK399.out 4).trans rfl; have hcz33_5 : w29.cell? ⟨b399, 5, none⟩ = some (.int .i32 a0_5) := (bC BK399.out 5).trans rfl; have hcz33_6 : w29.cell? ⟨b399, 6, none⟩ = some (.int .i32 a0_6) := (bC BK399.out 6).trans rfl; have hcz33_7 : w29.cell? ⟨b399, 7, none⟩ = some (.int .i32 a0_7) := (bC BK399.out 7).trans rfl; have hcz33_8 : w29.cell? ⟨b399, 8, none⟩ = some (.int .i32 a0_8) := (bC BK399.out 8).trans rfl; have hcz33_9 : w29.cell? ⟨b399, 9, none⟩ = some (.int .i32 a0_9) := (bC BK399.out 9).trans rfl; have hfz33_0 := bF BK399.out 0; have hfz33_1 := bF BK399.out 1; have hfz33_2 := bF BK399.out 2; have hfz33_3 := bF BK399.out 3; have hfz33_4 := bF BK399.out 4; have hfz33_5 := bF BK399.out 5; have hfz33_6 := bF BK399.out 6; have hfz33_7 := bF BK399.out 7; have hfz33_8 := bF BK399.out 8; have hfz33_9 := bF BK399.out 9; have hcz34_0 : w29.cell? ⟨b400, 0, none⟩ = some (.int .u32 a1_0) := (bC BK400.out 0).trans rfl; have hcz34_1 : w29.cell? ⟨b400, 1, none⟩ = some (.int .i32 a1_1) := (bC BK400.out 1).trans rfl; have hcz34_2 : w29.cell? ⟨b400, 2, none⟩ = some (.int .i32 a1_2) := (bC BK400.out 2).trans rfl; have hcz34_3 : w29.cell? ⟨b400, 3, none⟩ = some (.int .i32 a1_3) := (bC BK400.out 3).trans rfl; have hcz34_4 : w29.cell? ⟨b400, 4, none⟩ = some (.int .i32 a1_4) := (bC BK400.out 4).trans rfl; have hcz34_5 : w29.cell? ⟨b400, 5, none⟩ = some (.int .i32 a1_5) := (bC BK400.out 5).trans rfl; have hcz34_6 : w29.cell? ⟨b400, 6, none⟩ = some (.int .i32 a1_6) := (bC BK400.out 6).trans rfl; have hcz34_7 : w29.cell? ⟨b400, 7, none⟩ = some (.int .i32 a1_7) := (bC BK400.out 7).trans rfl; have hcz34_8 : w29.cell? ⟨b400, 8, none⟩ = some (.int .i32 a1_8) := (bC BK400.out 8).trans rfl; have hcz34_9 : w29.cell? ⟨b400, 9, none⟩ = some (.int .i32 a1_9) := (bC BK400.out 9).trans rfl; have hfz34_0 := bF BK400.out 0; have hfz34_1 := bF BK400.out 1; have hfz34_2 := bF BK400.out 2; have hfz34_3 := bF BK400.out 3; have hfz34_4 := bF BK400.out 4; have hfz34_5 := bF BK400.out 5; have hfz34_6 := bF BK400.out 6; have hfz34_7 := bF BK400.out 7; have hfz34_8 := bF BK400.out 8; have hfz34_9 := bF BK400.out 9) | ((with_reducible refine gate_callee (f := 11) rfl ?_); refine goesL_ (some 27) rfl rfl Try.func11 (by kernel_rfl) rfl #[.agg #[.int .u32 a0_0, .int .i32 a0_1, .int .i32 a0_2, .int .i32 a0_3, .int .i32 a0_4, .int .i32 a0_5, .int .i32 a0_6, .int .i32 a0_7, .int .i32 a0_8, .int .i32 a0_9], .agg #[.int .u32 a1_0, .int .i32 a1_1, .int .i32 a1_2, .int .i32 a1_3, .int .i32 a1_4, .int .i32 a1_5, .int .i32 a1_6, .int .i32 a1_7, .int .i32 a1_8, .int .i32 a1_9]] rfl (by (try simp only [List.map_toArray, List.map_cons, List.map_nil]); first | done | rfl | (simp only [List.length_drop, List.length_take]; rfl)) ?_; (with_reducible refine (billiardref14_Of.calls kj2 a0_0 a0_1 a0_2 a0_3 a0_4 a0_5 a0_6 a0_7 a0_8 a0_9 a1_0 a1_1 a1_2 a1_3 a1_4 a1_5 a1_6 a1_7 a1_8 a1_9 t411 t412 t413 t414 t415 t416 _ A18.out).mono ?_); rintro e w35 ⟨rfl, hb⟩; refine ⟨_, rfl, ?_⟩; have n0_ := aM (bB (g := b399) (o := .cells #[.int .u32 a0_0, .int .i32 a0_1, .int .i32 a0_2, .int .i32 a0_3, .int .i32 a0_4, .int .i32 a0_5, .int .i32 a0_6, .int .i32 a0_7, .int .i32 a0_8, .int .i32 a0_9] 26 (0, 0)) (by (with_reducible repeat first | apply bN | apply bD | apply bA); refine bR ?_ N2_.out _; (with_reducible repeat first | apply bN | apply bD | apply bA); refine bR ?_ N2_.out _; (with_reducible repeat first | apply bN | apply bD | apply bA); refine bR ?_ N2_.out _; (with_reducible repeat first | apply bN | apply bD | apply bA); refine bR ?_ N2_.out _; (with_reducible repeat first | apply bN | apply bD | apply bA); refine bR ?_ N2_.out _; (with_reducible repeat first | apply bN | apply bD | apply bA); exact BK399.out) hb); have n1_ := aM (bB (g := b400) (o := .cells #[.int .u32 a1_0, .int .i32 a1_1, .int .i32 a1_2, .int .i32 a1_3, .int .i32 a1_4, .int .i32 a1_5, .int .i32 a1_6, .int .i32 a1_7, .int .i32 a1_8, .int .i32 a1_9] 26 (0, 0)) (by (with_reducible repeat first | apply bN | apply bD | apply bA); refine bR ?_ N4_.out _; (with_reducible repeat first | apply bN | apply bD | apply bA); refine bR ?_ N4_.out _; (with_reducible repeat first | apply bN | apply bD | apply bA); refine bR ?_ N4_.out _; (with_reducible repeat first | apply bN | apply bD | apply bA); refine bR ?_ N4_.out _; (with_reducible repeat first | apply bN | apply bD | apply bA); refine bR ?_ N4_.out _; (with_reducible repeat first | apply bN | apply bD | apply bA); exact BK400.out) hb); have n2_ := aM (bB (g := b410) (o := .cells #[.int .u32 t404, .int .u32 t405, .int .i32 t406, .int .i32 t407, .int .i32 t408] 32 (0, 0)) (by (with_reducible repeat first | apply bN | apply bD | apply bA); refine bP (cs := #[.int .u32 t404, .int .u32 t405, .int .i32 t406, .int .i32 t407, .int .i32 0]) ?_ 4 _ rfl; (with_reducible repeat first | apply bN | apply bD | apply bA); refine bP (cs := #[.int .u32 t404, .int .u32 t405, .int .i32 t406, .int .i32 0, .int .i32 0]) ?_ 3 _ rfl; (with_reducible repeat first | apply bN | apply bD | apply bA); refine bP (cs := #[.int .u32 t404, .int .u32 t405, .int .i32 0, .int .i32 0, .int .i32 0]) ?_ 2 _ rfl; (with_reducible repeat first | apply bN | apply bD | apply bA); refine bP (cs := #[.int .u32 t404, .int .u32 0, .int .i32 0, .int .i32 0, .int .i32 0]) ?_ 1 _ rfl; (with_reducible repeat first | apply bN | apply bD | apply bA); refine bP (cs := #[.int .u32 0, .int .u32 0, .int .i32 0, .int .i32 0, .int .i32 0]) ?_ 0 _ rfl; (with_reducible repeat first | apply bN | apply bD | apply bA); exact BK410.out) hb); have n3_ := aM (lT (by repeat (first | (with_reducible first | exact HB.out | apply lA | apply lN | apply lD | refine lS ?_ GE399.out | refine lS ?_ GE400.out | refine lS ?_ GE410.out) | exact HB.out)) hb); clear BK399; clear BK400; clear BK410; clear HB; have BK399 := n0_; have BK400 := n1_; have BK410 := n2_; have HB := n3_; clear n0_ n1_ n2_ n3_; (try clear hb); (try clear hb2); (try clear hk); (try clear hi)) | ((with_reducible refine gate_dst (N := 7) rfl ?_); refine box_event ?hg (N := 7) ?hd (cs := #[.int .u32 0, .int .u32 0, .int .i32 0, .int .i32 0, .int .i32 0]) (t := 32) ?hr ?_; (case hd => rfl); (case hg => rfl); (case hr => first | (go_simp; done) | (go_simp; rfl)); intro b417 hg w36 hbox hb; have n0_ := aM (bB (by (with_reducible repeat first | apply bN | apply bD | apply bA); exact BK399.out) hb); have n1_ := aM (bB (by (with_reducible repeat first | apply bN | apply bD | apply bA); exact BK400.out) hb); have n2_ := aM (bB (by (with_reducible repeat first | apply bN | apply bD | apply bA); exact BK410.out) hb); have n3_ := aM (lT (by repeat (first | (with_reducible first | exact HB.out | apply lA | apply lN | apply lD | refine lS ?_ GE399.out | refine lS ?_ GE400.out | refine lS ?_ GE410.out) | exact HB.out)) hb); have n4_ := aM (hbox); have n5_ := aM ((by rw [hg]; exact (lZ (by repeat (first | (with_reducible first | exact HB.out | apply lA | apply lN | apply lD | refine lS ?_ GE399.out | refine lS ?_ GE400.out | refine lS ?_ GE410.out) | exact HB.out))) : w.heap.size ≤ b417)); have n6_ := aM ((by rw [hg]; exact (lZ (by repeat (first | (with_reducible first | exact HB.out | apply lA | apply lN | apply lD | refine lS ?_ GE399.out | refine lS ?_ GE400.out | refine lS ?_ GE410.out) | exact HB.out))) : w.heap.size ≤ b417)); have n7_ := aM ((by rw [hg]; exact Nat.ne_of_lt (bL (g := b399) (by (with_reducible repeat first | apply bN | apply bD | apply bA); exact BK399.out)) : b399 ≠ b417)); have n8_ := aM ((by rw [hg]; exact Nat.ne_of_gt (bL (g := b399) (by (with_reducible repeat first | apply bN | apply bD | apply bA); exact BK399.out)) : b417 ≠ b399)); have n9_ := aM ((by rw [hg]; exact Nat.ne_of_lt (bL (g := b400) (by (with_reducible repeat first | apply bN | apply bD | apply bA); exact BK400.out)) : b400 ≠ b417)); have n10_ := aM ((by rw [hg]; exact Nat.ne_of_gt (bL (g := b400) (by (with_reducible repeat first | apply bN | apply bD | apply bA); exact BK400.out)) : b417 ≠ b400)); have n11_ := aM ((by rw [hg]; exact Nat.ne_of_lt (bL (g := b410) (by (with_reducible repeat first | apply bN | apply bD | apply bA); exact BK410.out)) : b410 ≠ b417)); have n12_ := aM ((by rw [hg]; exact Nat.ne_of_gt (bL (g := b410) (by (with_reducible repeat first | apply bN | apply bD | apply bA); exact BK410.out)) : b417 ≠ b410)); clear BK399; clear BK400; clear BK410; clear HB; have BK399 := n0_; have BK400 := n1_; have BK410 := n2_; have HB := n3_; have BK417 := n4_; have GW417 := n5_; have GE417 := n6_; have N6_ := n7_; have N7_ := n8_; have N8_ := n9_; have N9_ := n10_; have N10_ := n11_; have N11_ := n12_; clear n0_ n1_ n2_ n3_ n4_ n5_ n6_ n7_ n8_ n9_ n10_ n11_ n12_; clear hb hbox hg; have hnb37 := N7_.out; have hnc37 := N6_.out; have hnb38 := N9_.out; have hnc38 := N8_.out; have hnb39 := N11_.out; have hnc39 := N10_.out; have hcz40_0 : w36.cell? ⟨b417, 0, none⟩ = some (.int .u32 0) := (bC BK417.out 0).trans rfl; have hcz40_1 : w36.cell? ⟨b417, 1, none⟩ = some (.int .u32 0) := (bC BK417.out 1).trans rfl; have hcz40_2 : w36.cell? ⟨b417, 2, none⟩ = some (.int .i32 0) := (bC BK417.out 2).trans rfl; have hcz40_3 : w36.cell? ⟨b417, 3, none⟩ = some (.int .i32 0) := (bC BK417.out 3).trans rfl; have hcz40_4 : w36.cell? ⟨b417, 4, none⟩ = some (.int .i32 0) := (bC BK417.out 4).trans rfl; have hfz40_0 := bF BK417.out 0; have hfz40_1 := bF BK417.out 1; have hfz40_2 := bF BK417.out 2; have hfz40_3 := bF BK417.out 3; have hfz40_4 := bF BK417.out 4))
       have n0_ : Aside0 ((((((w36.setCell ⟨b417, 0, none⟩ (.int .u32 t411)).setCell ⟨b417, 1, none⟩ (.int .u32 t412)).setCell ⟨b417, 2, none⟩ (.int .i32 t413)).setCell ⟨b417, 3, none⟩ (.int .i32 t414)).setCell ⟨b417, 4, none⟩ (.int .i32 t415)).heap[b399]? = some (.cells #[.int .u32 a0_0, .int .i32 a0_1, .int .i32 a0_2, .int .i32 a0_3, .int .i32 a0_4, .int .i32 a0_5, .int .i32 a0_6, .int .i32 a0_7, .int .i32 a0_8, .int .i32 a0_9] 26 (0, 0))) := ⟨by (with_reducible repeat first | apply bN | apply bD | apply bA); refine bR ?_ N6_.out _; (with_reducible repeat first | apply bN | apply bD | apply bA); refine bR ?_ N6_.out _; (with_reducible repeat first | apply bN | apply bD | apply bA); refine bR ?_ N6_.out _; (with_reducible repeat first | apply bN | apply bD | apply bA); refine bR ?_ N6_.out _; (with_reducible repeat first | apply bN | apply bD | apply bA); refine bR ?_ N6_.out _; (with_reducible repeat first | apply bN | apply bD | apply bA); exact BK399.out⟩
       have n1_ : Aside0 ((((((w36.setCell ⟨b417, 0, none⟩ (.int .u32 t411)).setCell ⟨b417, 1, none⟩ (.int .u32 t412)).setCell ⟨b417, 2, none⟩ (.int .i32 t413)).setCell ⟨b417, 3, none⟩ (.int .i32 t414)).setCell ⟨b417, 4, none⟩ (.int .i32 t415)).heap[b400]? = some (.cells #[.int .u32 a1_0, .int .i32 a1_1, .int .i32 a1_2, .int .i32 a1_3, .int .i32 a1_4, .int .i32 a1_5, .int .i32 a1_6, .int .i32 a1_7, .int .i32 a1_8, .int .i32 a1_9] 26 (0, 0))) := ⟨by (with_reducible repeat first | apply bN | apply bD | apply bA); refine bR ?_ N8_.out _; (with_reducible repeat first | apply bN | apply bD | apply bA); refine bR ?_ N8_.out _; (with_reducible repeat first | apply bN | apply bD | apply bA); refine bR ?_ N8_.out _; (with_reducible repeat first | apply bN | apply bD | apply bA); refine bR ?_ N8_.out _; (with_reducible repeat first | apply bN | apply bD | apply bA); refine bR ?_ N8_.out _; (with_reducible repeat first | apply bN | apply bD | apply bA); exact BK400.out⟩
       have n2_ : Aside0 ((((((w36.setCell ⟨b417, 0, none⟩ (.int .u32 t411)).setCell ⟨b417, 1, none⟩ (.int .u32 t412)).setCell ⟨b417, 2, none⟩ (.int .i32 t413)).setCell ⟨b417, 3, none⟩ (.int .i32 t414)).setCell ⟨b417, 4, none⟩ (.int .i32 t415)).heap[b410]? = some (.cells #[.int .u32 t404, .int .u32 t405, .int .i32 t406, .int .i32 t407, .int .i32 t408] 32 (0, 0))) := ⟨by (with_reducible repeat first | apply bN | apply bD | apply bA); refine bR ?_ N10_.out _; (with_reducible repeat first | apply bN | apply bD | apply bA); refine bR ?_ N10_.out _; (with_reducible repeat first | apply bN | apply bD | apply bA); refine bR ?_ N10_.out _; (with_reducible repeat first | apply bN | apply bD | apply bA); refine bR ?_ N10_.out _; (with_reducible repeat first | apply bN | apply bD | apply bA); refine bR ?_ N10_.out _; (with_reducible repeat first | apply bN | apply bD | apply bA); exact BK410.out⟩
       have n3_ : Aside0 ((((((w36.setCell ⟨b417, 0, none⟩ (.int .u32 t411)).setCell ⟨b417, 1, none⟩ (.int .u32 t412)).setCell ⟨b417, 2, none⟩ (.int .i32 t413)).setCell ⟨b417, 3, none⟩ (.int .i32 t414)).setCell ⟨b417, 4, none⟩ (.int .i32 t415)).heap[b417]? = some (.cells #[.int .u32 t411, .int .u32 t412, .int .i32 t413, .int .i32 t414, .int .i32 t415] 32 (0, 0))) := ⟨by (with_reducible repeat first | apply bN | apply bD | apply bA); refine bP (cs := #[.int .u32 t411, .int .u32 t412, .int .i32 t413, .int .i32 t414, .int .i32 0]) ?_ 4 _ rfl; (with_reducible repeat first | apply bN | apply bD | apply bA); refine bP (cs := #[.int .u32 t411, .int .u32 t412, .int .i32 t413, .int .i32 0, .int .i32 0]) ?_ 3 _ rfl; (with_reducible repeat first | apply bN | apply bD | apply bA); refine bP (cs := #[.int .u32 t411, .int .u32 t412, .int .i32 0, .int .i32 0, .int .i32 0]) ?_ 2 _ rfl; (with_reducible repeat first | apply bN | apply bD | apply bA); refine bP (cs := #[.int .u32 t411, .int .u32 0, .int .i32 0, .int .i32 0, .int .i32 0]) ?_ 1 _ rfl; (with_reducible repeat first | apply bN | apply bD | apply bA); refine bP (cs := #[.int .u32 0, .int .u32 0, .int .i32 0, .int .i32 0, .int .i32 0]) ?_ 0 _ rfl; (with_reducible repeat first | apply bN | apply bD | apply bA); exact BK417.out⟩
       have n4_ : Aside0 (Below w.heap.size w (((((w36.setCell ⟨b417, 0, none⟩ (.int .u32 t411)).setCell ⟨b417, 1, none⟩ (.int .u32 t412)).setCell ⟨b417, 2, none⟩ (.int .i32 t413)).setCell ⟨b417, 3, none⟩ (.int .i32 t414)).setCell ⟨b417, 4, none⟩ (.int .i32 t415))) := ⟨by repeat (first | (with_reducible first | exact HB.out | apply lA | apply lN | apply lD | refine lS ?_ GE399.out | refine lS ?_ GE400.out | refine lS ?_ GE410.out | refine lS ?_ GE417.out) | exact HB.out)⟩
       (try clear BK399)
       (try clear BK400)
       (try clear BK410)
       (try clear BK417)
       (try clear HB)
       generalize (((((w36.setCell ⟨b417, 0, none⟩ (.int .u32 t411)).setCell ⟨b417, 1, none⟩ (.int .u32 t412)).setCell ⟨b417, 2, none⟩ (.int .i32 t413)).setCell ⟨b417, 3, none⟩ (.int .i32 t414)).setCell ⟨b417, 4, none⟩ (.int .i32 t415)) = w41 at n0_ n1_ n2_ n3_ n4_ ⊢
       have BK399 := n0_
       have BK400 := n1_
       have BK410 := n2_
       have BK417 := n3_
       have HB := n4_
       clear n0_ n1_ n2_ n3_ n4_
       have n0_ := aM (bD BK399.out)
       have n1_ := aM (bD BK400.out)
       have n2_ := aM (bD BK410.out)
       have n3_ := aM (bD BK417.out)
       have n4_ := aM (lD HB.out)
       clear BK399
       clear BK400
       clear BK410
       clear BK417
       clear HB
       have BK399 := n0_
       have BK400 := n1_
       have BK410 := n2_
       have BK417 := n3_
       have HB := n4_
       clear n0_ n1_ n2_ n3_ n4_
       refine start_ (n := 25) (S := fun w' => w'.cell? ⟨b410, 0, none⟩ = some (.int .u32 t404) ∧ w'.cell? ⟨b410, 1, none⟩ = some (.int .u32 t405) ∧ w'.cell? ⟨b410, 2, none⟩ = some (.int .i32 t406) ∧ w'.cell? ⟨b410, 3, none⟩ = some (.int .i32 t407) ∧ w'.cell? ⟨b410, 4, none⟩ = some (.int .i32 t408) ∧ w'.cell? ⟨b417, 0, none⟩ = some (.int .u32 t411) ∧ w'.cell? ⟨b417, 1, none⟩ = some (.int .u32 t412) ∧ w'.cell? ⟨b417, 2, none⟩ = some (.int .i32 t413) ∧ w'.cell? ⟨b417, 3, none⟩ = some (.int .i32 t414) ∧ w'.cell? ⟨b417, 4, none⟩ = some (.int .i32 t415) ∧ w'.cell? ⟨b399, 0, none⟩ = some (.int .u32 a0_0) ∧ w'.cell? ⟨b399, 1, none⟩ = some (.int .i32 a0_1) ∧ w'.cell? ⟨b399, 2, none⟩ = some (.int .i32 a0_2) ∧ w'.cell? ⟨b399, 3, none⟩ = some (.int .i32 a0_3) ∧ w'.cell? ⟨b399, 4, none⟩ = some (.int .i32 a0_4) ∧ w'.cell? ⟨b399, 5, none⟩ = some (.int .i32 a0_5) ∧ w'.cell? ⟨b399, 6, none⟩ = some (.int .i32 a0_6) ∧ w'.cell? ⟨b399, 7, none⟩ = some (.int .i32 a0_7) ∧ w'.cell? ⟨b399, 8, none⟩ = some (.int .i32 a0_8) ∧ w'.cell? ⟨b399, 9, none⟩ = some (.int .i32 a0_9) ∧ w'.cell? ⟨b400, 0, none⟩ = some (.int .u32 a1_0) ∧ w'.cell? ⟨b400, 1, none⟩ = some (.int .i32 a1_1) ∧ w'.cell? ⟨b400, 2, none⟩ = some (.int .i32 a1_2) ∧ w'.cell? ⟨b400, 3, none⟩ = some (.int .i32 a1_3) ∧ w'.cell? ⟨b400, 4, none⟩ = some (.int .i32 a1_4) ∧ w'.cell? ⟨b400, 5, none⟩ = some (.int .i32 a1_5) ∧ w'.cell? ⟨b400, 6, none⟩ = some (.int .i32 a1_6) ∧ w'.cell? ⟨b400, 7, none⟩ = some (.int .i32 a1_7) ∧ w'.cell? ⟨b400, 8, none⟩ = some (.int .i32 a1_8) ∧ w'.cell? ⟨b400, 9, none⟩ = some (.int .i32 a1_9)) (ds := []) #[F,F,F,F,F,F,F,F,F,F,F,F,F,F,F,F,F,F,F,F,F,F,F,F,F] (by kernel_rfl) rfl rfl ⟨(bC BK410.out 0).trans rfl, (bC BK410.out 1).trans rfl, (bC BK410.out 2).trans rfl, (bC BK410.out 3).trans rfl, (bC BK410.out 4).trans rfl, (bC BK417.out 0).trans rfl, (bC BK417.out 1).trans rfl, (bC BK417.out 2).trans rfl, (bC BK417.out 3).trans rfl, (bC BK417.out 4).trans rfl, (bC BK399.out 0).trans rfl, (bC BK399.out 1).trans rfl, (bC BK399.out 2).trans rfl, (bC BK399.out 3).trans rfl, (bC BK399.out 4).trans rfl, (bC BK399.out 5).trans rfl, (bC BK399.out 6).trans rfl, (bC BK399.out 7).trans rfl, (bC BK399.out 8).trans rfl, (bC BK399.out 9).trans rfl, (bC BK400.out 0).trans rfl, (bC BK400.out 1).trans rfl, (bC BK400.out 2).trans rfl, (bC BK400.out 3).trans rfl, (bC BK400.out 4).trans rfl, (bC BK400.out 5).trans rfl, (bC BK400.out 6).trans rfl, (bC BK400.out 7).trans rfl, (bC BK400.out 8).trans rfl, (bC BK400.out 9).trans rfl⟩ (fun hHeld => ?_); refine with_tabW billiardlaw14_ContactMatchesReference.tab5 billiardlaw14_ContactMatchesReference.bits5 (fun HT_ HW_ => ?_)
       generalize w41.drew = w42 at BK399 BK400 BK410 BK417 HB hHeld ⊢
       refine take_ (i := 0) (N := some 30) (v := ?_) (a' := ?_) #[T,F,F,F,F,F,F,F,F,F,F,F,F,F,F,F,F,F,F,F,F,F,F,F,F] rfl rfl (take_ofW HT_.out HW_.out (by kernel_rfl)) (fun _ _ _ h => h) (Or.inl ⟨by rfl, ?_⟩) hHeld ?_ ?_
       rotate_left
       ·rintro w' ⟨s0, s1, s2, s3, s4, s5, s6, s7, s8, s9, s10, s11, s12, s13, s14, s15, s16, s17, s18, s19, s20, s21, s22, s23, s24, s25, s26, s27, s28, s29⟩
        go_simp
        with_reducible rfl
       rotate_left
       ·simp only [Act.put, sA, sB, sC, i64_w, i32_w]
        rfl
       refine take_ (i := 1) (N := some 31) (v := ?_) (a' := ?_) #[T,T,F,F,F,F,F,F,F,F,F,F,F,F,F,F,F,F,F,F,F,F,F,F,F] rfl rfl (take_ofW HT_.out HW_.out (by kernel_rfl)) (fun _ _ _ h => h) (Or.inl ⟨by rfl, ?_⟩) hHeld ?_ ?_
       rotate_left
       ·rintro w' ⟨s0, s1, s2, s3, s4, s5, s6, s7, s8, s9, s10, s11, s12, s13, s14, s15, s16, s17, s18, s19, s20, s21, s22, s23, s24, s25, s26, s27, s28, s29⟩
        go_simp
        with_reducible rfl
       rotate_left
       ·simp only [Act.put, sA, sB, sC, i64_w, i32_w]
        rfl
       refine pure_ (i := 2) (N := some 32) (v := ?_) (a' := ?_) #[T,T,T,F,F,F,F,F,F,F,F,F,F,F,F,F,F,F,F,F,F,F,F,F,F] rfl rfl (any_of HT_.out (by kernel_rfl)) (fun _ _ _ h => h) (Or.inl ⟨by rfl, ?_⟩) ?_ ?_
       rotate_left
       ·intro w'
        go_simp
        with_reducible rfl
       rotate_left
       ·simp only [Act.put, sA, sB, sC, i64_w, i32_w]
        rfl
       refine pure_ (i := 3) (N := some 33) (v := ?_) (a' := ?_) #[T,T,T,T,F,F,F,F,F,F,F,F,F,F,F,F,F,F,F,F,F,F,F,F,F] rfl rfl (any_of HT_.out (by kernel_rfl)) (fun _ _ _ h => h) (Or.inl ⟨by rfl, ?_⟩) ?_ ?_
       rotate_left
       ·intro w'
        go_simp
        with_reducible rfl
       rotate_left
       ·simp only [Act.put, sA, sB, sC, i64_w, i32_w]
        rfl
       refine pure_ (i := 4) (N := some 34) (v := ?_) (a' := ?_) #[T,T,T,T,T,F,F,F,F,F,F,F,F,F,F,F,F,F,F,F,F,F,F,F,F] rfl rfl (any_of HT_.out (by kernel_rfl)) (fun _ _ _ h => h) (Or.inl ⟨by rfl, ?_⟩) ?_ ?_
       rotate_left
       ·intro w'
        go_simp
        with_reducible rfl
       rotate_left
       ·simp only [Act.put, sA, sB, sC, i64_w, i32_w]
        rfl
       refine pure_ (i := 5) (N := some 35) (v := ?_) (a' := ?_) #[T,T,T,T,T,T,F,F,F,F,F,F,F,F,F,F,F,F,F,F,F,F,F,F,F] rfl rfl (any_of HT_.out (by kernel_rfl)) (fun _ _ _ h => h) (Or.inl ⟨by rfl, ?_⟩) ?_ ?_
       rotate_left
       ·intro w'
        go_simp
        with_reducible rfl
       rotate_left
       ·simp only [Act.put, sA, sB, sC, i64_w, i32_w]
        rfl
       refine pure_ (i := 6) (N := some 36) (v := ?_) (a' := ?_) #[T,T,T,T,T,T,T,F,F,F,F,F,F,F,F,F,F,F,F,F,F,F,F,F,F] rfl rfl (any_of HT_.out (by kernel_rfl)) (fun _ _ _ h => h) (Or.inl ⟨by rfl, ?_⟩) ?_ ?_
       rotate_left
       ·intro w'
        go_simp
        with_reducible rfl
       rotate_left
       ·simp only [Act.put, sA, sB, sC, i64_w, i32_w]
        rfl
       refine pure_ (i := 7) (N := some 37) (v := ?_) (a' := ?_) #[T,T,T,T,T,T,T,T,F,F,F,F,F,F,F,F,F,F,F,F,F,F,F,F,F] rfl rfl (any_of HT_.out (by kernel_rfl)) (fun _ _ _ h => h) (Or.inl ⟨by rfl, ?_⟩) ?_ ?_
       rotate_left
       ·intro w'
        go_simp
        with_reducible rfl
       rotate_left
       ·simp only [Act.put, sA, sB, sC, i64_w, i32_w]
        rfl
       refine pure_ (i := 8) (N := some 38) (v := ?_) (a' := ?_) #[T,T,T,T,T,T,T,T,T,F,F,F,F,F,F,F,F,F,F,F,F,F,F,F,F] rfl rfl (any_of HT_.out (by kernel_rfl)) (fun _ _ _ h => h) (Or.inl ⟨by rfl, ?_⟩) ?_ ?_
       rotate_left
       ·intro w'
        go_simp
        with_reducible rfl
       rotate_left
       ·simp only [Act.put, sA, sB, sC, i64_w, i32_w]
        rfl
       refine pure_ (i := 12) (N := some 42) (v := ?_) (a' := ?_) #[T,T,T,T,T,T,T,T,T,F,F,F,T,F,F,F,F,F,F,F,F,F,F,F,F] rfl rfl (any_of HT_.out (by kernel_rfl)) (fun _ _ _ h => h) (Or.inl ⟨by rfl, ?_⟩) ?_ ?_
       rotate_left
       ·intro w'
        go_simp
        with_reducible rfl
       rotate_left
       ·simp only [Act.put, sA, sB, sC, i64_w, i32_w]
        rfl
       refine take_ (i := 9) (N := some 39) (v := ?_) (a' := ?_) #[T,T,T,T,T,T,T,T,T,T,F,F,T,F,F,F,F,F,F,F,F,F,F,F,F] rfl rfl (take_ofW HT_.out HW_.out (by kernel_rfl)) (fun _ _ _ h => h) (Or.inl ⟨by rfl, ?_⟩) hHeld ?_ ?_
       rotate_left
       ·rintro w' ⟨s0, s1, s2, s3, s4, s5, s6, s7, s8, s9, s10, s11, s12, s13, s14, s15, s16, s17, s18, s19, s20, s21, s22, s23, s24, s25, s26, s27, s28, s29⟩
        go_simp
        with_reducible rfl
       rotate_left
       ·simp only [Act.put, sA, sB, sC, i64_w, i32_w]
        rfl
       refine take_ (i := 10) (N := some 40) (v := ?_) (a' := ?_) #[T,T,T,T,T,T,T,T,T,T,T,F,T,F,F,F,F,F,F,F,F,F,F,F,F] rfl rfl (take_ofW HT_.out HW_.out (by kernel_rfl)) (fun _ _ _ h => h) (Or.inl ⟨by rfl, ?_⟩) hHeld ?_ ?_
       rotate_left
       ·rintro w' ⟨s0, s1, s2, s3, s4, s5, s6, s7, s8, s9, s10, s11, s12, s13, s14, s15, s16, s17, s18, s19, s20, s21, s22, s23, s24, s25, s26, s27, s28, s29⟩
        go_simp
        with_reducible rfl
       rotate_left
       ·simp only [Act.put, sA, sB, sC, i64_w, i32_w]
        rfl
       refine one_ (i := 11) (N := some 41) #[T,T,T,T,T,T,T,T,T,T,T,T,T,F,F,F,F,F,F,F,F,F,F,F,F] rfl rfl (one_of HT_.out (by kernel_rfl)) (by decide) (fun K hK => ?_)
       refine goes_ Try.func12 (by kernel_rfl) rfl #[.agg #[.int .u32 a0_0, .int .i32 a0_1, .int .i32 a0_2, .int .i32 a0_3, .int .i32 a0_4, .int .i32 a0_5, .int .i32 a0_6, .int .i32 a0_7, .int .i32 a0_8, .int .i32 a0_9], .agg #[.int .u32 a1_0, .int .i32 a1_1, .int .i32 a1_2, .int .i32 a1_3, .int .i32 a1_4, .int .i32 a1_5, .int .i32 a1_6, .int .i32 a1_7, .int .i32 a1_8, .int .i32 a1_9]] (by rfl) rfl rfl (by (try simp only [List.map_toArray, List.map_cons, List.map_nil]); first | done | rfl | (simp only [List.length_drop, List.length_take]; rfl)) ?_
       with_reducible refine (contact_Touch.calls kj2 a0_0 a0_1 a0_2 a0_3 a0_4 a0_5 a0_6 a0_7 a0_8 a0_9 a1_0 a1_1 a1_2 a1_3 a1_4 a1_5 a1_6 a1_7 a1_8 a1_9 t418 _ A21.out).mono ?_
       rintro e w43 ⟨rfl, hb⟩
       refine ⟨_, rfl, ?_⟩
       have n0_ := aM (bB (by (with_reducible repeat first | apply bN | apply bD | apply bA); exact BK399.out) hb)
       have n1_ := aM (bB (by (with_reducible repeat first | apply bN | apply bD | apply bA); exact BK400.out) hb)
       have n2_ := aM (bB (by (with_reducible repeat first | apply bN | apply bD | apply bA); exact BK410.out) hb)
       have n3_ := aM (bB (by (with_reducible repeat first | apply bN | apply bD | apply bA); exact BK417.out) hb)
       have n4_ := aM (lT (by repeat (first | (with_reducible first | exact HB.out | apply lA | apply lN | apply lD | refine lS ?_ GE399.out | refine lS ?_ GE400.out | refine lS ?_ GE410.out | refine lS ?_ GE417.out) | exact HB.out)) hb)
       clear BK399
       clear BK400
       clear BK410
       clear BK417
       clear HB
       have BK399 := n0_
       have BK400 := n1_
       have BK410 := n2_
       have BK417 := n3_
       have HB := n4_
       clear n0_ n1_ n2_ n3_ n4_
       (try clear hb)
       (try clear hb2)
       (try clear hk)
       (try clear hi)
       refine hK.out _ _ ⟨(bC BK410.out 0).trans rfl, (bC BK410.out 1).trans rfl, (bC BK410.out 2).trans rfl, (bC BK410.out 3).trans rfl, (bC BK410.out 4).trans rfl, (bC BK417.out 0).trans rfl, (bC BK417.out 1).trans rfl, (bC BK417.out 2).trans rfl, (bC BK417.out 3).trans rfl, (bC BK417.out 4).trans rfl, (bC BK399.out 0).trans rfl, (bC BK399.out 1).trans rfl, (bC BK399.out 2).trans rfl, (bC BK399.out 3).trans rfl, (bC BK399.out 4).trans rfl, (bC BK399.out 5).trans rfl, (bC BK399.out 6).trans rfl, (bC BK399.out 7).trans rfl, (bC BK399.out 8).trans rfl, (bC BK399.out 9).trans rfl, (bC BK400.out 0).trans rfl, (bC BK400.out 1).trans rfl, (bC BK400.out 2).trans rfl, (bC BK400.out 3).trans rfl, (bC BK400.out 4).trans rfl, (bC BK400.out 5).trans rfl, (bC BK400.out 6).trans rfl, (bC BK400.out 7).trans rfl, (bC BK400.out 8).trans rfl, (bC BK400.out 9).trans rfl⟩ (fun hHeld => ?_)
       clear hK K
       refine norm_ (a' := ?_) ?_ ?_
       rotate_left
       ·show Act.put _ (some 41) _ = _
        simp only [Act.put, sA, sB, sC, i64_w, i32_w]
        rfl
       refine pure_ (i := 13) (N := some 43) (v := ?_) (a' := ?_) #[T,T,T,T,T,T,T,T,T,T,T,T,T,T,F,F,F,F,F,F,F,F,F,F,F] rfl rfl (any_of HT_.out (by kernel_rfl)) (fun _ _ _ h => h) (Or.inl ⟨by rfl, ?_⟩) ?_ ?_
       rotate_left
       ·intro w'
        go_simp
        with_reducible rfl
       rotate_left
       ·simp only [Act.put, sA, sB, sC, i64_w, i32_w]
        rfl
       refine pure_ (i := 14) (N := some 44) (v := ?_) (a' := ?_) #[T,T,T,T,T,T,T,T,T,T,T,T,T,T,T,F,F,F,F,F,F,F,F,F,F] rfl rfl (any_of HT_.out (by kernel_rfl)) (fun _ _ _ h => h) (Or.inl ⟨by rfl, ?_⟩) ?_ ?_
       rotate_left
       ·intro w'
        go_simp
        with_reducible rfl
       rotate_left
       ·simp only [Act.put, sA, sB, sC, i64_w, i32_w]
        rfl
       refine pure_ (i := 15) (N := some 45) (v := ?_) (a' := ?_) #[T,T,T,T,T,T,T,T,T,T,T,T,T,T,T,T,F,F,F,F,F,F,F,F,F] rfl rfl (any_of HT_.out (by kernel_rfl)) (fun _ _ _ h => h) (Or.inl ⟨by rfl, ?_⟩) ?_ ?_
       rotate_left
       ·intro w'
        go_simp
        with_reducible rfl
       rotate_left
       ·simp only [Act.put, sA, sB, sC, i64_w, i32_w]
        rfl
       refine take_ (i := 16) (N := some 46) (v := ?_) (a' := ?_) #[T,T,T,T,T,T,T,T,T,T,T,T,T,T,T,T,T,F,F,F,F,F,F,F,F] rfl rfl (take_ofW HT_.out HW_.out (by kernel_rfl)) (fun _ _ _ h => h) (Or.inl ⟨by rfl, ?_⟩) hHeld ?_ ?_
       rotate_left
       ·rintro w' ⟨s0, s1, s2, s3, s4, s5, s6, s7, s8, s9, s10, s11, s12, s13, s14, s15, s16, s17, s18, s19, s20, s21, s22, s23, s24, s25, s26, s27, s28, s29⟩
        go_simp
        with_reducible rfl
       rotate_left
       ·simp only [Act.put, sA, sB, sC, i64_w, i32_w]
        rfl
       refine take_ (i := 17) (N := some 47) (v := ?_) (a' := ?_) #[T,T,T,T,T,T,T,T,T,T,T,T,T,T,T,T,T,T,F,F,F,F,F,F,F] rfl rfl (take_ofW HT_.out HW_.out (by kernel_rfl)) (fun _ _ _ h => h) (Or.inl ⟨by rfl, ?_⟩) hHeld ?_ ?_
       rotate_left
       ·rintro w' ⟨s0, s1, s2, s3, s4, s5, s6, s7, s8, s9, s10, s11, s12, s13, s14, s15, s16, s17, s18, s19, s20, s21, s22, s23, s24, s25, s26, s27, s28, s29⟩
        go_simp
        with_reducible rfl
       rotate_left
       ·simp only [Act.put, sA, sB, sC, i64_w, i32_w]
        rfl
       refine take_ (i := 19) (N := some 49) (v := ?_) (a' := ?_) #[T,T,T,T,T,T,T,T,T,T,T,T,T,T,T,T,T,T,F,T,F,F,F,F,F] rfl rfl (take_ofW HT_.out HW_.out (by kernel_rfl)) (fun _ _ _ h => h) (Or.inl ⟨by rfl, ?_⟩) hHeld ?_ ?_
       rotate_left
       ·rintro w' ⟨s0, s1, s2, s3, s4, s5, s6, s7, s8, s9, s10, s11, s12, s13, s14, s15, s16, s17, s18, s19, s20, s21, s22, s23, s24, s25, s26, s27, s28, s29⟩
        go_simp
        with_reducible rfl
       rotate_left
       ·simp only [Act.put, sA, sB, sC, i64_w, i32_w]
        rfl
       refine take_ (i := 20) (N := some 50) (v := ?_) (a' := ?_) #[T,T,T,T,T,T,T,T,T,T,T,T,T,T,T,T,T,T,F,T,T,F,F,F,F] rfl rfl (take_ofW HT_.out HW_.out (by kernel_rfl)) (fun _ _ _ h => h) (Or.inl ⟨by rfl, ?_⟩) hHeld ?_ ?_
       rotate_left
       ·rintro w' ⟨s0, s1, s2, s3, s4, s5, s6, s7, s8, s9, s10, s11, s12, s13, s14, s15, s16, s17, s18, s19, s20, s21, s22, s23, s24, s25, s26, s27, s28, s29⟩
        go_simp
        with_reducible rfl
       rotate_left
       ·simp only [Act.put, sA, sB, sC, i64_w, i32_w]
        rfl
       refine one_ (i := 18) (N := some 48) #[T,T,T,T,T,T,T,T,T,T,T,T,T,T,T,T,T,T,T,T,T,F,F,F,F] rfl rfl (one_of HT_.out (by kernel_rfl)) (by decide) (fun K hK => ?_)
       refine goes_ Try.func13 (by kernel_rfl) rfl #[.agg #[.int .u32 a0_0, .int .i32 a0_1, .int .i32 a0_2, .int .i32 a0_3, .int .i32 a0_4, .int .i32 a0_5, .int .i32 a0_6, .int .i32 a0_7, .int .i32 a0_8, .int .i32 a0_9], .agg #[.int .u32 a1_0, .int .i32 a1_1, .int .i32 a1_2, .int .i32 a1_3, .int .i32 a1_4, .int .i32 a1_5, .int .i32 a1_6, .int .i32 a1_7, .int .i32 a1_8, .int .i32 a1_9]] (by rfl) rfl rfl (by (try simp only [List.map_toArray, List.map_cons, List.map_nil]); first | done | rfl | (simp only [List.length_drop, List.length_take]; rfl)) ?_
       with_reducible refine (contact_Gap.calls kj2 a0_0 a0_1 a0_2 a0_3 a0_4 a0_5 a0_6 a0_7 a0_8 a0_9 a1_0 a1_1 a1_2 a1_3 a1_4 a1_5 a1_6 a1_7 a1_8 a1_9 t419 _ A23.out).mono ?_
       rintro e w44 ⟨rfl, hb⟩
       refine ⟨_, rfl, ?_⟩
       have n0_ := aM (bB (by (with_reducible repeat first | apply bN | apply bD | apply bA); exact BK399.out) hb)
       have n1_ := aM (bB (by (with_reducible repeat first | apply bN | apply bD | apply bA); exact BK400.out) hb)
       have n2_ := aM (bB (by (with_reducible repeat first | apply bN | apply bD | apply bA); exact BK410.out) hb)
       have n3_ := aM (bB (by (with_reducible repeat first | apply bN | apply bD | apply bA); exact BK417.out) hb)
       have n4_ := aM (lT (by repeat (first | (with_reducible first | exact HB.out | apply lA | apply lN | apply lD | refine lS ?_ GE399.out | refine lS ?_ GE400.out | refine lS ?_ GE410.out | refine lS ?_ GE417.out) | exact HB.out)) hb)
       clear BK399
       clear BK400
       clear BK410
       clear BK417
       clear HB
       have BK399 := n0_
       have BK400 := n1_
       have BK410 := n2_
       have BK417 := n3_
       have HB := n4_
       clear n0_ n1_ n2_ n3_ n4_
       (try clear hb)
       (try clear hb2)
       (try clear hk)
       (try clear hi)
       refine hK.out _ _ ⟨(bC BK410.out 0).trans rfl, (bC BK410.out 1).trans rfl, (bC BK410.out 2).trans rfl, (bC BK410.out 3).trans rfl, (bC BK410.out 4).trans rfl, (bC BK417.out 0).trans rfl, (bC BK417.out 1).trans rfl, (bC BK417.out 2).trans rfl, (bC BK417.out 3).trans rfl, (bC BK417.out 4).trans rfl, (bC BK399.out 0).trans rfl, (bC BK399.out 1).trans rfl, (bC BK399.out 2).trans rfl, (bC BK399.out 3).trans rfl, (bC BK399.out 4).trans rfl, (bC BK399.out 5).trans rfl, (bC BK399.out 6).trans rfl, (bC BK399.out 7).trans rfl, (bC BK399.out 8).trans rfl, (bC BK399.out 9).trans rfl, (bC BK400.out 0).trans rfl, (bC BK400.out 1).trans rfl, (bC BK400.out 2).trans rfl, (bC BK400.out 3).trans rfl, (bC BK400.out 4).trans rfl, (bC BK400.out 5).trans rfl, (bC BK400.out 6).trans rfl, (bC BK400.out 7).trans rfl, (bC BK400.out 8).trans rfl, (bC BK400.out 9).trans rfl⟩ (fun hHeld => ?_)
       clear hK K
       refine norm_ (a' := ?_) ?_ ?_
       rotate_left
       ·show Act.put _ (some 48) _ = _
        simp only [Act.put, sA, sB, sC, i64_w, i32_w]
        rfl
       refine one_ (i := 21) (N := some 51) #[T,T,T,T,T,T,T,T,T,T,T,T,T,T,T,T,T,T,T,T,T,T,F,F,F] rfl rfl (one_of HT_.out (by kernel_rfl)) (by decide) (fun K hK => ?_)
       refine goes_ Try.func14 (by kernel_rfl) rfl #[.agg #[.int .u32 a0_0, .int .i32 a0_1, .int .i32 a0_2, .int .i32 a0_3, .int .i32 a0_4, .int .i32 a0_5, .int .i32 a0_6, .int .i32 a0_7, .int .i32 a0_8, .int .i32 a0_9], .agg #[.int .u32 a1_0, .int .i32 a1_1, .int .i32 a1_2, .int .i32 a1_3, .int .i32 a1_4, .int .i32 a1_5, .int .i32 a1_6, .int .i32 a1_7, .int .i32 a1_8, .int .i32 a1_9]] (by rfl) rfl rfl (by (try simp only [List.map_toArray, List.map_cons, List.map_nil]); first | done | rfl | (simp only [List.length_drop, List.length_take]; rfl)) ?_
       with_reducible refine (billiardref14_Gap.calls kj2 a0_0 a0_1 a0_2 a0_3 a0_4 a0_5 a0_6 a0_7 a0_8 a0_9 a1_0 a1_1 a1_2 a1_3 a1_4 a1_5 a1_6 a1_7 a1_8 a1_9 t420 _ A24.out).mono ?_
       rintro e w45 ⟨rfl, hb⟩
       refine ⟨_, rfl, ?_⟩
       have n0_ := aM (bB (by (with_reducible repeat first | apply bN | apply bD | apply bA); exact BK399.out) hb)
       have n1_ := aM (bB (by (with_reducible repeat first | apply bN | apply bD | apply bA); exact BK400.out) hb)
       have n2_ := aM (bB (by (with_reducible repeat first | apply bN | apply bD | apply bA); exact BK410.out) hb)
       have n3_ := aM (bB (by (with_reducible repeat first | apply bN | apply bD | apply bA); exact BK417.out) hb)
       have n4_ := aM (lT (by repeat (first | (with_reducible first | exact HB.out | apply lA | apply lN | apply lD | refine lS ?_ GE399.out | refine lS ?_ GE400.out | refine lS ?_ GE410.out | refine lS ?_ GE417.out) | exact HB.out)) hb)
       clear BK399
       clear BK400
       clear BK410
       clear BK417
       clear HB
       have BK399 := n0_
       have BK400 := n1_
       have BK410 := n2_
       have BK417 := n3_
       have HB := n4_
       clear n0_ n1_ n2_ n3_ n4_
       (try clear hb)
       (try clear hb2)
       (try clear hk)
       (try clear hi)
       refine hK.out _ _ ⟨(bC BK410.out 0).trans rfl, (bC BK410.out 1).trans rfl, (bC BK410.out 2).trans rfl, (bC BK410.out 3).trans rfl, (bC BK410.out 4).trans rfl, (bC BK417.out 0).trans rfl, (bC BK417.out 1).trans rfl, (bC BK417.out 2).trans rfl, (bC BK417.out 3).trans rfl, (bC BK417.out 4).trans rfl, (bC BK399.out 0).trans rfl, (bC BK399.out 1).trans rfl, (bC BK399.out 2).trans rfl, (bC BK399.out 3).trans rfl, (bC BK399.out 4).trans rfl, (bC BK399.out 5).trans rfl, (bC BK399.out 6).trans rfl, (bC BK399.out 7).trans rfl, (bC BK399.out 8).trans rfl, (bC BK399.out 9).trans rfl, (bC BK400.out 0).trans rfl, (bC BK400.out 1).trans rfl, (bC BK400.out 2).trans rfl, (bC BK400.out 3).trans rfl, (bC BK400.out 4).trans rfl, (bC BK400.out 5).trans rfl, (bC BK400.out 6).trans rfl, (bC BK400.out 7).trans rfl, (bC BK400.out 8).trans rfl, (bC BK400.out 9).trans rfl⟩ (fun hHeld => ?_)
       clear hK K
       refine norm_ (a' := ?_) ?_ ?_
       rotate_left
       ·show Act.put _ (some 51) _ = _
        simp only [Act.put, sA, sB, sC, i64_w, i32_w]
        rfl
       refine pure_ (i := 22) (N := some 52) (v := ?_) (a' := ?_) #[T,T,T,T,T,T,T,T,T,T,T,T,T,T,T,T,T,T,T,T,T,T,T,F,F] rfl rfl (any_of HT_.out (by kernel_rfl)) (fun _ _ _ h => h) (Or.inl ⟨by rfl, ?_⟩) ?_ ?_
       rotate_left
       ·intro w'
        go_simp
        with_reducible rfl
       rotate_left
       ·simp only [Act.put, sA, sB, sC, i64_w, i32_w]
        rfl
       refine pure_ (i := 23) (N := some 53) (v := ?_) (a' := ?_) #[T,T,T,T,T,T,T,T,T,T,T,T,T,T,T,T,T,T,T,T,T,T,T,T,F] rfl rfl (any_of HT_.out (by kernel_rfl)) (fun _ _ _ h => h) (Or.inl ⟨by rfl, ?_⟩) ?_ ?_
       rotate_left
       ·intro w'
        go_simp
        with_reducible rfl
       rotate_left
       ·simp only [Act.put, sA, sB, sC, i64_w, i32_w]
        rfl
       refine pure_ (i := 24) (N := some 4) (v := ?_) (a' := ?_) #[T,T,T,T,T,T,T,T,T,T,T,T,T,T,T,T,T,T,T,T,T,T,T,T,T] rfl rfl (any_of HT_.out (by kernel_rfl)) (fun _ _ _ h => h) (Or.inl ⟨by rfl, ?_⟩) ?_ ?_
       rotate_left
       ·intro w'
        go_simp
        with_reducible rfl
       rotate_left
       ·simp only [Act.put, sA, sB, sC, i64_w, i32_w]
        rfl
       refine done_ (done_of HT_.out (by kernel_rfl)) ?_
       try go_wp2
       go_ret
       exact ⟨by first | rfl | (simp [errW_none, errW_some] <;> rfl) | (simp [*, errW_none, errW_some] <;> rfl), by repeat (first | (with_reducible first | exact HB.out | apply lA | apply lN | apply lD | refine lS ?_ GE399.out | refine lS ?_ GE400.out | refine lS ?_ GE410.out | refine lS ?_ GE417.out) | exact HB.out)⟩
      ·rw [if_neg c22] at H
       have c22b0 : (t418 == t416) = false := by simpa using c22
       (try (have c22b1 : decide (t418 = t416) = false := by simpa using c22))
       (try (have c22b2 : (t418 == t416) = false := by simpa using c22))
       (try (have c22b3 : ¬ (t418 = t416) := by simpa using c22))
       clear c22
       exact absurd ((Option.some.inj H).trans HR.out) (by decide)
     ·rw [if_neg c20] at H
      have c20b0 : (t409 == t416) = false := by simpa using c20
      (try (have c20b1 : decide (t409 = t416) = false := by simpa using c20))
      (try (have c20b2 : (t409 == t416) = false := by simpa using c20))
      (try (have c20b3 : ¬ (t409 = t416) := by simpa using c20))
      clear c20
      exact absurd ((Option.some.inj H).trans HR.out) (by decide)
    ·rw [if_neg c19] at H
     have c19b0 : ((t404 == t411 && (t405 == t412)) && ((t406 == t413 && (t407 == t414)) && (t408 == t415))) = false := by simpa using c19
     clear c19
     exact absurd ((Option.some.inj H).trans HR.out) (by decide)

/-- THE ONE PURE STATEMENT of billiardlaw14_ContactMatchesReference: yours. -/
def billiardlaw14_ContactMatchesReference.Pure : Prop := ∀ (a0_0 : Int) (a0_1 : Int) (a0_2 : Int) (a0_3 : Int) (a0_4 : Int) (a0_5 : Int) (a0_6 : Int) (a0_7 : Int) (a0_8 : Int) (a0_9 : Int) (a1_0 : Int) (a1_1 : Int) (a1_2 : Int) (a1_3 : Int) (a1_4 : Int) (a1_5 : Int) (a1_6 : Int) (a1_7 : Int) (a1_8 : Int) (a1_9 : Int), (Lit.int .u32 a0_0).wf = true → (Lit.int .i32 a0_1).wf = true → (Lit.int .i32 a0_2).wf = true → (Lit.int .i32 a0_3).wf = true → (Lit.int .i32 a0_4).wf = true → (Lit.int .i32 a0_5).wf = true → (Lit.int .i32 a0_6).wf = true → (Lit.int .i32 a0_7).wf = true → (Lit.int .i32 a0_8).wf = true → (Lit.int .i32 a0_9).wf = true → (Lit.int .u32 a1_0).wf = true → (Lit.int .i32 a1_1).wf = true → (Lit.int .i32 a1_2).wf = true → (Lit.int .i32 a1_3).wf = true → (Lit.int .i32 a1_4).wf = true → (Lit.int .i32 a1_5).wf = true → (Lit.int .i32 a1_6).wf = true → (Lit.int .i32 a1_7).wf = true → (Lit.int .i32 a1_8).wf = true → (Lit.int .i32 a1_9).wf = true → ∃ k, billiardlaw14_ContactMatchesReference.f k a0_0 a0_1 a0_2 a0_3 a0_4 a0_5 a0_6 a0_7 a0_8 a0_9 a1_0 a1_1 a1_2 a1_3 a1_4 a1_5 a1_6 a1_7 a1_8 a1_9 = some true
theorem billiardlaw14_ContactMatchesReference.walk (P : billiardlaw14_ContactMatchesReference.Pure) (a0_0 : Int) (a0_1 : Int) (a0_2 : Int) (a0_3 : Int) (a0_4 : Int) (a0_5 : Int) (a0_6 : Int) (a0_7 : Int) (a0_8 : Int) (a0_9 : Int) (a1_0 : Int) (a1_1 : Int) (a1_2 : Int) (a1_3 : Int) (a1_4 : Int) (a1_5 : Int) (a1_6 : Int) (a1_7 : Int) (a1_8 : Int) (a1_9 : Int) (w : World) (w0_0 : (Lit.int .u32 a0_0).wf = true) (w0_1 : (Lit.int .i32 a0_1).wf = true) (w0_2 : (Lit.int .i32 a0_2).wf = true) (w0_3 : (Lit.int .i32 a0_3).wf = true) (w0_4 : (Lit.int .i32 a0_4).wf = true) (w0_5 : (Lit.int .i32 a0_5).wf = true) (w0_6 : (Lit.int .i32 a0_6).wf = true) (w0_7 : (Lit.int .i32 a0_7).wf = true) (w0_8 : (Lit.int .i32 a0_8).wf = true) (w0_9 : (Lit.int .i32 a0_9).wf = true) (w1_0 : (Lit.int .u32 a1_0).wf = true) (w1_1 : (Lit.int .i32 a1_1).wf = true) (w1_2 : (Lit.int .i32 a1_2).wf = true) (w1_3 : (Lit.int .i32 a1_3).wf = true) (w1_4 : (Lit.int .i32 a1_4).wf = true) (w1_5 : (Lit.int .i32 a1_5).wf = true) (w1_6 : (Lit.int .i32 a1_6).wf = true) (w1_7 : (Lit.int .i32 a1_7).wf = true) (w1_8 : (Lit.int .i32 a1_8).wf = true) (w1_9 : (Lit.int .i32 a1_9).wf = true) :
  Calls Try.prog 3 #[.agg #[.int .u32 a0_0, .int .i32 a0_1, .int .i32 a0_2, .int .i32 a0_3, .int .i32 a0_4, .int .i32 a0_5, .int .i32 a0_6, .int .i32 a0_7, .int .i32 a0_8, .int .i32 a0_9], .agg #[.int .u32 a1_0, .int .i32 a1_1, .int .i32 a1_2, .int .i32 a1_3, .int .i32 a1_4, .int .i32 a1_5, .int .i32 a1_6, .int .i32 a1_7, .int .i32 a1_8, .int .i32 a1_9]] w fun e w' => e = .returned (.bool true) ∧ Below w.heap.size w w' := by
 obtain ⟨k, h⟩ := P a0_0 a0_1 a0_2 a0_3 a0_4 a0_5 a0_6 a0_7 a0_8 a0_9 a1_0 a1_1 a1_2 a1_3 a1_4 a1_5 a1_6 a1_7 a1_8 a1_9 w0_0 w0_1 w0_2 w0_3 w0_4 w0_5 w0_6 w0_7 w0_8 w0_9 w1_0 w1_1 w1_2 w1_3 w1_4 w1_5 w1_6 w1_7 w1_8 w1_9
 refine (billiardlaw14_ContactMatchesReference.calls k a0_0 a0_1 a0_2 a0_3 a0_4 a0_5 a0_6 a0_7 a0_8 a0_9 a1_0 a1_1 a1_2 a1_3 a1_4 a1_5 a1_6 a1_7 a1_8 a1_9 true w h rfl).mono ?_
 rintro e w' ⟨rfl, hd⟩
 exact ⟨rfl, hd⟩

end Go.Proofs.Ytahbfafnodeimaa.Q
