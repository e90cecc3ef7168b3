-- PRINTED by print.py (a twelfth state) out of the translation. Not trusted: Lean checks it.
import Derived.Test.YtahbfafnodeimaaQ0
import Derived.Test.YtahbfafnodeimaaQE0
import Derived.Test.YtahbfafnodeimaaQbilliardlaw14
import Derived.Test.YtahbfafnodeimaaQbilliardref14
import Derived.Test.YtahbfafnodeimaaQcontacty1
namespace Go.Proofs.Ytahbfafnodeimaa.Q
open Go.RowKit Go.Proofs.YtahbfafnodeimaaW.PrintWords Go.Proofs.YtahbfafnodeimaaW.PrintLast Go.Proofs.YtahbfafnodeimaaW.PrintMore
open Go.Proofs.YtahbfafnodeimaaW.PrintWords renaming blk_drewN → bN, blk_drew → bD, blk_alloc → bA, blk_below → bB, blk_cell → bC, blk_frozen → bF, blk_far → bR, blk_lt → bL, blk_put → bP, below_alloc → lA, pw_below_drewN → lN, below_drew1 → lD, below_set → lS, below_step → lT, below_size → lZ, Aside0.mk → aM
open List renaming setIfInBounds_toArray → sA, set_cons_zero → sB, set_cons_succ → sC
open Bool renaming true → T, false → F
attribute [local go_sem] max2_int min2_int max_two min_two max_three min_three max_four min_four   -- for this text's walks alone
set_option linter.unusedVariables false
set_option linter.unusedSimpArgs false

attribute [local go_sem high] eqA24
/-! ### billiardlaw14_ContactGrows: function 7 -/
def billiardlaw14_ContactGrows.j0 : Nat → Int → Bool → Int → Int → Int → Int → Int → Int → Int → Int → Int → Int → Int → Int → Int → Int → Int → Int → Int → Int → Int → Int → Int → Int → Int → Int → Int → Int → Int → Int → Int → Int → Option (Bool)
 | 0, _, _, _, _, _, _, _, _, _, _, _, _, _, _, _, _, _, _, _, _, _, _, _, _, _, _, _, _, _, _, _, _ => none
 | k + 1, x2, x34, x510000, x510001, x510002, x510003, x510004, x510005, x510006, x510007, x510008, x510009, x511000, x511001, x511002, x511003, x511004, x511005, x511006, x511007, x511008, x511009, x512000, x512001, x512002, x512003, x512004, x512005, x512006, x512007, x512008, x512009 => if x34 = true then ((billiardlaw14_awake.f k).bind fun t515 => (some t515)) else ((contact_Of.f k x510000 x510001 x510002 x510003 x510004 x510005 x510006 x510007 x510008 x510009 x511000 x511001 x511002 x511003 x511004 x511005 x511006 x511007 x511008 x511009).bind fun bt516 => ((contact_Of.f k x512000 x512001 x512002 x512003 x512004 x512005 x512006 x512007 x512008 x512009 x511000 x511001 x511002 x511003 x511004 x511005 x511006 x511007 x511008 x511009).bind fun bt523 => ((contact_Gap.f k x512000 x512001 x512002 x512003 x512004 x512005 x512006 x512007 x512008 x512009 x511000 x511001 x511002 x511003 x511004 x511005 x511006 x511007 x511008 x511009).bind fun t530 => ((contact_Gap.f k x510000 x510001 x510002 x510003 x510004 x510005 x510006 x510007 x510008 x510009 x511000 x511001 x511002 x511003 x511004 x511005 x511006 x511007 x511008 x511009).bind fun t531 => (if t530 = (wrap64 (t531 - (wrap64 (wrap32 (x2 - x510001))))) then (if bt516.2.2.2.2.2 = true then (if bt523.2.2.2.2.2 = true then (if (bt516.2.2.1 == bt523.2.2.1 && (bt516.2.2.2.1 == bt523.2.2.2.1)) = true then (some ((wrap32 (bt523.2.2.2.2.1 - bt516.2.2.2.2.1)) == (wrap32 (x2 - x510001)))) else (some false)) else (some false)) else (some true)) else (some false))))))
def billiardlaw14_ContactGrows.f (k : Nat) (a0_0 : Int) (a0_1 : Int) (a0_2 : Int) (a0_3 : Int) (a0_4 : Int) (a0_5 : Int) (a0_6 : Int) (a0_7 : Int) (a0_8 : Int) (a0_9 : Int) (a1_0 : Int) (a1_1 : Int) (a1_2 : Int) (a1_3 : Int) (a1_4 : Int) (a1_5 : Int) (a1_6 : Int) (a1_7 : Int) (a1_8 : Int) (a1_9 : Int) (a2 : Int) : Option (Bool) := (billiardlaw14_awake.f k).bind fun t512 => (if t512 = true then ((billiardref14_Right.f k a0_0 a0_1 a0_2 a0_3 a0_4 a0_5 a0_6 a0_7 a0_8 a0_9 a1_0 a1_1 a1_2 a1_3 a1_4 a1_5 a1_6 a1_7 a1_8 a1_9).bind fun t513 => (if t513 = true then ((billiardref14_Right.f k a0_0 a2 a0_2 a0_3 a0_4 a0_5 a0_6 a0_7 a0_8 a0_9 a1_0 a1_1 a1_2 a1_3 a1_4 a1_5 a1_6 a1_7 a1_8 a1_9).bind fun t514 => (if t514 = true then (billiardlaw14_ContactGrows.j0 k a2 (decide (a2 < a0_1)) a0_0 a0_1 a0_2 a0_3 a0_4 a0_5 a0_6 a0_7 a0_8 a0_9 a1_0 a1_1 a1_2 a1_3 a1_4 a1_5 a1_6 a1_7 a1_8 a1_9 a0_0 a2 a0_2 a0_3 a0_4 a0_5 a0_6 a0_7 a0_8 a0_9) else (billiardlaw14_ContactGrows.j0 k a2 true a0_0 a0_1 a0_2 a0_3 a0_4 a0_5 a0_6 a0_7 a0_8 a0_9 a1_0 a1_1 a1_2 a1_3 a1_4 a1_5 a1_6 a1_7 a1_8 a1_9 a0_0 a2 a0_2 a0_3 a0_4 a0_5 a0_6 a0_7 a0_8 a0_9))) else (billiardlaw14_ContactGrows.j0 k a2 true a0_0 a0_1 a0_2 a0_3 a0_4 a0_5 a0_6 a0_7 a0_8 a0_9 a1_0 a1_1 a1_2 a1_3 a1_4 a1_5 a1_6 a1_7 a1_8 a1_9 a0_0 a2 a0_2 a0_3 a0_4 a0_5 a0_6 a0_7 a0_8 a0_9))) else (billiardlaw14_ContactGrows.j0 k a2 true a0_0 a0_1 a0_2 a0_3 a0_4 a0_5 a0_6 a0_7 a0_8 a0_9 a1_0 a1_1 a1_2 a1_3 a1_4 a1_5 a1_6 a1_7 a1_8 a1_9 a0_0 a2 a0_2 a0_3 a0_4 a0_5 a0_6 a0_7 a0_8 a0_9))
theorem billiardlaw14_ContactGrows.mono_l : ∀ k, (∀ y0 y1 y2 y3 y4 y5 y6 y7 y8 y9 y10 y11 y12 y13 y14 y15 y16 y17 y18 y19 y20 y21 y22 y23 y24 y25 y26 y27 y28 y29 y30 y31, LeO (billiardlaw14_ContactGrows.j0 k y0 y1 y2 y3 y4 y5 y6 y7 y8 y9 y10 y11 y12 y13 y14 y15 y16 y17 y18 y19 y20 y21 y22 y23 y24 y25 y26 y27 y28 y29 y30 y31) (billiardlaw14_ContactGrows.j0 (k + 1) y0 y1 y2 y3 y4 y5 y6 y7 y8 y9 y10 y11 y12 y13 y14 y15 y16 y17 y18 y19 y20 y21 y22 y23 y24 y25 y26 y27 y28 y29 y30 y31))
 | 0 => fun _ _ _ _ _ _ _ _ _ _ _ _ _ _ _ _ _ _ _ _ _ _ _ _ _ _ _ _ _ _ _ _ r h => by simp [billiardlaw14_ContactGrows.j0] at h
 | k + 1 => by
  have ih0 := billiardlaw14_ContactGrows.mono_l k
  ·intro y0 y1 y2 y3 y4 y5 y6 y7 y8 y9 y10 y11 y12 y13 y14 y15 y16 y17 y18 y19 y20 y21 y22 y23 y24 y25 y26 y27 y28 y29 y30 y31
   unfold billiardlaw14_ContactGrows.j0
   repeat' first
   | (with_reducible exact ih0 _ _ _ _ _ _ _ _ _ _ _ _ _ _ _ _ _ _ _ _ _ _ _ _ _ _ _ _ _ _ _ _)
   | (with_reducible exact billiardlaw14_awake.mono _)
   | (with_reducible exact billiardref14_Right.mono _ _ _ _ _ _ _ _ _ _ _ _ _ _ _ _ _ _ _ _ _)
   | (with_reducible exact contact_Gap.mono _ _ _ _ _ _ _ _ _ _ _ _ _ _ _ _ _ _ _ _ _)
   | (with_reducible exact contact_Of.mono _ _ _ _ _ _ _ _ _ _ _ _ _ _ _ _ _ _ _ _ _)
   | (with_reducible exact LeO.refl _)
   | (with_reducible exact LeO.none _)
   | (with_reducible refine LeO.ite ?_ ?_)
   | (with_reducible refine LeO.bind ?_ (fun _ => ?_))
   | exact ih0 _ _ _ _ _ _ _ _ _ _ _ _ _ _ _ _ _ _ _ _ _ _ _ _ _ _ _ _ _ _ _ _
   | exact billiardlaw14_awake.mono _
   | exact billiardref14_Right.mono _ _ _ _ _ _ _ _ _ _ _ _ _ _ _ _ _ _ _ _ _
   | exact contact_Gap.mono _ _ _ _ _ _ _ _ _ _ _ _ _ _ _ _ _ _ _ _ _
   | exact contact_Of.mono _ _ _ _ _ _ _ _ _ _ _ _ _ _ _ _ _ _ _ _ _
   | exact LeO.none _
   | refine LeO.ite ?_ ?_
   | refine LeO.bind ?_ (fun _ => ?_)
theorem billiardlaw14_ContactGrows.mono : ∀ a0 a1 a2 a3 a4 a5 a6 a7 a8 a9 a10 a11 a12 a13 a14 a15 a16 a17 a18 a19 a20 k, LeO (billiardlaw14_ContactGrows.f k a0 a1 a2 a3 a4 a5 a6 a7 a8 a9 a10 a11 a12 a13 a14 a15 a16 a17 a18 a19 a20) (billiardlaw14_ContactGrows.f (k + 1) a0 a1 a2 a3 a4 a5 a6 a7 a8 a9 a10 a11 a12 a13 a14 a15 a16 a17 a18 a19 a20) := by
 intro a0 a1 a2 a3 a4 a5 a6 a7 a8 a9 a10 a11 a12 a13 a14 a15 a16 a17 a18 a19 a20 k
 have ih0 := billiardlaw14_ContactGrows.mono_l k
 unfold billiardlaw14_ContactGrows.f
 repeat' first
   | (with_reducible exact ih0 _ _ _ _ _ _ _ _ _ _ _ _ _ _ _ _ _ _ _ _ _ _ _ _ _ _ _ _ _ _ _ _)
   | (with_reducible exact billiardlaw14_awake.mono _)
   | (with_reducible exact billiardref14_Right.mono _ _ _ _ _ _ _ _ _ _ _ _ _ _ _ _ _ _ _ _ _)
   | (with_reducible exact contact_Gap.mono _ _ _ _ _ _ _ _ _ _ _ _ _ _ _ _ _ _ _ _ _)
   | (with_reducible exact contact_Of.mono _ _ _ _ _ _ _ _ _ _ _ _ _ _ _ _ _ _ _ _ _)
   | (with_reducible exact LeO.refl _)
   | (with_reducible exact LeO.none _)
   | (with_reducible refine LeO.ite ?_ ?_)
   | (with_reducible refine LeO.bind ?_ (fun _ => ?_))
   | exact ih0 _ _ _ _ _ _ _ _ _ _ _ _ _ _ _ _ _ _ _ _ _ _ _ _ _ _ _ _ _ _ _ _
   | exact billiardlaw14_awake.mono _
   | exact billiardref14_Right.mono _ _ _ _ _ _ _ _ _ _ _ _ _ _ _ _ _ _ _ _ _
   | exact contact_Gap.mono _ _ _ _ _ _ _ _ _ _ _ _ _ _ _ _ _ _ _ _ _
   | exact contact_Of.mono _ _ _ _ _ _ _ _ _ _ _ _ _ _ _ _ _ _ _ _ _
   | exact LeO.none _
   | refine LeO.ite ?_ ?_
   | refine LeO.bind ?_ (fun _ => ?_)
def billiardlaw14_ContactGrows.T7 : Bool × List (List Nat × List Nat) := (true, [([], []), ([], []), ([0, 1], [0, 1]), ([], []), ([], []), ([3, 4, 2], [3, 4]), ([], []), ([], []), ([7], [7]), ([6, 8], [6, 8]), ([9], [9]), ([5, 10], [5, 10]), ([2, 11], [2, 11]), ([12, 5], [12]), ([13], [13]), ([14, 13, 13], [13, 14]), ([15], [15]), ([16, 15], [15, 16]), ([15, 17, 13], [13, 15, 17]), ([13, 18], [13, 18])])
def billiardlaw14_ContactGrows.B7 : List Nat := [0, 0, 3, 0, 0, 31, 0, 0, 128, 448, 960, 2047, 4095, 8191, 16383, 32767, 65535, 131071, 262143, 524287]
theorem billiardlaw14_ContactGrows.tab7 : rtab .any (opsOf Try.f7 7) = billiardlaw14_ContactGrows.T7 := by kernel_rfl
theorem billiardlaw14_ContactGrows.bits7 : waitsOk billiardlaw14_ContactGrows.T7.2 billiardlaw14_ContactGrows.B7 = true := by kernel_rfl
set_option maxHeartbeats 8000000 in
set_option maxRecDepth 100000 in
theorem billiardlaw14_ContactGrows.calls (k : Nat) (a0_0 : Int) (a0_1 : Int) (a0_2 : Int) (a0_3 : Int) (a0_4 : Int) (a0_5 : Int) (a0_6 : Int) (a0_7 : Int) (a0_8 : Int) (a0_9 : Int) (a1_0 : Int) (a1_1 : Int) (a1_2 : Int) (a1_3 : Int) (a1_4 : Int) (a1_5 : Int) (a1_6 : Int) (a1_7 : Int) (a1_8 : Int) (a1_9 : Int) (a2 : Int) (r : Bool) (w : World) (h : billiardlaw14_ContactGrows.f k a0_0 a0_1 a0_2 a0_3 a0_4 a0_5 a0_6 a0_7 a0_8 a0_9 a1_0 a1_1 a1_2 a1_3 a1_4 a1_5 a1_6 a1_7 a1_8 a1_9 a2 = some r) (hr : r = true) :
  Calls Try.prog 7 #[.agg #[.int .u32 a0_0, .int .i32 a0_1, .int .i32 a0_2, .int .i32 a0_3, .int .i32 a0_4, .int .i32 a0_5, .int .i32 a0_6, .int .i32 a0_7, .int .i32 a0_8, .int .i32 a0_9], .agg #[.int .u32 a1_0, .int .i32 a1_1, .int .i32 a1_2, .int .i32 a1_3, .int .i32 a1_4, .int .i32 a1_5, .int .i32 a1_6, .int .i32 a1_7, .int .i32 a1_8, .int .i32 a1_9], .int .i32 a2] w fun e w' => e = .returned (.bool r) ∧ Below w.heap.size w w' := by
 have HR := aM hr
 clear hr
 have hu26 := Try.underlying26
 have hu32 := Try.underlying32
 have hu24 := Try.underlying24
 have HB := aM (Below.refl w.heap.size w)
 have H : ((billiardlaw14_awake.f k).bind fun t512 => (if t512 = true then ((billiardref14_Right.f k a0_0 a0_1 a0_2 a0_3 a0_4 a0_5 a0_6 a0_7 a0_8 a0_9 a1_0 a1_1 a1_2 a1_3 a1_4 a1_5 a1_6 a1_7 a1_8 a1_9).bind fun t513 => (if t513 = true then ((billiardref14_Right.f k a0_0 a2 a0_2 a0_3 a0_4 a0_5 a0_6 a0_7 a0_8 a0_9 a1_0 a1_1 a1_2 a1_3 a1_4 a1_5 a1_6 a1_7 a1_8 a1_9).bind fun t514 => (if t514 = true then (billiardlaw14_ContactGrows.j0 k a2 (decide (a2 < a0_1)) a0_0 a0_1 a0_2 a0_3 a0_4 a0_5 a0_6 a0_7 a0_8 a0_9 a1_0 a1_1 a1_2 a1_3 a1_4 a1_5 a1_6 a1_7 a1_8 a1_9 a0_0 a2 a0_2 a0_3 a0_4 a0_5 a0_6 a0_7 a0_8 a0_9) else (billiardlaw14_ContactGrows.j0 k a2 true a0_0 a0_1 a0_2 a0_3 a0_4 a0_5 a0_6 a0_7 a0_8 a0_9 a1_0 a1_1 a1_2 a1_3 a1_4 a1_5 a1_6 a1_7 a1_8 a1_9 a0_0 a2 a0_2 a0_3 a0_4 a0_5 a0_6 a0_7 a0_8 a0_9))) else (billiardlaw14_ContactGrows.j0 k a2 true a0_0 a0_1 a0_2 a0_3 a0_4 a0_5 a0_6 a0_7 a0_8 a0_9 a1_0 a1_1 a1_2 a1_3 a1_4 a1_5 a1_6 a1_7 a1_8 a1_9 a0_0 a2 a0_2 a0_3 a0_4 a0_5 a0_6 a0_7 a0_8 a0_9))) else (billiardlaw14_ContactGrows.j0 k a2 true a0_0 a0_1 a0_2 a0_3 a0_4 a0_5 a0_6 a0_7 a0_8 a0_9 a1_0 a1_1 a1_2 a1_3 a1_4 a1_5 a1_6 a1_7 a1_8 a1_9 a0_0 a2 a0_2 a0_3 a0_4 a0_5 a0_6 a0_7 a0_8 a0_9))) = some r := h
 clear h
 have HC4 := aM H
 clear H
 go_enter Try.func7, Try.ntmps7
 go_upto_region 3 with (first | ((with_reducible refine gate_dst (N := 3) rfl ?_); refine box_event ?hg (N := 3) ?hd (cs := #[.int .u32 a0_0, .int .i32 a0_1, .int .i32 a0_2, .int .i32 a0_3, .int .i32 a0_4, .int .i32 a0_5, .int .i32 a0_6, .int .i32 a0_7, .int .i32 a0_8, .int .i32 a0_9]) (t := 26) ?hr ?_; (case hd => rfl); (case hg => rfl); (case hr => first | (go_simp; done) | (go_simp; rfl)); intro b509 hg w5 hbox hb; have n0_ := aM (lT (by repeat (first | (with_reducible first | exact HB.out | apply lA | apply lN | apply lD) | exact HB.out)) hb); have n1_ := aM (hbox); have n2_ := aM ((by rw [hg]; exact (lZ (by repeat (first | (with_reducible first | exact HB.out | apply lA | apply lN | apply lD) | exact HB.out))) : w.heap.size ≤ b509)); have n3_ := aM ((by rw [hg]; exact (lZ (by repeat (first | (with_reducible first | exact HB.out | apply lA | apply lN | apply lD) | exact HB.out))) : w.heap.size ≤ b509)); clear HB; have HB := n0_; have BK509 := n1_; have GW509 := n2_; have GE509 := n3_; clear n0_ n1_ n2_ n3_; clear hb hbox hg) | ((with_reducible refine gate_dst (N := 4) rfl ?_); refine box_event ?hg (N := 4) ?hd (cs := #[.int .u32 a1_0, .int .i32 a1_1, .int .i32 a1_2, .int .i32 a1_3, .int .i32 a1_4, .int .i32 a1_5, .int .i32 a1_6, .int .i32 a1_7, .int .i32 a1_8, .int .i32 a1_9]) (t := 26) ?hr ?_; (case hd => rfl); (case hg => rfl); (case hr => first | (go_simp; done) | (go_simp; rfl)); intro b510 hg w6 hbox hb; have n0_ := aM (bB (by (with_reducible repeat first | apply bN | apply bD | apply bA); exact BK509.out) hb); have n1_ := aM (lT (by repeat (first | (with_reducible first | exact HB.out | apply lA | apply lN | apply lD | refine lS ?_ GE509.out) | exact HB.out)) hb); have n2_ := aM (hbox); have n3_ := aM ((by rw [hg]; exact (lZ (by repeat (first | (with_reducible first | exact HB.out | apply lA | apply lN | apply lD | refine lS ?_ GE509.out) | exact HB.out))) : w.heap.size ≤ b510)); have n4_ := aM ((by rw [hg]; exact (lZ (by repeat (first | (with_reducible first | exact HB.out | apply lA | apply lN | apply lD | refine lS ?_ GE509.out) | exact HB.out))) : w.heap.size ≤ b510)); have n5_ := aM ((by rw [hg]; exact Nat.ne_of_lt (bL (g := b509) (by (with_reducible repeat first | apply bN | apply bD | apply bA); exact BK509.out)) : b509 ≠ b510)); have n6_ := aM ((by rw [hg]; exact Nat.ne_of_gt (bL (g := b509) (by (with_reducible repeat first | apply bN | apply bD | apply bA); exact BK509.out)) : b510 ≠ b509)); clear BK509; clear HB; have BK509 := n0_; have HB := n1_; have BK510 := n2_; have GW510 := n3_; have GE510 := n4_; have N0_ := n5_; have N1_ := n6_; clear n0_ n1_ n2_ n3_ n4_ n5_ n6_; clear hb hbox hg; have hnb7 := N0_.out; have hnc7 := N1_.out; have hcz8_0 : w6.cell? ⟨b509, 0, none⟩ = some (.int .u32 a0_0) := (bC BK509.out 0).trans rfl; have hcz8_1 : w6.cell? ⟨b509, 1, none⟩ = some (.int .i32 a0_1) := (bC BK509.out 1).trans rfl; have hcz8_2 : w6.cell? ⟨b509, 2, none⟩ = some (.int .i32 a0_2) := (bC BK509.out 2).trans rfl; have hcz8_3 : w6.cell? ⟨b509, 3, none⟩ = some (.int .i32 a0_3) := (bC BK509.out 3).trans rfl; have hcz8_4 : w6.cell? ⟨b509, 4, none⟩ = some (.int .i32 a0_4) := (bC BK509.out 4).trans rfl; have hcz8_5 : w6.cell? ⟨b509, 5, none⟩ = some (.int .i32 a0_5) := (bC BK509.out 5).trans rfl; have hcz8_6 : w6.cell? ⟨b509, 6, none⟩ = some (.int .i32 a0_6) := (bC BK509.out 6).trans rfl; have hcz8_7 : w6.cell? ⟨b509, 7, none⟩ = some (.int .i32 a0_7) := (bC BK509.out 7).trans rfl; have hcz8_8 : w6.cell? ⟨b509, 8, none⟩ = some (.int .i32 a0_8) := (bC BK509.out 8).trans rfl; have hcz8_9 : w6.cell? ⟨b509, 9, none⟩ = some (.int .i32 a0_9) := (bC BK509.out 9).trans rfl; have hfz8_0 := bF BK509.out 0; have hfz8_1 := bF BK509.out 1; have hfz8_2 := bF BK509.out 2; have hfz8_3 := bF BK509.out 3; have hfz8_4 := bF BK509.out 4; have hfz8_5 := bF BK509.out 5; have hfz8_6 := bF BK509.out 6; have hfz8_7 := bF BK509.out 7; have hfz8_8 := bF BK509.out 8; have hfz8_9 := bF BK509.out 9) | ((with_reducible refine gate_dst (N := 7) rfl ?_); refine box_event ?hg (N := 7) ?hd (cs := #[.int .u32 0, .int .i32 0, .int .i32 0, .int .i32 0, .int .i32 0, .int .i32 0, .int .i32 0, .int .i32 0, .int .i32 0, .int .i32 0]) (t := 26) ?hr ?_; (case hd => rfl); (case hg => rfl); (case hr => first | (go_simp; done) | (go_simp; rfl)); intro b511 hg w9 hbox hb; have n0_ := aM (bB (by (with_reducible repeat first | apply bN | apply bD | apply bA); exact BK509.out) hb); have n1_ := aM (bB (by (with_reducible repeat first | apply bN | apply bD | apply bA); exact BK510.out) hb); have n2_ := aM (lT (by repeat (first | (with_reducible first | exact HB.out | apply lA | apply lN | apply lD | refine lS ?_ GE509.out | refine lS ?_ GE510.out) | exact HB.out)) hb); have n3_ := aM (hbox); have n4_ := aM ((by rw [hg]; exact (lZ (by repeat (first | (with_reducible first | exact HB.out | apply lA | apply lN | apply lD | refine lS ?_ GE509.out | refine lS ?_ GE510.out) | exact HB.out))) : w.heap.size ≤ b511)); have n5_ := aM ((by rw [hg]; exact (lZ (by repeat (first | (with_reducible first | exact HB.out | apply lA | apply lN | apply lD | refine lS ?_ GE509.out | refine lS ?_ GE510.out) | exact HB.out))) : w.heap.size ≤ b511)); have n6_ := aM ((by rw [hg]; exact Nat.ne_of_lt (bL (g := b509) (by (with_reducible repeat first | apply bN | apply bD | apply bA); exact BK509.out)) : b509 ≠ b511)); have n7_ := aM ((by rw [hg]; exact Nat.ne_of_gt (bL (g := b509) (by (with_reducible repeat first | apply bN | apply bD | apply bA); exact BK509.out)) : b511 ≠ b509)); have n8_ := aM ((by rw [hg]; exact Nat.ne_of_lt (bL (g := b510) (by (with_reducible repeat first | apply bN | apply bD | apply bA); exact BK510.out)) : b510 ≠ b511)); have n9_ := aM ((by rw [hg]; exact Nat.ne_of_gt (bL (g := b510) (by (with_reducible repeat first | apply bN | apply bD | apply bA); exact BK510.out)) : b511 ≠ b510)); clear BK509; clear BK510; clear HB; have BK509 := n0_; have BK510 := n1_; have HB := n2_; have BK511 := n3_; have GW511 := n4_; have GE511 := n5_; have N2_ := n6_; have N3_ := n7_; have N4_ := n8_; have N5_ := n9_; clear n0_ n1_ n2_ n3_ n4_ n5_ n6_ n7_ n8_ n9_; clear hb hbox hg; have hnb10 := N3_.out; have hnc10 := N2_.out; have hnb11 := N5_.out; have hnc11 := N4_.out; have hcz12_0 : w9.cell? ⟨b511, 0, none⟩ = some (.int .u32 0) := (bC BK511.out 0).trans rfl; have hcz12_1 : w9.cell? ⟨b511, 1, none⟩ = some (.int .i32 0) := (bC BK511.out 1).trans rfl; have hcz12_2 : w9.cell? ⟨b511, 2, none⟩ = some (.int .i32 0) := (bC BK511.out 2).trans rfl; have hcz12_3 : w9.cell? ⟨b511, 3, none⟩ = some (.int .i32 0) := (bC BK511.out 3).trans rfl; have hcz12_4 : w9.cell? ⟨b511, 4, none⟩ = some (.int .i32 0) := (bC BK511.out 4).trans rfl; have hcz12_5 : w9.cell? ⟨b511, 5, none⟩ = some (.int .i32 0) := (bC BK511.out 5).trans rfl; have hcz12_6 : w9.cell? ⟨b511, 6, none⟩ = some (.int .i32 0) := (bC BK511.out 6).trans rfl; have hcz12_7 : w9.cell? ⟨b511, 7, none⟩ = some (.int .i32 0) := (bC BK511.out 7).trans rfl; have hcz12_8 : w9.cell? ⟨b511, 8, none⟩ = some (.int .i32 0) := (bC BK511.out 8).trans rfl; have hcz12_9 : w9.cell? ⟨b511, 9, none⟩ = some (.int .i32 0) := (bC BK511.out 9).trans rfl; have hfz12_0 := bF BK511.out 0; have hfz12_1 := bF BK511.out 1; have hfz12_2 := bF BK511.out 2; have hfz12_3 := bF BK511.out 3; have hfz12_4 := bF BK511.out 4; have hfz12_5 := bF BK511.out 5; have hfz12_6 := bF BK511.out 6; have hfz12_7 := bF BK511.out 7; have hfz12_8 := bF BK511.out 8; have hfz12_9 := bF BK511.out 9))
 (try simp only [Act.put, sA, sB, sC])
 go_cut [34] (fun v34 wc => ∃ (kq : Nat) (x34_3 : Bool), v34 = .bool x34_3 ∧ Aside0 (billiardlaw14_ContactGrows.j0 kq a2 x34_3 a0_0 a0_1 a0_2 a0_3 a0_4 a0_5 a0_6 a0_7 a0_8 a0_9 a1_0 a1_1 a1_2 a1_3 a1_4 a1_5 a1_6 a1_7 a1_8 a1_9 a0_0 a2 a0_2 a0_3 a0_4 a0_5 a0_6 a0_7 a0_8 a0_9 = some r) ∧ Aside0 (kq ≤ k) ∧ Aside0 (wc.heap[b509]? = some (.cells #[.int .u32 a0_0, .int .i32 a0_1, .int .i32 a0_2, .int .i32 a0_3, .int .i32 a0_4, .int .i32 a0_5, .int .i32 a0_6, .int .i32 a0_7, .int .i32 a0_8, .int .i32 a0_9] 26 (0, 0))) ∧ Aside0 (wc.heap[b510]? = some (.cells #[.int .u32 a1_0, .int .i32 a1_1, .int .i32 a1_2, .int .i32 a1_3, .int .i32 a1_4, .int .i32 a1_5, .int .i32 a1_6, .int .i32 a1_7, .int .i32 a1_8, .int .i32 a1_9] 26 (0, 0))) ∧ Aside0 (wc.heap[b511]? = some (.cells #[.int .u32 a0_0, .int .i32 a2, .int .i32 a0_2, .int .i32 a0_3, .int .i32 a0_4, .int .i32 a0_5, .int .i32 a0_6, .int .i32 a0_7, .int .i32 a0_8, .int .i32 a0_9] 26 (0, 0))) ∧ Aside0 (Below w.heap.size w wc))
 case first =>
  have H := HC4.out
  clear HC4
  replace H := Option.bind_eq_some_iff.mp H
  obtain ⟨t512, A130, H⟩ := H
  replace H : (if t512 = true then ((billiardref14_Right.f k a0_0 a0_1 a0_2 a0_3 a0_4 a0_5 a0_6 a0_7 a0_8 a0_9 a1_0 a1_1 a1_2 a1_3 a1_4 a1_5 a1_6 a1_7 a1_8 a1_9).bind fun t513 => (if t513 = true then ((billiardref14_Right.f k a0_0 a2 a0_2 a0_3 a0_4 a0_5 a0_6 a0_7 a0_8 a0_9 a1_0 a1_1 a1_2 a1_3 a1_4 a1_5 a1_6 a1_7 a1_8 a1_9).bind fun t514 => (if t514 = true then (billiardlaw14_ContactGrows.j0 k a2 (decide (a2 < a0_1)) a0_0 a0_1 a0_2 a0_3 a0_4 a0_5 a0_6 a0_7 a0_8 a0_9 a1_0 a1_1 a1_2 a1_3 a1_4 a1_5 a1_6 a1_7 a1_8 a1_9 a0_0 a2 a0_2 a0_3 a0_4 a0_5 a0_6 a0_7 a0_8 a0_9) else (billiardlaw14_ContactGrows.j0 k a2 true a0_0 a0_1 a0_2 a0_3 a0_4 a0_5 a0_6 a0_7 a0_8 a0_9 a1_0 a1_1 a1_2 a1_3 a1_4 a1_5 a1_6 a1_7 a1_8 a1_9 a0_0 a2 a0_2 a0_3 a0_4 a0_5 a0_6 a0_7 a0_8 a0_9))) else (billiardlaw14_ContactGrows.j0 k a2 true a0_0 a0_1 a0_2 a0_3 a0_4 a0_5 a0_6 a0_7 a0_8 a0_9 a1_0 a1_1 a1_2 a1_3 a1_4 a1_5 a1_6 a1_7 a1_8 a1_9 a0_0 a2 a0_2 a0_3 a0_4 a0_5 a0_6 a0_7 a0_8 a0_9))) else (billiardlaw14_ContactGrows.j0 k a2 true a0_0 a0_1 a0_2 a0_3 a0_4 a0_5 a0_6 a0_7 a0_8 a0_9 a1_0 a1_1 a1_2 a1_3 a1_4 a1_5 a1_6 a1_7 a1_8 a1_9 a0_0 a2 a0_2 a0_3 a0_4 a0_5 a0_6 a0_7 a0_8 a0_9)) = some r := H
  have A13 := aM A130
  clear A130
  by_cases c14 : t512 = true
  ·subst c14
   have H1 : ((billiardref14_Right.f k a0_0 a0_1 a0_2 a0_3 a0_4 a0_5 a0_6 a0_7 a0_8 a0_9 a1_0 a1_1 a1_2 a1_3 a1_4 a1_5 a1_6 a1_7 a1_8 a1_9).bind fun t513 => (if t513 = true then ((billiardref14_Right.f k a0_0 a2 a0_2 a0_3 a0_4 a0_5 a0_6 a0_7 a0_8 a0_9 a1_0 a1_1 a1_2 a1_3 a1_4 a1_5 a1_6 a1_7 a1_8 a1_9).bind fun t514 => (if t514 = true then (billiardlaw14_ContactGrows.j0 k a2 (decide (a2 < a0_1)) a0_0 a0_1 a0_2 a0_3 a0_4 a0_5 a0_6 a0_7 a0_8 a0_9 a1_0 a1_1 a1_2 a1_3 a1_4 a1_5 a1_6 a1_7 a1_8 a1_9 a0_0 a2 a0_2 a0_3 a0_4 a0_5 a0_6 a0_7 a0_8 a0_9) else (billiardlaw14_ContactGrows.j0 k a2 true a0_0 a0_1 a0_2 a0_3 a0_4 a0_5 a0_6 a0_7 a0_8 a0_9 a1_0 a1_1 a1_2 a1_3 a1_4 a1_5 a1_6 a1_7 a1_8 a1_9 a0_0 a2 a0_2 a0_3 a0_4 a0_5 a0_6 a0_7 a0_8 a0_9))) else (billiardlaw14_ContactGrows.j0 k a2 true a0_0 a0_1 a0_2 a0_3 a0_4 a0_5 a0_6 a0_7 a0_8 a0_9 a1_0 a1_1 a1_2 a1_3 a1_4 a1_5 a1_6 a1_7 a1_8 a1_9 a0_0 a2 a0_2 a0_3 a0_4 a0_5 a0_6 a0_7 a0_8 a0_9))) = some r := by rw [if_pos rfl] at H; exact H
   clear H
   have H := H1
   clear H1
   replace H := Option.bind_eq_some_iff.mp H
   obtain ⟨t513, A150, H⟩ := H
   replace H : (if t513 = true then ((billiardref14_Right.f k a0_0 a2 a0_2 a0_3 a0_4 a0_5 a0_6 a0_7 a0_8 a0_9 a1_0 a1_1 a1_2 a1_3 a1_4 a1_5 a1_6 a1_7 a1_8 a1_9).bind fun t514 => (if t514 = true then (billiardlaw14_ContactGrows.j0 k a2 (decide (a2 < a0_1)) a0_0 a0_1 a0_2 a0_3 a0_4 a0_5 a0_6 a0_7 a0_8 a0_9 a1_0 a1_1 a1_2 a1_3 a1_4 a1_5 a1_6 a1_7 a1_8 a1_9 a0_0 a2 a0_2 a0_3 a0_4 a0_5 a0_6 a0_7 a0_8 a0_9) else (billiardlaw14_ContactGrows.j0 k a2 true a0_0 a0_1 a0_2 a0_3 a0_4 a0_5 a0_6 a0_7 a0_8 a0_9 a1_0 a1_1 a1_2 a1_3 a1_4 a1_5 a1_6 a1_7 a1_8 a1_9 a0_0 a2 a0_2 a0_3 a0_4 a0_5 a0_6 a0_7 a0_8 a0_9))) else (billiardlaw14_ContactGrows.j0 k a2 true a0_0 a0_1 a0_2 a0_3 a0_4 a0_5 a0_6 a0_7 a0_8 a0_9 a1_0 a1_1 a1_2 a1_3 a1_4 a1_5 a1_6 a1_7 a1_8 a1_9 a0_0 a2 a0_2 a0_3 a0_4 a0_5 a0_6 a0_7 a0_8 a0_9)) = some r := H
   have A15 := aM A150
   clear A150
   by_cases c16 : t513 = true
   ·subst c16
    have H1 : ((billiardref14_Right.f k a0_0 a2 a0_2 a0_3 a0_4 a0_5 a0_6 a0_7 a0_8 a0_9 a1_0 a1_1 a1_2 a1_3 a1_4 a1_5 a1_6 a1_7 a1_8 a1_9).bind fun t514 => (if t514 = true then (billiardlaw14_ContactGrows.j0 k a2 (decide (a2 < a0_1)) a0_0 a0_1 a0_2 a0_3 a0_4 a0_5 a0_6 a0_7 a0_8 a0_9 a1_0 a1_1 a1_2 a1_3 a1_4 a1_5 a1_6 a1_7 a1_8 a1_9 a0_0 a2 a0_2 a0_3 a0_4 a0_5 a0_6 a0_7 a0_8 a0_9) else (billiardlaw14_ContactGrows.j0 k a2 true a0_0 a0_1 a0_2 a0_3 a0_4 a0_5 a0_6 a0_7 a0_8 a0_9 a1_0 a1_1 a1_2 a1_3 a1_4 a1_5 a1_6 a1_7 a1_8 a1_9 a0_0 a2 a0_2 a0_3 a0_4 a0_5 a0_6 a0_7 a0_8 a0_9))) = some r := by rw [if_pos rfl] at H; exact H
    clear H
    have H := H1
    clear H1
    replace H := Option.bind_eq_some_iff.mp H
    obtain ⟨t514, A170, H⟩ := H
    replace H : (if t514 = true then (billiardlaw14_ContactGrows.j0 k a2 (decide (a2 < a0_1)) a0_0 a0_1 a0_2 a0_3 a0_4 a0_5 a0_6 a0_7 a0_8 a0_9 a1_0 a1_1 a1_2 a1_3 a1_4 a1_5 a1_6 a1_7 a1_8 a1_9 a0_0 a2 a0_2 a0_3 a0_4 a0_5 a0_6 a0_7 a0_8 a0_9) else (billiardlaw14_ContactGrows.j0 k a2 true a0_0 a0_1 a0_2 a0_3 a0_4 a0_5 a0_6 a0_7 a0_8 a0_9 a1_0 a1_1 a1_2 a1_3 a1_4 a1_5 a1_6 a1_7 a1_8 a1_9 a0_0 a2 a0_2 a0_3 a0_4 a0_5 a0_6 a0_7 a0_8 a0_9)) = some r := H
    have A17 := aM A170
    clear A170
    by_cases c18 : t514 = true
    ·subst c18
     have H1 : (billiardlaw14_ContactGrows.j0 k a2 (decide (a2 < a0_1)) a0_0 a0_1 a0_2 a0_3 a0_4 a0_5 a0_6 a0_7 a0_8 a0_9 a1_0 a1_1 a1_2 a1_3 a1_4 a1_5 a1_6 a1_7 a1_8 a1_9 a0_0 a2 a0_2 a0_3 a0_4 a0_5 a0_6 a0_7 a0_8 a0_9) = some r := by rw [if_pos rfl] at H; exact H
     clear H
     have H := H1
     clear H1
     have H' := aM H
     clear H
     go_wp2_with (first | ((with_reducible refine gate_callee (f := 8) rfl ?_); refine goesL_ (some 15) rfl rfl Try.func8 (by kernel_rfl) rfl #[] rfl (by (try simp only [List.map_toArray, List.map_cons, List.map_nil]); first | done | rfl | (simp only [List.length_drop, List.length_take]; rfl)) ?_; (with_reducible refine (billiardlaw14_awake.calls k  true _ A13.out).mono ?_); rintro e w19 ⟨rfl, hb⟩; refine ⟨_, rfl, ?_⟩; have n0_ := aM (bB (g := b509) (o := .cells #[.int .u32 a0_0, .int .i32 a0_1, .int .i32 a0_2, .int .i32 a0_3, .int .i32 a0_4, .int .i32 a0_5, .int .i32 a0_6, .int .i32 a0_7, .int .i32 a0_8, .int .i32 a0_9] 26 (0, 0)) (by (with_reducible repeat first | apply bN | apply bD | apply bA); refine bR ?_ N2_.out _; (with_reducible repeat first | apply bN | apply bD | apply bA); refine bR ?_ N2_.out _; (with_reducible repeat first | apply bN | apply bD | apply bA); refine bR ?_ N2_.out _; (with_reducible repeat first | apply bN | apply bD | apply bA); refine bR ?_ N2_.out _; (with_reducible repeat first | apply bN | apply bD | apply bA); refine bR ?_ N2_.out _; (with_reducible repeat first | apply bN | apply bD | apply bA); refine bR ?_ N2_.out _; (with_reducible repeat first | apply bN | apply bD | apply bA); refine bR ?_ N2_.out _; (with_reducible repeat first | apply bN | apply bD | apply bA); refine bR ?_ N2_.out _; (with_reducible repeat first | apply bN | apply bD | apply bA); refine bR ?_ N2_.out _; (with_reducible repeat first | apply bN | apply bD | apply bA); refine bR ?_ N2_.out _; (with_reducible repeat first | apply bN | apply bD | apply bA); refine bR ?_ N2_.out _; (with_reducible repeat first | apply bN | apply bD | apply bA); exact BK509.out) hb); have n1_ := aM (bB (g := b510) (o := .cells #[.int .u32 a1_0, .int .i32 a1_1, .int .i32 a1_2, .int .i32 a1_3, .int .i32 a1_4, .int .i32 a1_5, .int .i32 a1_6, .int .i32 a1_7, .int .i32 a1_8, .int .i32 a1_9] 26 (0, 0)) (by (with_reducible repeat first | apply bN | apply bD | apply bA); refine bR ?_ N4_.out _; (with_reducible repeat first | apply bN | apply bD | apply bA); refine bR ?_ N4_.out _; (with_reducible repeat first | apply bN | apply bD | apply bA); refine bR ?_ N4_.out _; (with_reducible repeat first | apply bN | apply bD | apply bA); refine bR ?_ N4_.out _; (with_reducible repeat first | apply bN | apply bD | apply bA); refine bR ?_ N4_.out _; (with_reducible repeat first | apply bN | apply bD | apply bA); refine bR ?_ N4_.out _; (with_reducible repeat first | apply bN | apply bD | apply bA); refine bR ?_ N4_.out _; (with_reducible repeat first | apply bN | apply bD | apply bA); refine bR ?_ N4_.out _; (with_reducible repeat first | apply bN | apply bD | apply bA); refine bR ?_ N4_.out _; (with_reducible repeat first | apply bN | apply bD | apply bA); refine bR ?_ N4_.out _; (with_reducible repeat first | apply bN | apply bD | apply bA); refine bR ?_ N4_.out _; (with_reducible repeat first | apply bN | apply bD | apply bA); exact BK510.out) hb); have n2_ := aM (bB (g := b511) (o := .cells #[.int .u32 a0_0, .int .i32 a2, .int .i32 a0_2, .int .i32 a0_3, .int .i32 a0_4, .int .i32 a0_5, .int .i32 a0_6, .int .i32 a0_7, .int .i32 a0_8, .int .i32 a0_9] 26 (0, 0)) (by (with_reducible repeat first | apply bN | apply bD | apply bA); refine bP (cs := #[.int .u32 a0_0, .int .i32 a0_1, .int .i32 a0_2, .int .i32 a0_3, .int .i32 a0_4, .int .i32 a0_5, .int .i32 a0_6, .int .i32 a0_7, .int .i32 a0_8, .int .i32 a0_9]) ?_ 1 _ rfl; (with_reducible repeat first | apply bN | apply bD | apply bA); refine bP (cs := #[.int .u32 a0_0, .int .i32 a0_1, .int .i32 a0_2, .int .i32 a0_3, .int .i32 a0_4, .int .i32 a0_5, .int .i32 a0_6, .int .i32 a0_7, .int .i32 a0_8, .int .i32 0]) ?_ 9 _ rfl; (with_reducible repeat first | apply bN | apply bD | apply bA); refine bP (cs := #[.int .u32 a0_0, .int .i32 a0_1, .int .i32 a0_2, .int .i32 a0_3, .int .i32 a0_4, .int .i32 a0_5, .int .i32 a0_6, .int .i32 a0_7, .int .i32 0, .int .i32 0]) ?_ 8 _ rfl; (with_reducible repeat first | apply bN | apply bD | apply bA); refine bP (cs := #[.int .u32 a0_0, .int .i32 a0_1, .int .i32 a0_2, .int .i32 a0_3, .int .i32 a0_4, .int .i32 a0_5, .int .i32 a0_6, .int .i32 0, .int .i32 0, .int .i32 0]) ?_ 7 _ rfl; (with_reducible repeat first | apply bN | apply bD | apply bA); refine bP (cs := #[.int .u32 a0_0, .int .i32 a0_1, .int .i32 a0_2, .int .i32 a0_3, .int .i32 a0_4, .int .i32 a0_5, .int .i32 0, .int .i32 0, .int .i32 0, .int .i32 0]) ?_ 6 _ rfl; (with_reducible repeat first | apply bN | apply bD | apply bA); refine bP (cs := #[.int .u32 a0_0, .int .i32 a0_1, .int .i32 a0_2, .int .i32 a0_3, .int .i32 a0_4, .int .i32 0, .int .i32 0, .int .i32 0, .int .i32 0, .int .i32 0]) ?_ 5 _ rfl; (with_reducible repeat first | apply bN | apply bD | apply bA); refine bP (cs := #[.int .u32 a0_0, .int .i32 a0_1, .int .i32 a0_2, .int .i32 a0_3, .int .i32 0, .int .i32 0, .int .i32 0, .int .i32 0, .int .i32 0, .int .i32 0]) ?_ 4 _ rfl; (with_reducible repeat first | apply bN | apply bD | apply bA); refine bP (cs := #[.int .u32 a0_0, .int .i32 a0_1, .int .i32 a0_2, .int .i32 0, .int .i32 0, .int .i32 0, .int .i32 0, .int .i32 0, .int .i32 0, .int .i32 0]) ?_ 3 _ rfl; (with_reducible repeat first | apply bN | apply bD | apply bA); refine bP (cs := #[.int .u32 a0_0, .int .i32 a0_1, .int .i32 0, .int .i32 0, .int .i32 0, .int .i32 0, .int .i32 0, .int .i32 0, .int .i32 0, .int .i32 0]) ?_ 2 _ rfl; (with_reducible repeat first | apply bN | apply bD | apply bA); refine bP (cs := #[.int .u32 a0_0, .int .i32 0, .int .i32 0, .int .i32 0, .int .i32 0, .int .i32 0, .int .i32 0, .int .i32 0, .int .i32 0, .int .i32 0]) ?_ 1 _ rfl; (with_reducible repeat first | apply bN | apply bD | apply bA); refine bP (cs := #[.int .u32 0, .int .i32 0, .int .i32 0, .int .i32 0, .int .i32 0, .int .i32 0, .int .i32 0, .int .i32 0, .int .i32 0, .int .i32 0]) ?_ 0 _ rfl; (with_reducible repeat first | apply bN | apply bD | apply bA); exact BK511.out) hb); have n3_ := aM (lT (by repeat (first | (with_reducible first | exact HB.out | apply lA | apply lN | apply lD | refine lS ?_ GE509.out | refine lS ?_ GE510.out | refine lS ?_ GE511.out) | exact HB.out)) hb); clear BK509; clear BK510; clear BK511; clear HB; have BK509 := n0_; have BK510 := n1_; have BK511 := n2_; have HB := n3_; clear n0_ n1_ n2_ n3_; (try clear hb); (try clear hb2); (try clear hk); (try clear hi); have hnb20 := N0_.out; have hnc20 := N1_.out; have hnb21 := N2_.out; have hnc21 := N3_.out; have hcz22_0 : w19.cell? ⟨b509, 0, none⟩ = some (.int .u32 a0_0) := (bC BK509.out 0).trans rfl; have hcz22_1 : w19.cell? ⟨b509, 1, none⟩ = some (.int .i32 a0_1) := (bC BK509.out 1).trans rfl; have hcz22_2 : w19.cell? ⟨b509, 2, none⟩ = some (.int .i32 a0_2) := (bC BK509.out 2).trans rfl; have hcz22_3 : w19.cell? ⟨b509, 3, none⟩ = some (.int .i32 a0_3) := (bC BK509.out 3).trans rfl; have hcz22_4 : w19.cell? ⟨b509, 4, none⟩ = some (.int .i32 a0_4) := (bC BK509.out 4).trans rfl; have hcz22_5 : w19.cell? ⟨b509, 5, none⟩ = some (.int .i32 a0_5) := (bC BK509.out 5).trans rfl; have hcz22_6 : w19.cell? ⟨b509, 6, none⟩ = some (.int .i32 a0_6) := (bC BK509.out 6).trans rfl; have hcz22_7 : w19.cell? ⟨b509, 7, none⟩ = some (.int .i32 a0_7) := (bC BK509.out 7).trans rfl; have hcz22_8 : w19.cell? ⟨b509, 8, none⟩ = some (.int .i32 a0_8) := (bC BK509.out 8).trans rfl; have hcz22_9 : w19.cell? ⟨b509, 9, none⟩ = some (.int .i32 a0_9) := (bC BK509.out 9).trans rfl; have hfz22_0 := bF BK509.out 0; have hfz22_1 := bF BK509.out 1; have hfz22_2 := bF BK509.out 2; have hfz22_3 := bF BK509.out 3; have hfz22_4 := bF BK509.out 4; have hfz22_5 := bF BK509.out 5; have hfz22_6 := bF BK509.out 6; have hfz22_7 := bF BK509.out 7; have hfz22_8 := bF BK509.out 8; have hfz22_9 := bF BK509.out 9; have hnb23 := N4_.out; have hnc23 := N5_.out; have hcz24_0 : w19.cell? ⟨b510, 0, none⟩ = some (.int .u32 a1_0) := (bC BK510.out 0).trans rfl; have hcz24_1 : w19.cell? ⟨b510, 1, none⟩ = some (.int .i32 a1_1) := (bC BK510.out 1).trans rfl; have hcz24_2 : w19.cell? ⟨b510, 2, none⟩ = some (.int .i32 a1_2) := (bC BK510.out 2).trans rfl; have hcz24_3 : w19.cell? ⟨b510, 3, none⟩ = some (.int .i32 a1_3) := (bC BK510.out 3).trans rfl; have hcz24_4 : w19.cell? ⟨b510, 4, none⟩ = some (.int .i32 a1_4) := (bC BK510.out 4).trans rfl; have hcz24_5 : w19.cell? ⟨b510, 5, none⟩ = some (.int .i32 a1_5) := (bC BK510.out 5).trans rfl; have hcz24_6 : w19.cell? ⟨b510, 6, none⟩ = some (.int .i32 a1_6) := (bC BK510.out 6).trans rfl; have hcz24_7 : w19.cell? ⟨b510, 7, none⟩ = some (.int .i32 a1_7) := (bC BK510.out 7).trans rfl; have hcz24_8 : w19.cell? ⟨b510, 8, none⟩ = some (.int .i32 a1_8) := (bC BK510.out 8).trans rfl; have hcz24_9 : w19.cell? ⟨b510, 9, none⟩ = some (.int .i32 a1_9) := (bC BK510.out 9).trans rfl; have hfz24_0 := bF BK510.out 0; have hfz24_1 := bF BK510.out 1; have hfz24_2 := bF BK510.out 2; have hfz24_3 := bF BK510.out 3; have hfz24_4 := bF BK510.out 4; have hfz24_5 := bF BK510.out 5; have hfz24_6 := bF BK510.out 6; have hfz24_7 := bF BK510.out 7; have hfz24_8 := bF BK510.out 8; have hfz24_9 := bF BK510.out 9) | (go_at_call 9; (with_reducible refine (billiardref14_Right.calls k a0_0 a0_1 a0_2 a0_3 a0_4 a0_5 a0_6 a0_7 a0_8 a0_9 a1_0 a1_1 a1_2 a1_3 a1_4 a1_5 a1_6 a1_7 a1_8 a1_9 true _ A15.out).mono ?_); rintro e w25 ⟨rfl, hb⟩; have n0_ := aM (bB (by (with_reducible repeat first | apply bN | apply bD | apply bA); exact BK509.out) hb); have n1_ := aM (bB (by (with_reducible repeat first | apply bN | apply bD | apply bA); exact BK510.out) hb); have n2_ := aM (bB (by (with_reducible repeat first | apply bN | apply bD | apply bA); exact BK511.out) hb); have n3_ := aM (lT (by repeat (first | (with_reducible first | exact HB.out | apply lA | apply lN | apply lD | refine lS ?_ GE509.out | refine lS ?_ GE510.out | refine lS ?_ GE511.out) | exact HB.out)) hb); clear BK509; clear BK510; clear BK511; clear HB; have BK509 := n0_; have BK510 := n1_; have BK511 := n2_; have HB := n3_; clear n0_ n1_ n2_ n3_; (try clear hb); (try clear hb2); (try clear hk); (try clear hi); have hcz26_0 : w25.cell? ⟨b511, 0, none⟩ = some (.int .u32 a0_0) := (bC BK511.out 0).trans rfl; have hcz26_1 : w25.cell? ⟨b511, 1, none⟩ = some (.int .i32 a2) := (bC BK511.out 1).trans rfl; have hcz26_2 : w25.cell? ⟨b511, 2, none⟩ = some (.int .i32 a0_2) := (bC BK511.out 2).trans rfl; have hcz26_3 : w25.cell? ⟨b511, 3, none⟩ = some (.int .i32 a0_3) := (bC BK511.out 3).trans rfl; have hcz26_4 : w25.cell? ⟨b511, 4, none⟩ = some (.int .i32 a0_4) := (bC BK511.out 4).trans rfl; have hcz26_5 : w25.cell? ⟨b511, 5, none⟩ = some (.int .i32 a0_5) := (bC BK511.out 5).trans rfl; have hcz26_6 : w25.cell? ⟨b511, 6, none⟩ = some (.int .i32 a0_6) := (bC BK511.out 6).trans rfl; have hcz26_7 : w25.cell? ⟨b511, 7, none⟩ = some (.int .i32 a0_7) := (bC BK511.out 7).trans rfl; have hcz26_8 : w25.cell? ⟨b511, 8, none⟩ = some (.int .i32 a0_8) := (bC BK511.out 8).trans rfl; have hcz26_9 : w25.cell? ⟨b511, 9, none⟩ = some (.int .i32 a0_9) := (bC BK511.out 9).trans rfl; have hfz26_0 := bF BK511.out 0; have hfz26_1 := bF BK511.out 1; have hfz26_2 := bF BK511.out 2; have hfz26_3 := bF BK511.out 3; have hfz26_4 := bF BK511.out 4; have hfz26_5 := bF BK511.out 5; have hfz26_6 := bF BK511.out 6; have hfz26_7 := bF BK511.out 7; have hfz26_8 := bF BK511.out 8; have hfz26_9 := bF BK511.out 9; have hcz27_0 : w25.cell? ⟨b510, 0, none⟩ = some (.int .u32 a1_0) := (bC BK510.out 0).trans rfl; have hcz27_1 : w25.cell? ⟨b510, 1, none⟩ = some (.int .i32 a1_1) := (bC BK510.out 1).trans rfl; have hcz27_2 : w25.cell? ⟨b510, 2, none⟩ = some (.int .i32 a1_2) := (bC BK510.out 2).trans rfl; have hcz27_3 : w25.cell? ⟨b510, 3, none⟩ = some (.int .i32 a1_3) := (bC BK510.out 3).trans rfl; have hcz27_4 : w25.cell? ⟨b510, 4, none⟩ = some (.int .i32 a1_4) := (bC BK510.out 4).trans rfl; have hcz27_5 : w25.cell? ⟨b510, 5, none⟩ = some (.int .i32 a1_5) := (bC BK510.out 5).trans rfl; have hcz27_6 : w25.cell? ⟨b510, 6, none⟩ = some (.int .i32 a1_6) := (bC BK510.out 6).trans rfl; have hcz27_7 : w25.cell? ⟨b510, 7, none⟩ = some (.int .i32 a1_7) := (bC BK510.out 7).trans rfl; have hcz27_8 : w25.cell? ⟨b510, 8, none⟩ = some (.int .i32 a1_8) := (bC BK510.out 8).trans rfl; have hcz27_9 : w25.cell? ⟨b510, 9, none⟩ = some (.int .i32 a1_9) := (bC BK510.out 9).trans rfl; have hfz27_0 := bF BK510.out 0; have hfz27_1 := bF BK510.out 1; have hfz27_2 := bF BK510.out 2; have hfz27_3 := bF BK510.out 3; have hfz27_4 := bF BK510.out 4; have hfz27_5 := bF BK510.out 5; have hfz27_6 := bF BK510.out 6; have hfz27_7 := bF BK510.out 7; have hfz27_8 := bF BK510.out 8; have hfz27_9 := bF BK510.out 9) | (go_at_call 9; (with_reducible refine (billiardref14_Right.calls k a0_0 a2 a0_2 a0_3 a0_4 a0_5 a0_6 a0_7 a0_8 a0_9 a1_0 a1_1 a1_2 a1_3 a1_4 a1_5 a1_6 a1_7 a1_8 a1_9 true _ A17.out).mono ?_); rintro e w28 ⟨rfl, hb⟩; have n0_ := aM (bB (by (with_reducible repeat first | apply bN | apply bD | apply bA); exact BK509.out) hb); have n1_ := aM (bB (by (with_reducible repeat first | apply bN | apply bD | apply bA); exact BK510.out) hb); have n2_ := aM (bB (by (with_reducible repeat first | apply bN | apply bD | apply bA); exact BK511.out) hb); have n3_ := aM (lT (by repeat (first | (with_reducible first | exact HB.out | apply lA | apply lN | apply lD | refine lS ?_ GE509.out | refine lS ?_ GE510.out | refine lS ?_ GE511.out) | exact HB.out)) hb); clear BK509; clear BK510; clear BK511; clear HB; have BK509 := n0_; have BK510 := n1_; have BK511 := n2_; have HB := n3_; clear n0_ n1_ n2_ n3_; (try clear hb); (try clear hb2); (try clear hk); (try clear hi); have hcz29_0 : w28.cell? ⟨b509, 0, none⟩ = some (.int .u32 a0_0) := (bC BK509.out 0).trans rfl; have hcz29_1 : w28.cell? ⟨b509, 1, none⟩ = some (.int .i32 a0_1) := (bC BK509.out 1).trans rfl; have hcz29_2 : w28.cell? ⟨b509, 2, none⟩ = some (.int .i32 a0_2) := (bC BK509.out 2).trans rfl; have hcz29_3 : w28.cell? ⟨b509, 3, none⟩ = some (.int .i32 a0_3) := (bC BK509.out 3).trans rfl; have hcz29_4 : w28.cell? ⟨b509, 4, none⟩ = some (.int .i32 a0_4) := (bC BK509.out 4).trans rfl; have hcz29_5 : w28.cell? ⟨b509, 5, none⟩ = some (.int .i32 a0_5) := (bC BK509.out 5).trans rfl; have hcz29_6 : w28.cell? ⟨b509, 6, none⟩ = some (.int .i32 a0_6) := (bC BK509.out 6).trans rfl; have hcz29_7 : w28.cell? ⟨b509, 7, none⟩ = some (.int .i32 a0_7) := (bC BK509.out 7).trans rfl; have hcz29_8 : w28.cell? ⟨b509, 8, none⟩ = some (.int .i32 a0_8) := (bC BK509.out 8).trans rfl; have hcz29_9 : w28.cell? ⟨b509, 9, none⟩ = some (.int .i32 a0_9) := (bC BK509.out 9).trans rfl; have hfz29_0 := bF BK509.out 0; have hfz29_1 := bF BK509.out 1; have hfz29_2 := bF BK509.out 2; have hfz29_3 := bF BK509.out 3; have hfz29_4 := bF BK509.out 4; have hfz29_5 := bF BK509.out 5; have hfz29_6 := bF BK509.out 6; have hfz29_7 := bF BK509.out 7; have hfz29_8 := bF BK509.out 8; have hfz29_9 := bF BK509.out 9))
     go_meet
     case rel => exact ⟨_, (decide (a2 < a0_1)), (by first | rfl | (simp; done) | (simp [*]; done)), H', ⟨by first | omega | exact Nat.le_refl _⟩, ⟨by (with_reducible repeat first | apply bN | apply bD | apply bA); exact BK509.out⟩, ⟨by (with_reducible repeat first | apply bN | apply bD | apply bA); exact BK510.out⟩, ⟨by (with_reducible repeat first | apply bN | apply bD | apply bA); exact BK511.out⟩, ⟨by repeat (first | (with_reducible first | exact HB.out | apply lA | apply lN | apply lD | refine lS ?_ GE509.out | refine lS ?_ GE510.out | refine lS ?_ GE511.out) | exact HB.out)⟩⟩
    ·replace c18 := Bool.eq_false_iff.mpr c18
     subst c18
     have H1 : (billiardlaw14_ContactGrows.j0 k a2 true a0_0 a0_1 a0_2 a0_3 a0_4 a0_5 a0_6 a0_7 a0_8 a0_9 a1_0 a1_1 a1_2 a1_3 a1_4 a1_5 a1_6 a1_7 a1_8 a1_9 a0_0 a2 a0_2 a0_3 a0_4 a0_5 a0_6 a0_7 a0_8 a0_9) = some r := by rw [if_neg (show ¬ (false = true) by decide)] at H; exact H
     clear H
     have H := H1
     clear H1
     have H' := aM H
     clear H
     go_wp2_with (first | ((with_reducible refine gate_callee (f := 8) rfl ?_); refine goesL_ (some 15) rfl rfl Try.func8 (by kernel_rfl) rfl #[] rfl (by (try simp only [List.map_toArray, List.map_cons, List.map_nil]); first | done | rfl | (simp only [List.length_drop, List.length_take]; rfl)) ?_; (with_reducible refine (billiardlaw14_awake.calls k  true _ A13.out).mono ?_); rintro e w30 ⟨rfl, hb⟩; refine ⟨_, rfl, ?_⟩; have n0_ := aM (bB (g := b509) (o := .cells #[.int .u32 a0_0, .int .i32 a0_1, .int .i32 a0_2, .int .i32 a0_3, .int .i32 a0_4, .int .i32 a0_5, .int .i32 a0_6, .int .i32 a0_7, .int .i32 a0_8, .int .i32 a0_9] 26 (0, 0)) (by (with_reducible repeat first | apply bN | apply bD | apply bA); refine bR ?_ N2_.out _; (with_reducible repeat first | apply bN | apply bD | apply bA); refine bR ?_ N2_.out _; (with_reducible repeat first | apply bN | apply bD | apply bA); refine bR ?_ N2_.out _; (with_reducible repeat first | apply bN | apply bD | apply bA); refine bR ?_ N2_.out _; (with_reducible repeat first | apply bN | apply bD | apply bA); refine bR ?_ N2_.out _; (with_reducible repeat first | apply bN | apply bD | apply bA); refine bR ?_ N2_.out _; (with_reducible repeat first | apply bN | apply bD | apply bA); refine bR ?_ N2_.out _; (with_reducible repeat first | apply bN | apply bD | apply bA); refine bR ?_ N2_.out _; (with_reducible repeat first | apply bN | apply bD | apply bA); refine bR ?_ N2_.out _; (with_reducible repeat first | apply bN | apply bD | apply bA); refine bR ?_ N2_.out _; (with_reducible repeat first | apply bN | apply bD | apply bA); refine bR ?_ N2_.out _; (with_reducible repeat first | apply bN | apply bD | apply bA); exact BK509.out) hb); have n1_ := aM (bB (g := b510) (o := .cells #[.int .u32 a1_0, .int .i32 a1_1, .int .i32 a1_2, .int .i32 a1_3, .int .i32 a1_4, .int .i32 a1_5, .int .i32 a1_6, .int .i32 a1_7, .int .i32 a1_8, .int .i32 a1_9] 26 (0, 0)) (by (with_reducible repeat first | apply bN | apply bD | apply bA); refine bR ?_ N4_.out _; (with_reducible repeat first | apply bN | apply bD | apply bA); refine bR ?_ N4_.out _; (with_reducible repeat first | apply bN | apply bD | apply bA); refine bR ?_ N4_.out _; (with_reducible repeat first | apply bN | apply bD | apply bA); refine bR ?_ N4_.out _; (with_reducible repeat first | apply bN | apply bD | apply bA); refine bR ?_ N4_.out _; (with_reducible repeat first | apply bN | apply bD | apply bA); refine bR ?_ N4_.out _; (with_reducible repeat first | apply bN | apply bD | apply bA); refine bR ?_ N4_.out _; (with_reducible repeat first | apply bN | apply bD | apply bA); refine bR ?_ N4_.out _; (with_reducible repeat first | apply bN | apply bD | apply bA); refine bR ?_ N4_.out _; (with_reducible repeat first | apply bN | apply bD | apply bA); refine bR ?_ N4_.out _; (with_reducible repeat first | apply bN | apply bD | apply bA); refine bR ?_ N4_.out _; (with_reducible repeat first | apply bN | apply bD | apply bA); exact BK510.out) hb); have n2_ := aM (bB (g := b511) (o := .cells #[.int .u32 a0_0, .int .i32 a2, .int .i32 a0_2, .int .i32 a0_3, .int .i32 a0_4, .int .i32 a0_5, .int .i32 a0_6, .int .i32 a0_7, .int .i32 a0_8, .int .i32 a0_9] 26 (0, 0)) (by (with_reducible repeat first | apply bN | apply bD | apply bA); refine bP (cs := #[.int .u32 a0_0, .int .i32 a0_1, .int .i32 a0_2, .int .i32 a0_3, .int .i32 a0_4, .int .i32 a0_5, .int .i32 a0_6, .int .i32 a0_7, .int .i32 a0_8, .int .i32 a0_9]) ?_ 1 _ rfl; (with_reducible repeat first | apply bN | apply bD | apply bA); refine bP (cs := #[.int .u32 a0_0, .int .i32 a0_1, .int .i32 a0_2, .int .i32 a0_3, .int .i32 a0_4, .int .i32 a0_5, .int .i32 a0_6, .int .i32 a0_7, .int .i32 a0_8, .int .i32 0]) ?_ 9 _ rfl; (with_reducible repeat first | apply bN | apply bD | apply bA); refine bP (cs := #[.int .u32 a0_0, .int .i32 a0_1, .int .i32 a0_2, .int .i32 a0_3, .int .i32 a0_4, .int .i32 a0_5, .int .i32 a0_6, .int .i32 a0_7, .int .i32 0, .int .i32 0]) ?_ 8 _ rfl; (with_reducible repeat first | apply bN | apply bD | apply bA); refine bP (cs := #[.int .u32 a0_0, .int .i32 a0_1, .int .i32 a0_2, .int .i32 a0_3, .int .i32 a0_4, .int .i32 a0_5, .int .i32 a0_6, .int .i32 0, .int .i32 0, .int .i32 0]) ?_ 7 _ rfl; (with_reducible repeat first | apply bN | apply bD | apply bA); refine bP (cs := #[.int .u32 a0_0, .int .i32 a0_1, .int .i32 a0_2, .int .i32 a0_3, .int .i32 a0_4, .int .i32 a0_5, .int .i32 0, .int .i32 0, .int .i32 0, .int .i32 0]) ?_ 6 _ rfl; (with_reducible repeat first | apply bN | apply bD | apply bA); refine bP (cs := #[.int .u32 a0_0, .int .i32 a0_1, .int .i32 a0_2, .int .i32 a0_3, .int .i32 a0_4, .int .i32 0, .int .i32 0, .int .i32 0, .int .i32 0, .int .i32 0]) ?_ 5 _ rfl; (with_reducible repeat first | apply bN | apply bD | apply bA); refine bP (cs := #[.int .u32 a0_0, .int .i32 a0_1, .int .i32 a0_2, .int .i32 a0_3, .int .i32 0, .int .i32 0, .int .i32 0, .int .i32 0, .int .i32 0, .int .i32 0]) ?_ 4 _ rfl; (with_reducible repeat first | apply bN | apply bD | apply bA); refine bP (cs := #[.int .u32 a0_0, .int .i32 a0_1, .int .i32 a0_2, .int .i32 0, .int .i32 0, .int .i32 0, .int .i32 0, .int .i32 0, .int .i32 0, .int .i32 0]) ?_ 3 _ rfl; (with_reducible repeat first | apply bN | apply bD | apply bA); refine bP (cs := #[.int .u32 a0_0, .int .i32 a0_1, .int .i32 0, .int .i32 0, .int .i32 0, .int .i32 0, .int .i32 0, .int .i32 0, .int .i32 0, .int .i32 0]) ?_ 2 _ rfl; (with_reducible repeat first | apply bN | apply bD | apply bA); refine bP (cs := #[.int .u32 a0_0, .int .i32 0, .int .i32 0, .int .i32 0, .int .i32 0, .int .i32 0, .int .i32 0, .int .i32 0, .int .i32 0, .int .i32 0]) ?_ 1 _ rfl; (with_reducible repeat first | apply bN | apply bD | apply bA); refine bP (cs := #[.int .u32 0, .int .i32 0, .int .i32 0, .int .i32 0, .int .i32 0, .int .i32 0, .int .i32 0, .int .i32 0, .int .i32 0, .int .i32 0]) ?_ 0 _ rfl; (with_reducible repeat first | apply bN | apply bD | apply bA); exact BK511.out) hb); have n3_ := aM (lT (by repeat (first | (with_reducible first | exact HB.out | apply lA | apply lN | apply lD | refine lS ?_ GE509.out | refine lS ?_ GE510.out | refine lS ?_ GE511.out) | exact HB.out)) hb); clear BK509; clear BK510; clear BK511; clear HB; have BK509 := n0_; have BK510 := n1_; have BK511 := n2_; have HB := n3_; clear n0_ n1_ n2_ n3_; (try clear hb); (try clear hb2); (try clear hk); (try clear hi); have hnb31 := N0_.out; have hnc31 := N1_.out; have hnb32 := N2_.out; have hnc32 := N3_.out; have hcz33_0 : w30.cell? ⟨b509, 0, none⟩ = some (.int .u32 a0_0) := (bC BK509.out 0).trans rfl; have hcz33_1 : w30.cell? ⟨b509, 1, none⟩ = some (.int .i32 a0_1) := (bC BK509.out 1).trans rfl; have hcz33_2 : w30.cell? ⟨b509, 2, none⟩ = some (.int .i32 a0_2) := (bC BK509.out 2).trans rfl; have hcz33_3 : w30.cell? ⟨b509, 3, none⟩ = some (.int .i32 a0_3) := (bC BK509.out 3).trans rfl; have hcz33_4 : w30.cell? ⟨b509, 4, none⟩ = some (.int .i32 a0_4) := (bC BK509.out 4).trans rfl; have hcz33_5 : w30.cell? ⟨b509, 5, none⟩ = some (.int .i32 a0_5) := (bC BK509.out 5).trans rfl; have hcz33_6 : w30.cell? ⟨b509, 6, none⟩ = some (.int .i32 a0_6) := (bC BK509.out 6).trans rfl; have hcz33_7 : w30.cell? ⟨b509, 7, none⟩ = some (.int .i32 a0_7) := (bC BK509.out 7).trans rfl; have hcz33_8 : w30.cell? ⟨b509, 8, none⟩ = some (.int .i32 a0_8) := (bC BK509.out 8).trans rfl; have hcz33_9 : w30.cell? ⟨b509, 9, none⟩ = some (.int .i32 a0_9) := (bC BK509.out 9).trans rfl; have hfz33_0 := bF BK509.out 0; have hfz33_1 := bF BK509.out 1; have hfz33_2 := bF BK509.out 2; have hfz33_3 := bF BK509.out 3; have hfz33_4 := bF BK509.out 4; have hfz33_5 := bF BK509.out 5; have hfz33_6 := bF BK509.out 6; have hfz33_7 := bF BK509.out 7; have hfz33_8 := bF BK509.out 8; have hfz33_9 := bF BK509.out 9; have hnb34 := N4_.out; have hnc34 := N5_.out; have hcz35_0 : w30.cell? ⟨b510, 0, none⟩ = some (.int .u32 a1_0) := (bC BK510.out 0).trans rfl; have hcz35_1 : w30.cell? ⟨b510, 1, none⟩ = some (.int .i32 a1_1) := (bC BK510.out 1).trans rfl; have hcz35_2 : w30.cell? ⟨b510, 2, none⟩ = some (.int .i32 a1_2) := (bC BK510.out 2).trans rfl; have hcz35_3 : w30.cell? ⟨b510, 3, none⟩ = some (.int .i32 a1_3) := (bC BK510.out 3).trans rfl; have hcz35_4 : w30.cell? ⟨b510, 4, none⟩ = some (.int .i32 a1_4) := (bC BK510.out 4).trans rfl; have hcz35_5 : w30.cell? ⟨b510, 5, none⟩ = some (.int .i32 a1_5) := (bC BK510.out 5).trans rfl; have hcz35_6 : w30.cell? ⟨b510, 6, none⟩ = some (.int .i32 a1_6) := (bC BK510.out 6).trans rfl; have hcz35_7 : w30.cell? ⟨b510, 7, none⟩ = some (.int .i32 a1_7) := (bC BK510.out 7).trans rfl; have hcz35_8 : w30.cell? ⟨b510, 8, none⟩ = some (.int .i32 a1_8) := (bC BK510.out 8).trans rfl; have hcz35_9 : w30.cell? ⟨b510, 9, none⟩ = some (.int .i32 a1_9) := (bC BK510.out 9).trans rfl; have hfz35_0 := bF BK510.out 0; have hfz35_1 := bF BK510.out 1; have hfz35_2 := bF BK510.out 2; have hfz35_3 := bF BK510.out 3; have hfz35_4 := bF BK510.out 4; have hfz35_5 := bF BK510.out 5; have hfz35_6 := bF BK510.out 6; have hfz35_7 := bF BK510.out 7; have hfz35_8 := bF BK510.out 8; have hfz35_9 := bF BK510.out 9) | (go_at_call 9; (with_reducible refine (billiardref14_Right.calls k a0_0 a0_1 a0_2 a0_3 a0_4 a0_5 a0_6 a0_7 a0_8 a0_9 a1_0 a1_1 a1_2 a1_3 a1_4 a1_5 a1_6 a1_7 a1_8 a1_9 true _ A15.out).mono ?_); rintro e w36 ⟨rfl, hb⟩; have n0_ := aM (bB (by (with_reducible repeat first | apply bN | apply bD | apply bA); exact BK509.out) hb); have n1_ := aM (bB (by (with_reducible repeat first | apply bN | apply bD | apply bA); exact BK510.out) hb); have n2_ := aM (bB (by (with_reducible repeat first | apply bN | apply bD | apply bA); exact BK511.out) hb); have n3_ := aM (lT (by repeat (first | (with_reducible first | exact HB.out | apply lA | apply lN | apply lD | refine lS ?_ GE509.out | refine lS ?_ GE510.out | refine lS ?_ GE511.out) | exact HB.out)) hb); clear BK509; clear BK510; clear BK511; clear HB; have BK509 := n0_; have BK510 := n1_; have BK511 := n2_; have HB := n3_; clear n0_ n1_ n2_ n3_; (try clear hb); (try clear hb2); (try clear hk); (try clear hi); have hcz37_0 : w36.cell? ⟨b511, 0, none⟩ = some (.int .u32 a0_0) := (bC BK511.out 0).trans rfl; have hcz37_1 : w36.cell? ⟨b511, 1, none⟩ = some (.int .i32 a2) := (bC BK511.out 1).trans rfl; have hcz37_2 : w36.cell? ⟨b511, 2, none⟩ = some (.int .i32 a0_2) := (bC BK511.out 2).trans rfl; have hcz37_3 : w36.cell? ⟨b511, 3, none⟩ = some (.int .i32 a0_3) := (bC BK511.out 3).trans rfl; have hcz37_4 : w36.cell? ⟨b511, 4, none⟩ = some (.int .i32 a0_4) := (bC BK511.out 4).trans rfl; have hcz37_5 : w36.cell? ⟨b511, 5, none⟩ = some (.int .i32 a0_5) := (bC BK511.out 5).trans rfl; have hcz37_6 : w36.cell? ⟨b511, 6, none⟩ = some (.int .i32 a0_6) := (bC BK511.out 6).trans rfl; have hcz37_7 : w36.cell? ⟨b511, 7, none⟩ = some (.int .i32 a0_7) := (bC BK511.out 7).trans rfl; have hcz37_8 : w36.cell? ⟨b511, 8, none⟩ = some (.int .i32 a0_8) := (bC BK511.out 8).trans rfl; have hcz37_9 : w36.cell? ⟨b511, 9, none⟩ = some (.int .i32 a0_9) := (bC BK511.out 9).trans rfl; have hfz37_0 := bF BK511.out 0; have hfz37_1 := bF BK511.out 1; have hfz37_2 := bF BK511.out 2; have hfz37_3 := bF BK511.out 3; have hfz37_4 := bF BK511.out 4; have hfz37_5 := bF BK511.out 5; have hfz37_6 := bF BK511.out 6; have hfz37_7 := bF BK511.out 7; have hfz37_8 := bF BK511.out 8; have hfz37_9 := bF BK511.out 9; have hcz38_0 : w36.cell? ⟨b510, 0, none⟩ = some (.int .u32 a1_0) := (bC BK510.out 0).trans rfl; have hcz38_1 : w36.cell? ⟨b510, 1, none⟩ = some (.int .i32 a1_1) := (bC BK510.out 1).trans rfl; have hcz38_2 : w36.cell? ⟨b510, 2, none⟩ = some (.int .i32 a1_2) := (bC BK510.out 2).trans rfl; have hcz38_3 : w36.cell? ⟨b510, 3, none⟩ = some (.int .i32 a1_3) := (bC BK510.out 3).trans rfl; have hcz38_4 : w36.cell? ⟨b510, 4, none⟩ = some (.int .i32 a1_4) := (bC BK510.out 4).trans rfl; have hcz38_5 : w36.cell? ⟨b510, 5, none⟩ = some (.int .i32 a1_5) := (bC BK510.out 5).trans rfl; have hcz38_6 : w36.cell? ⟨b510, 6, none⟩ = some (.int .i32 a1_6) := (bC BK510.out 6).trans rfl; have hcz38_7 : w36.cell? ⟨b510, 7, none⟩ = some (.int .i32 a1_7) := (bC BK510.out 7).trans rfl; have hcz38_8 : w36.cell? ⟨b510, 8, none⟩ = some (.int .i32 a1_8) := (bC BK510.out 8).trans rfl; have hcz38_9 : w36.cell? ⟨b510, 9, none⟩ = some (.int .i32 a1_9) := (bC BK510.out 9).trans rfl; have hfz38_0 := bF BK510.out 0; have hfz38_1 := bF BK510.out 1; have hfz38_2 := bF BK510.out 2; have hfz38_3 := bF BK510.out 3; have hfz38_4 := bF BK510.out 4; have hfz38_5 := bF BK510.out 5; have hfz38_6 := bF BK510.out 6; have hfz38_7 := bF BK510.out 7; have hfz38_8 := bF BK510.out 8; have hfz38_9 := bF BK510.out 9) | (go_at_call 9; (with_reducible refine (billiardref14_Right.calls k a0_0 a2 a0_2 a0_3 a0_4 a0_5 a0_6 a0_7 a0_8 a0_9 a1_0 a1_1 a1_2 a1_3 a1_4 a1_5 a1_6 a1_7 a1_8 a1_9 false _ A17.out).mono ?_); rintro e w39 ⟨rfl, hb⟩; have n0_ := aM (bB (by (with_reducible repeat first | apply bN | apply bD | apply bA); exact BK509.out) hb); have n1_ := aM (bB (by (with_reducible repeat first | apply bN | apply bD | apply bA); exact BK510.out) hb); have n2_ := aM (bB (by (with_reducible repeat first | apply bN | apply bD | apply bA); exact BK511.out) hb); have n3_ := aM (lT (by repeat (first | (with_reducible first | exact HB.out | apply lA | apply lN | apply lD | refine lS ?_ GE509.out | refine lS ?_ GE510.out | refine lS ?_ GE511.out) | exact HB.out)) hb); clear BK509; clear BK510; clear BK511; clear HB; have BK509 := n0_; have BK510 := n1_; have BK511 := n2_; have HB := n3_; clear n0_ n1_ n2_ n3_; (try clear hb); (try clear hb2); (try clear hk); (try clear hi)))
     go_meet
     case rel => exact ⟨_, (true), (by first | rfl | (simp; done) | (simp [*]; done)), H', ⟨by first | omega | exact Nat.le_refl _⟩, ⟨by (with_reducible repeat first | apply bN | apply bD | apply bA); exact BK509.out⟩, ⟨by (with_reducible repeat first | apply bN | apply bD | apply bA); exact BK510.out⟩, ⟨by (with_reducible repeat first | apply bN | apply bD | apply bA); exact BK511.out⟩, ⟨by repeat (first | (with_reducible first | exact HB.out | apply lA | apply lN | apply lD | refine lS ?_ GE509.out | refine lS ?_ GE510.out | refine lS ?_ GE511.out) | exact HB.out)⟩⟩
   ·replace c16 := Bool.eq_false_iff.mpr c16
    subst c16
    have H1 : (billiardlaw14_ContactGrows.j0 k a2 true a0_0 a0_1 a0_2 a0_3 a0_4 a0_5 a0_6 a0_7 a0_8 a0_9 a1_0 a1_1 a1_2 a1_3 a1_4 a1_5 a1_6 a1_7 a1_8 a1_9 a0_0 a2 a0_2 a0_3 a0_4 a0_5 a0_6 a0_7 a0_8 a0_9) = some r := by rw [if_neg (show ¬ (false = true) by decide)] at H; exact H
    clear H
    have H := H1
    clear H1
    have H' := aM H
    clear H
    go_wp2_with (first | ((with_reducible refine gate_callee (f := 8) rfl ?_); refine goesL_ (some 15) rfl rfl Try.func8 (by kernel_rfl) rfl #[] rfl (by (try simp only [List.map_toArray, List.map_cons, List.map_nil]); first | done | rfl | (simp only [List.length_drop, List.length_take]; rfl)) ?_; (with_reducible refine (billiardlaw14_awake.calls k  true _ A13.out).mono ?_); rintro e w40 ⟨rfl, hb⟩; refine ⟨_, rfl, ?_⟩; have n0_ := aM (bB (g := b509) (o := .cells #[.int .u32 a0_0, .int .i32 a0_1, .int .i32 a0_2, .int .i32 a0_3, .int .i32 a0_4, .int .i32 a0_5, .int .i32 a0_6, .int .i32 a0_7, .int .i32 a0_8, .int .i32 a0_9] 26 (0, 0)) (by (with_reducible repeat first | apply bN | apply bD | apply bA); refine bR ?_ N2_.out _; (with_reducible repeat first | apply bN | apply bD | apply bA); refine bR ?_ N2_.out _; (with_reducible repeat first | apply bN | apply bD | apply bA); refine bR ?_ N2_.out _; (with_reducible repeat first | apply bN | apply bD | apply bA); refine bR ?_ N2_.out _; (with_reducible repeat first | apply bN | apply bD | apply bA); refine bR ?_ N2_.out _; (with_reducible repeat first | apply bN | apply bD | apply bA); refine bR ?_ N2_.out _; (with_reducible repeat first | apply bN | apply bD | apply bA); refine bR ?_ N2_.out _; (with_reducible repeat first | apply bN | apply bD | apply bA); refine bR ?_ N2_.out _; (with_reducible repeat first | apply bN | apply bD | apply bA); refine bR ?_ N2_.out _; (with_reducible repeat first | apply bN | apply bD | apply bA); refine bR ?_ N2_.out _; (with_reducible repeat first | apply bN | apply bD | apply bA); refine bR ?_ N2_.out _; (with_reducible repeat first | apply bN | apply bD | apply bA); exact BK509.out) hb); have n1_ := aM (bB (g := b510) (o := .cells #[.int .u32 a1_0, .int .i32 a1_1, .int .i32 a1_2, .int .i32 a1_3, .int .i32 a1_4, .int .i32 a1_5, .int .i32 a1_6, .int .i32 a1_7, .int .i32 a1_8, .int .i32 a1_9] 26 (0, 0)) (by (with_reducible repeat first | apply bN | apply bD | apply bA); refine bR ?_ N4_.out _; (with_reducible repeat first | apply bN | apply bD | apply bA); refine bR ?_ N4_.out _; (with_reducible repeat first | apply bN | apply bD | apply bA); refine bR ?_ N4_.out _; (with_reducible repeat first | apply bN | apply bD | apply bA); refine bR ?_ N4_.out _; (with_reducible repeat first | apply bN | apply bD | apply bA); refine bR ?_ N4_.out _; (with_reducible repeat first | apply bN | apply bD | apply bA); refine bR ?_ N4_.out _; (with_reducible repeat first | apply bN | apply bD | apply bA); refine bR ?_ N4_.out _; (with_reducible repeat first | apply bN | apply bD | apply bA); refine bR ?_ N4_.out _; (with_reducible repeat first | apply bN | apply bD | apply bA); refine bR ?_ N4_.out _; (with_reducible repeat first | apply bN | apply bD | apply bA); refine bR ?_ N4_.out _; (with_reducible repeat first | apply bN | apply bD | apply bA); refine bR ?_ N4_.out _; (with_reducible repeat first | apply bN | apply bD | apply bA); exact BK510.out) hb); have n2_ := aM (bB (g := b511) (o := .cells #[.int .u32 a0_0, .int .i32 a2, .int .i32 a0_2, .int .i32 a0_3, .int .i32 a0_4, .int .i32 a0_5, .int .i32 a0_6, .int .i32 a0_7, .int .i32 a0_8, .int .i32 a0_9] 26 (0, 0)) (by (with_reducible repeat first | apply bN | apply bD | apply bA); refine bP (cs := #[.int .u32 a0_0, .int .i32 a0_1, .int .i32 a0_2, .int .i32 a0_3, .int .i32 a0_4, .int .i32 a0_5, .int .i32 a0_6, .int .i32 a0_7, .int .i32 a0_8, .int .i32 a0_9]) ?_ 1 _ rfl; (with_reducible repeat first | apply bN | apply bD | apply bA); refine bP (cs := #[.int .u32 a0_0, .int .i32 a0_1, .int .i32 a0_2, .int .i32 a0_3, .int .i32 a0_4, .int .i32 a0_5, .int .i32 a0_6, .int .i32 a0_7, .int .i32 a0_8, .int .i32 0]) ?_ 9 _ rfl; (with_reducible repeat first | apply bN | apply bD | apply bA); refine bP (cs := #[.int .u32 a0_0, .int .i32 a0_1, .int .i32 a0_2, .int .i32 a0_3, .int .i32 a0_4, .int .i32 a0_5, .int .i32 a0_6, .int .i32 a0_7, .int .i32 0, .int .i32 0]) ?_ 8 _ rfl; (with_reducible repeat first | apply bN | apply bD | apply bA); refine bP (cs := #[.int .u32 a0_0, .int .i32 a0_1, .int .i32 a0_2, .int .i32 a0_3, .int .i32 a0_4, .int .i32 a0_5, .int .i32 a0_6, .int .i32 0, .int .i32 0, .int .i32 0]) ?_ 7 _ rfl; (with_reducible repeat first | apply bN | apply bD | apply bA); refine bP (cs := #[.int .u32 a0_0, .int .i32 a0_1, .int .i32 a0_2, .int .i32 a0_3, .int .i32 a0_4, .int .i32 a0_5, .int .i32 0, .int .i32 0, .int .i32 0, .int .i32 0]) ?_ 6 _ rfl; (with_reducible repeat first | apply bN | apply bD | apply bA); refine bP (cs := #[.int .u32 a0_0, .int .i32 a0_1, .int .i32 a0_2, .int .i32 a0_3, .int .i32 a0_4, .int .i32 0, .int .i32 0, .int .i32 0, .int .i32 0, .int .i32 0]) ?_ 5 _ rfl; (with_reducible repeat first | apply bN | apply bD | apply bA); refine bP (cs := #[.int .u32 a0_0, .int .i32 a0_1, .int .i32 a0_2, .int .i32 a0_3, .int .i32 0, .int .i32 0, .int .i32 0, .int .i32 0, .int .i32 0, .int .i32 0]) ?_ 4 _ rfl; (with_reducible repeat first | apply bN | apply bD | apply bA); refine bP (cs := #[.int .u32 a0_0, .int .i32 a0_1, .int .i32 a0_2, .int .i32 0, .int .i32 0, .int .i32 0, .int .i32 0, .int .i32 0, .int .i32 0, .int .i32 0]) ?_ 3 _ rfl; (with_reducible repeat first | apply bN | apply bD | apply bA); refine bP (cs := #[.int .u32 a0_0, .int .i32 a0_1, .int .i32 0, .int .i32 0, .int .i32 0, .int .i32 0, .int .i32 0, .int .i32 0, .int .i32 0, .int .i32 0]) ?_ 2 _ rfl; (with_reducible repeat first | apply bN | apply bD | apply bA); refine bP (cs := #[.int .u32 a0_0, .int .i32 0, .int .i32 0, .int .i32 0, .int .i32 0, .int .i32 0, .int .i32 0, .int .i32 0, .int .i32 0, .int .i32 0]) ?_ 1 _ rfl; (with_reducible repeat first | apply bN | apply bD | apply bA); refine bP (cs := #[.int .u32 0, .int .i32 0, .int .i32 0, .int .i32 0, .int .i32 0, .int .i32 0, .int .i32 0, .int .i32 0, .int .i32 0, .int .i32 0]) ?_ 0 _ rfl; (with_reducible repeat first | apply bN | apply bD | apply bA); exact BK511.out) hb); have n3_ := aM (lT (by repeat (first | (with_reducible first | exact HB.out | apply lA | apply lN | apply lD | refine lS ?_ GE509.out | refine lS ?_ GE510.out | refine lS ?_ GE511.out) | exact HB.out)) hb); clear BK509; clear BK510; clear BK511; clear HB; have BK509 := n0_; have BK510 := n1_; have BK511 := n2_; have HB := n3_; clear n0_ n1_ n2_ n3_; (try clear hb); (try clear hb2); (try clear hk); (try clear hi); have hnb41 := N0_.out; have hnc41 := N1_.out; have hnb42 := N2_.out; have hnc42 := N3_.out; have hcz43_0 : w40.cell? ⟨b509, 0, none⟩ = some (.int .u32 a0_0) := (bC BK509.out 0).trans rfl; have hcz43_1 : w40.cell? ⟨b509, 1, none⟩ = some (.int .i32 a0_1) := (bC BK509.out 1).trans rfl; have hcz43_2 : w40.cell? ⟨b509, 2, none⟩ = some (.int .i32 a0_2) := (bC BK509.out 2).trans rfl; have hcz43_3 : w40.cell? ⟨b509, 3, none⟩ = some (.int .i32 a0_3) := (bC BK509.out 3).trans rfl; have hcz43_4 : w40.cell? ⟨b509, 4, none⟩ = some (.int .i32 a0_4) := (bC BK509.out 4).trans rfl; have hcz43_5 : w40.cell? ⟨b509, 5, none⟩ = some (.int .i32 a0_5) := (bC BK509.out 5).trans rfl; have hcz43_6 : w40.cell? ⟨b509, 6, none⟩ = some (.int .i32 a0_6) := (bC BK509.out 6).trans rfl; have hcz43_7 : w40.cell? ⟨b509, 7, none⟩ = some (.int .i32 a0_7) := (bC BK509.out 7).trans rfl; have hcz43_8 : w40.cell? ⟨b509, 8, none⟩ = some (.int .i32 a0_8) := (bC BK509.out 8).trans rfl; have hcz43_9 : w40.cell? ⟨b509, 9, none⟩ = some (.int .i32 a0_9) := (bC BK509.out 9).trans rfl; have hfz43_0 := bF BK509.out 0; have hfz43_1 := bF BK509.out 1; have hfz43_2 := bF BK509.out 2; have hfz43_3 := bF BK509.out 3; have hfz43_4 := bF BK509.out 4; have hfz43_5 := bF BK509.out 5; have hfz43_6 := bF BK509.out 6; have hfz43_7 := bF BK509.out 7; have hfz43_8 := bF BK509.out 8; have hfz43_9 := bF BK509.out 9; have hnb44 := N4_.out; have hnc44 := N5_.out; have hcz45_0 : w40.cell? ⟨b510, 0, none⟩ = some (.int .u32 a1_0) := (bC BK510.out 0).trans rfl; have hcz45_1 : w40.cell? ⟨b510, 1, none⟩ = some (.int .i32 a1_1) := (bC BK510.out 1).trans rfl; have hcz45_2 : w40.cell? ⟨b510, 2, none⟩ = some (.int .i32 a1_2) := (bC BK510.out 2).trans rfl; have hcz45_3 : w40.cell? ⟨b510, 3, none⟩ = some (.int .i32 a1_3) := (bC BK510.out 3).trans rfl; have hcz45_4 : w40.cell? ⟨b510, 4, none⟩ = some (.int .i32 a1_4) := (bC BK510.out 4).trans rfl; have hcz45_5 : w40.cell? ⟨b510, 5, none⟩ = some (.int .i32 a1_5) := (bC BK510.out 5).trans rfl; have hcz45_6 : w40.cell? ⟨b510, 6, none⟩ = some (.int .i32 a1_6) := (bC BK510.out 6).trans rfl; have hcz45_7 : w40.cell? ⟨b510, 7, none⟩ = some (.int .i32 a1_7) := (bC BK510.out 7).trans rfl; have hcz45_8 : w40.cell? ⟨b510, 8, none⟩ = some (.int .i32 a1_8) := (bC BK510.out 8).trans rfl; have hcz45_9 : w40.cell? ⟨b510, 9, none⟩ = some (.int .i32 a1_9) := (bC BK510.out 9).trans rfl; have hfz45_0 := bF BK510.out 0; have hfz45_1 := bF BK510.out 1; have hfz45_2 := bF BK510.out 2; have hfz45_3 := bF BK510.out 3; have hfz45_4 := bF BK510.out 4; have hfz45_5 := bF BK510.out 5; have hfz45_6 := bF BK510.out 6; have hfz45_7 := bF BK510.out 7; have hfz45_8 := bF BK510.out 8; have hfz45_9 := bF BK510.out 9) | (go_at_call 9; (with_reducible refine (billiardref14_Right.calls k a0_0 a0_1 a0_2 a0_3 a0_4 a0_5 a0_6 a0_7 a0_8 a0_9 a1_0 a1_1 a1_2 a1_3 a1_4 a1_5 a1_6 a1_7 a1_8 a1_9 false _ A15.out).mono ?_); rintro e w46 ⟨rfl, hb⟩; have n0_ := aM (bB (by (with_reducible repeat first | apply bN | apply bD | apply bA); exact BK509.out) hb); have n1_ := aM (bB (by (with_reducible repeat first | apply bN | apply bD | apply bA); exact BK510.out) hb); have n2_ := aM (bB (by (with_reducible repeat first | apply bN | apply bD | apply bA); exact BK511.out) hb); have n3_ := aM (lT (by repeat (first | (with_reducible first | exact HB.out | apply lA | apply lN | apply lD | refine lS ?_ GE509.out | refine lS ?_ GE510.out | refine lS ?_ GE511.out) | exact HB.out)) hb); clear BK509; clear BK510; clear BK511; clear HB; have BK509 := n0_; have BK510 := n1_; have BK511 := n2_; have HB := n3_; clear n0_ n1_ n2_ n3_; (try clear hb); (try clear hb2); (try clear hk); (try clear hi)))
    go_meet
    case rel => exact ⟨_, (true), (by first | rfl | (simp; done) | (simp [*]; done)), H', ⟨by first | omega | exact Nat.le_refl _⟩, ⟨by (with_reducible repeat first | apply bN | apply bD | apply bA); exact BK509.out⟩, ⟨by (with_reducible repeat first | apply bN | apply bD | apply bA); exact BK510.out⟩, ⟨by (with_reducible repeat first | apply bN | apply bD | apply bA); exact BK511.out⟩, ⟨by repeat (first | (with_reducible first | exact HB.out | apply lA | apply lN | apply lD | refine lS ?_ GE509.out | refine lS ?_ GE510.out | refine lS ?_ GE511.out) | exact HB.out)⟩⟩
  ·replace c14 := Bool.eq_false_iff.mpr c14
   subst c14
   exact absurd (billiardlaw14_awake.only A13.out) (by decide)
 case rest =>
  clear HC4
  try clear c1
  try clear c2
  try clear p2
  try clear c3
  try clear c4
  try clear c7
  try clear c8
  try clear c10
  try clear c11
  try clear c14
  try clear c16
  try clear c18
  try clear c20
  try clear c21
  try clear c23
  try clear c31
  try clear c32
  try clear c34
  try clear c41
  try clear c42
  try clear c44
  try clear hcz12_0
  try clear hcz12_1
  try clear hcz12_2
  try clear hcz12_3
  try clear hcz12_4
  try clear hcz12_5
  try clear hcz12_6
  try clear hcz12_7
  try clear hcz12_8
  try clear hcz12_9
  try clear hcz22_0
  try clear hcz22_1
  try clear hcz22_2
  try clear hcz22_3
  try clear hcz22_4
  try clear hcz22_5
  try clear hcz22_6
  try clear hcz22_7
  try clear hcz22_8
  try clear hcz22_9
  try clear hcz24_0
  try clear hcz24_1
  try clear hcz24_2
  try clear hcz24_3
  try clear hcz24_4
  try clear hcz24_5
  try clear hcz24_6
  try clear hcz24_7
  try clear hcz24_8
  try clear hcz24_9
  try clear hcz26_0
  try clear hcz26_1
  try clear hcz26_2
  try clear hcz26_3
  try clear hcz26_4
  try clear hcz26_5
  try clear hcz26_6
  try clear hcz26_7
  try clear hcz26_8
  try clear hcz26_9
  try clear hcz27_0
  try clear hcz27_1
  try clear hcz27_2
  try clear hcz27_3
  try clear hcz27_4
  try clear hcz27_5
  try clear hcz27_6
  try clear hcz27_7
  try clear hcz27_8
  try clear hcz27_9
  try clear hcz29_0
  try clear hcz29_1
  try clear hcz29_2
  try clear hcz29_3
  try clear hcz29_4
  try clear hcz29_5
  try clear hcz29_6
  try clear hcz29_7
  try clear hcz29_8
  try clear hcz29_9
  try clear hcz33_0
  try clear hcz33_1
  try clear hcz33_2
  try clear hcz33_3
  try clear hcz33_4
  try clear hcz33_5
  try clear hcz33_6
  try clear hcz33_7
  try clear hcz33_8
  try clear hcz33_9
  try clear hcz35_0
  try clear hcz35_1
  try clear hcz35_2
  try clear hcz35_3
  try clear hcz35_4
  try clear hcz35_5
  try clear hcz35_6
  try clear hcz35_7
  try clear hcz35_8
  try clear hcz35_9
  try clear hcz37_0
  try clear hcz37_1
  try clear hcz37_2
  try clear hcz37_3
  try clear hcz37_4
  try clear hcz37_5
  try clear hcz37_6
  try clear hcz37_7
  try clear hcz37_8
  try clear hcz37_9
  try clear hcz38_0
  try clear hcz38_1
  try clear hcz38_2
  try clear hcz38_3
  try clear hcz38_4
  try clear hcz38_5
  try clear hcz38_6
  try clear hcz38_7
  try clear hcz38_8
  try clear hcz38_9
  try clear hcz43_0
  try clear hcz43_1
  try clear hcz43_2
  try clear hcz43_3
  try clear hcz43_4
  try clear hcz43_5
  try clear hcz43_6
  try clear hcz43_7
  try clear hcz43_8
  try clear hcz43_9
  try clear hcz45_0
  try clear hcz45_1
  try clear hcz45_2
  try clear hcz45_3
  try clear hcz45_4
  try clear hcz45_5
  try clear hcz45_6
  try clear hcz45_7
  try clear hcz45_8
  try clear hcz45_9
  try clear hcz8_0
  try clear hcz8_1
  try clear hcz8_2
  try clear hcz8_3
  try clear hcz8_4
  try clear hcz8_5
  try clear hcz8_6
  try clear hcz8_7
  try clear hcz8_8
  try clear hcz8_9
  try clear hfz12_0
  try clear hfz12_1
  try clear hfz12_2
  try clear hfz12_3
  try clear hfz12_4
  try clear hfz12_5
  try clear hfz12_6
  try clear hfz12_7
  try clear hfz12_8
  try clear hfz12_9
  try clear hfz22_0
  try clear hfz22_1
  try clear hfz22_2
  try clear hfz22_3
  try clear hfz22_4
  try clear hfz22_5
  try clear hfz22_6
  try clear hfz22_7
  try clear hfz22_8
  try clear hfz22_9
  try clear hfz24_0
  try clear hfz24_1
  try clear hfz24_2
  try clear hfz24_3
  try clear hfz24_4
  try clear hfz24_5
  try clear hfz24_6
  try clear hfz24_7
  try clear hfz24_8
  try clear hfz24_9
  try clear hfz26_0
  try clear hfz26_1
  try clear hfz26_2
  try clear hfz26_3
  try clear hfz26_4
  try clear hfz26_5
  try clear hfz26_6
  try clear hfz26_7
  try clear hfz26_8
  try clear hfz26_9
  try clear hfz27_0
  try clear hfz27_1
  try clear hfz27_2
  try clear hfz27_3
  try clear hfz27_4
  try clear hfz27_5
  try clear hfz27_6
  try clear hfz27_7
  try clear hfz27_8
  try clear hfz27_9
  try clear hfz29_0
  try clear hfz29_1
  try clear hfz29_2
  try clear hfz29_3
  try clear hfz29_4
  try clear hfz29_5
  try clear hfz29_6
  try clear hfz29_7
  try clear hfz29_8
  try clear hfz29_9
  try clear hfz33_0
  try clear hfz33_1
  try clear hfz33_2
  try clear hfz33_3
  try clear hfz33_4
  try clear hfz33_5
  try clear hfz33_6
  try clear hfz33_7
  try clear hfz33_8
  try clear hfz33_9
  try clear hfz35_0
  try clear hfz35_1
  try clear hfz35_2
  try clear hfz35_3
  try clear hfz35_4
  try clear hfz35_5
  try clear hfz35_6
  try clear hfz35_7
  try clear hfz35_8
  try clear hfz35_9
  try clear hfz37_0
  try clear hfz37_1
  try clear hfz37_2
  try clear hfz37_3
  try clear hfz37_4
  try clear hfz37_5
  try clear hfz37_6
  try clear hfz37_7
  try clear hfz37_8
  try clear hfz37_9
  try clear hfz38_0
  try clear hfz38_1
  try clear hfz38_2
  try clear hfz38_3
  try clear hfz38_4
  try clear hfz38_5
  try clear hfz38_6
  try clear hfz38_7
  try clear hfz38_8
  try clear hfz38_9
  try clear hfz43_0
  try clear hfz43_1
  try clear hfz43_2
  try clear hfz43_3
  try clear hfz43_4
  try clear hfz43_5
  try clear hfz43_6
  try clear hfz43_7
  try clear hfz43_8
  try clear hfz43_9
  try clear hfz45_0
  try clear hfz45_1
  try clear hfz45_2
  try clear hfz45_3
  try clear hfz45_4
  try clear hfz45_5
  try clear hfz45_6
  try clear hfz45_7
  try clear hfz45_8
  try clear hfz45_9
  try clear hfz8_0
  try clear hfz8_1
  try clear hfz8_2
  try clear hfz8_3
  try clear hfz8_4
  try clear hfz8_5
  try clear hfz8_6
  try clear hfz8_7
  try clear hfz8_8
  try clear hfz8_9
  obtain ⟨kq, x34_3, rfl, HA, HJ3, BK509, BK510, BK511, HB⟩ := hcut
  cases kq with
  | zero => exact absurd HA.out (by simp [billiardlaw14_ContactGrows.j0])
  | succ kj3 =>
   have H := HA.out
   clear HA
   simp only [billiardlaw14_ContactGrows.j0] at H
   by_cases c47 : x34_3 = true
   ·subst c47
    have H1 : ((billiardlaw14_awake.f kj3).bind fun t515 => (some t515)) = some r := by rw [if_pos rfl] at H; exact H
    clear H
    have H := H1
    clear H1
    replace H := Option.bind_eq_some_iff.mp H
    obtain ⟨t515, A480, H⟩ := H
    replace H : (some t515) = some r := H
    have A48 := aM A480
    clear A480
    obtain rfl := Option.some.inj H
    go_wp2_with (first | ((with_reducible refine gate_callee (f := 8) rfl ?_); refine goesL_ (some 35) rfl rfl Try.func8 (by kernel_rfl) rfl #[] rfl (by (try simp only [List.map_toArray, List.map_cons, List.map_nil]); first | done | rfl | (simp only [List.length_drop, List.length_take]; rfl)) ?_; (with_reducible refine (billiardlaw14_awake.calls kj3  t515 _ A48.out).mono ?_); rintro e w49 ⟨rfl, hb⟩; refine ⟨_, rfl, ?_⟩; have n0_ := aM (bB (by (with_reducible repeat first | apply bN | apply bD | apply bA); exact BK509.out) hb); have n1_ := aM (bB (by (with_reducible repeat first | apply bN | apply bD | apply bA); exact BK510.out) hb); have n2_ := aM (bB (by (with_reducible repeat first | apply bN | apply bD | apply bA); exact BK511.out) hb); have n3_ := aM (lT (by repeat (first | (with_reducible first | exact HB.out | apply lA | apply lN | apply lD | refine lS ?_ GE509.out | refine lS ?_ GE510.out | refine lS ?_ GE511.out) | exact HB.out)) hb); clear BK509; clear BK510; clear BK511; clear HB; have BK509 := n0_; have BK510 := n1_; have BK511 := n2_; have HB := n3_; clear n0_ n1_ n2_ n3_; (try clear hb); (try clear hb2); (try clear hk); (try clear hi)))
    go_ret
    exact ⟨by first | rfl | (simp [errW_none, errW_some] <;> rfl) | (simp [*, errW_none, errW_some] <;> rfl), by repeat (first | (with_reducible first | exact HB.out | apply lA | apply lN | apply lD | refine lS ?_ GE509.out | refine lS ?_ GE510.out | refine lS ?_ GE511.out) | exact HB.out)⟩
   ·replace c47 := Bool.eq_false_iff.mpr c47
    subst c47
    have H1 : ((contact_Of.f kj3 a0_0 a0_1 a0_2 a0_3 a0_4 a0_5 a0_6 a0_7 a0_8 a0_9 a1_0 a1_1 a1_2 a1_3 a1_4 a1_5 a1_6 a1_7 a1_8 a1_9).bind fun bt516 => ((contact_Of.f kj3 a0_0 a2 a0_2 a0_3 a0_4 a0_5 a0_6 a0_7 a0_8 a0_9 a1_0 a1_1 a1_2 a1_3 a1_4 a1_5 a1_6 a1_7 a1_8 a1_9).bind fun bt523 => ((contact_Gap.f kj3 a0_0 a2 a0_2 a0_3 a0_4 a0_5 a0_6 a0_7 a0_8 a0_9 a1_0 a1_1 a1_2 a1_3 a1_4 a1_5 a1_6 a1_7 a1_8 a1_9).bind fun t530 => ((contact_Gap.f kj3 a0_0 a0_1 a0_2 a0_3 a0_4 a0_5 a0_6 a0_7 a0_8 a0_9 a1_0 a1_1 a1_2 a1_3 a1_4 a1_5 a1_6 a1_7 a1_8 a1_9).bind fun t531 => (if t530 = (wrap64 (t531 - (wrap64 (wrap32 (a2 - a0_1))))) then (if bt516.2.2.2.2.2 = true then (if bt523.2.2.2.2.2 = true then (if (bt516.2.2.1 == bt523.2.2.1 && (bt516.2.2.2.1 == bt523.2.2.2.1)) = true then (some ((wrap32 (bt523.2.2.2.2.1 - bt516.2.2.2.2.1)) == (wrap32 (a2 - a0_1)))) else (some false)) else (some false)) else (some true)) else (some false)))))) = some r := by rw [if_neg (show ¬ (false = true) by decide)] at H; exact H
    clear H
    have H := H1
    clear H1
    replace H := Option.bind_eq_some_iff.mp H
    obtain ⟨⟨t516, t517, t518, t519, t520, t521⟩, A500, H⟩ := H
    replace H : ((contact_Of.f kj3 a0_0 a2 a0_2 a0_3 a0_4 a0_5 a0_6 a0_7 a0_8 a0_9 a1_0 a1_1 a1_2 a1_3 a1_4 a1_5 a1_6 a1_7 a1_8 a1_9).bind fun bt523 => ((contact_Gap.f kj3 a0_0 a2 a0_2 a0_3 a0_4 a0_5 a0_6 a0_7 a0_8 a0_9 a1_0 a1_1 a1_2 a1_3 a1_4 a1_5 a1_6 a1_7 a1_8 a1_9).bind fun t530 => ((contact_Gap.f kj3 a0_0 a0_1 a0_2 a0_3 a0_4 a0_5 a0_6 a0_7 a0_8 a0_9 a1_0 a1_1 a1_2 a1_3 a1_4 a1_5 a1_6 a1_7 a1_8 a1_9).bind fun t531 => (if t530 = (wrap64 (t531 - (wrap64 (wrap32 (a2 - a0_1))))) then (if t521 = true then (if bt523.2.2.2.2.2 = true then (if (t518 == bt523.2.2.1 && (t519 == bt523.2.2.2.1)) = true then (some ((wrap32 (bt523.2.2.2.2.1 - t520)) == (wrap32 (a2 - a0_1)))) else (some false)) else (some false)) else (some true)) else (some false))))) = some r := H
    have A50 := aM A500
    clear A500
    replace H := Option.bind_eq_some_iff.mp H
    obtain ⟨⟨t523, t524, t525, t526, t527, t528⟩, A510, H⟩ := H
    replace H : ((contact_Gap.f kj3 a0_0 a2 a0_2 a0_3 a0_4 a0_5 a0_6 a0_7 a0_8 a0_9 a1_0 a1_1 a1_2 a1_3 a1_4 a1_5 a1_6 a1_7 a1_8 a1_9).bind fun t530 => ((contact_Gap.f kj3 a0_0 a0_1 a0_2 a0_3 a0_4 a0_5 a0_6 a0_7 a0_8 a0_9 a1_0 a1_1 a1_2 a1_3 a1_4 a1_5 a1_6 a1_7 a1_8 a1_9).bind fun t531 => (if t530 = (wrap64 (t531 - (wrap64 (wrap32 (a2 - a0_1))))) then (if t521 = true then (if t528 = true then (if (t518 == t525 && (t519 == t526)) = true then (some ((wrap32 (t527 - t520)) == (wrap32 (a2 - a0_1)))) else (some false)) else (some false)) else (some true)) else (some false)))) = some r := H
    have A51 := aM A510
    clear A510
    replace H := Option.bind_eq_some_iff.mp H
    obtain ⟨t530, A520, H⟩ := H
    replace H : ((contact_Gap.f kj3 a0_0 a0_1 a0_2 a0_3 a0_4 a0_5 a0_6 a0_7 a0_8 a0_9 a1_0 a1_1 a1_2 a1_3 a1_4 a1_5 a1_6 a1_7 a1_8 a1_9).bind fun t531 => (if t530 = (wrap64 (t531 - (wrap64 (wrap32 (a2 - a0_1))))) then (if t521 = true then (if t528 = true then (if (t518 == t525 && (t519 == t526)) = true then (some ((wrap32 (t527 - t520)) == (wrap32 (a2 - a0_1)))) else (some false)) else (some false)) else (some true)) else (some false))) = some r := H
    have A52 := aM A520
    clear A520
    replace H := Option.bind_eq_some_iff.mp H
    obtain ⟨t531, A530, H⟩ := H
    replace H : (if t530 = (wrap64 (t531 - (wrap64 (wrap32 (a2 - a0_1))))) then (if t521 = true then (if t528 = true then (if (t518 == t525 && (t519 == t526)) = true then (some ((wrap32 (t527 - t520)) == (wrap32 (a2 - a0_1)))) else (some false)) else (some false)) else (some true)) else (some false)) = some r := H
    have A53 := aM A530
    clear A530
    by_cases c54 : t530 = (wrap64 (t531 - (wrap64 (wrap32 (a2 - a0_1)))))
    ·rw [if_pos c54] at H
     have c54b0 : (t530 == (wrap64 (t531 - (wrap64 (wrap32 (a2 - a0_1)))))) = true := beq_iff_eq.mpr c54
     have c54b1 : (t530 != (wrap64 (t531 - (wrap64 (wrap32 (a2 - a0_1)))))) = false := bne_eq_false_iff_eq.mpr c54
     clear c54
     by_cases c55 : t521 = true
     ·subst c55
      have H1 : (if t528 = true then (if (t518 == t525 && (t519 == t526)) = true then (some ((wrap32 (t527 - t520)) == (wrap32 (a2 - a0_1)))) else (some false)) else (some false)) = some r := by rw [if_pos rfl] at H; exact H
      clear H
      have H := H1
      clear H1
      by_cases c56 : t528 = true
      ·subst c56
       have H1 : (if (t518 == t525 && (t519 == t526)) = true then (some ((wrap32 (t527 - t520)) == (wrap32 (a2 - a0_1)))) else (some false)) = some r := by rw [if_pos rfl] at H; exact H
       clear H
       have H := H1
       clear H1
       by_cases c57 : (t518 == t525 && (t519 == t526)) = true
       ·rw [if_pos c57] at H
        have c57b0 : (t518 == t525 && (t519 == t526)) = true := c57
        (try (have c57b1 : decide (t518 = t525 && (t519 == t526)) = true := by simpa using c57))
        (try (have c57b2 : (t518 == t525 && (t519 == t526)) = true := by simpa using c57))
        clear c57
        obtain rfl := Option.some.inj H
        have hnb58 := N0_.out
        have hnc58 := N1_.out
        have hnb59 := N2_.out
        have hnc59 := N3_.out
        have hcz60_0 : wc.cell? ⟨b509, 0, none⟩ = some (.int .u32 a0_0) := (bC BK509.out 0).trans rfl
        have hcz60_1 : wc.cell? ⟨b509, 1, none⟩ = some (.int .i32 a0_1) := (bC BK509.out 1).trans rfl
        have hcz60_2 : wc.cell? ⟨b509, 2, none⟩ = some (.int .i32 a0_2) := (bC BK509.out 2).trans rfl
        have hcz60_3 : wc.cell? ⟨b509, 3, none⟩ = some (.int .i32 a0_3) := (bC BK509.out 3).trans rfl
        have hcz60_4 : wc.cell? ⟨b509, 4, none⟩ = some (.int .i32 a0_4) := (bC BK509.out 4).trans rfl
        have hcz60_5 : wc.cell? ⟨b509, 5, none⟩ = some (.int .i32 a0_5) := (bC BK509.out 5).trans rfl
        have hcz60_6 : wc.cell? ⟨b509, 6, none⟩ = some (.int .i32 a0_6) := (bC BK509.out 6).trans rfl
        have hcz60_7 : wc.cell? ⟨b509, 7, none⟩ = some (.int .i32 a0_7) := (bC BK509.out 7).trans rfl
        have hcz60_8 : wc.cell? ⟨b509, 8, none⟩ = some (.int .i32 a0_8) := (bC BK509.out 8).trans rfl
        have hcz60_9 : wc.cell? ⟨b509, 9, none⟩ = some (.int .i32 a0_9) := (bC BK509.out 9).trans rfl
        have hfz60_0 := bF BK509.out 0
        have hfz60_1 := bF BK509.out 1
        have hfz60_2 := bF BK509.out 2
        have hfz60_3 := bF BK509.out 3
        have hfz60_4 := bF BK509.out 4
        have hfz60_5 := bF BK509.out 5
        have hfz60_6 := bF BK509.out 6
        have hfz60_7 := bF BK509.out 7
        have hfz60_8 := bF BK509.out 8
        have hfz60_9 := bF BK509.out 9
        have hnb61 := N4_.out
        have hnc61 := N5_.out
        have hcz62_0 : wc.cell? ⟨b510, 0, none⟩ = some (.int .u32 a1_0) := (bC BK510.out 0).trans rfl
        have hcz62_1 : wc.cell? ⟨b510, 1, none⟩ = some (.int .i32 a1_1) := (bC BK510.out 1).trans rfl
        have hcz62_2 : wc.cell? ⟨b510, 2, none⟩ = some (.int .i32 a1_2) := (bC BK510.out 2).trans rfl
        have hcz62_3 : wc.cell? ⟨b510, 3, none⟩ = some (.int .i32 a1_3) := (bC BK510.out 3).trans rfl
        have hcz62_4 : wc.cell? ⟨b510, 4, none⟩ = some (.int .i32 a1_4) := (bC BK510.out 4).trans rfl
        have hcz62_5 : wc.cell? ⟨b510, 5, none⟩ = some (.int .i32 a1_5) := (bC BK510.out 5).trans rfl
        have hcz62_6 : wc.cell? ⟨b510, 6, none⟩ = some (.int .i32 a1_6) := (bC BK510.out 6).trans rfl
        have hcz62_7 : wc.cell? ⟨b510, 7, none⟩ = some (.int .i32 a1_7) := (bC BK510.out 7).trans rfl
        have hcz62_8 : wc.cell? ⟨b510, 8, none⟩ = some (.int .i32 a1_8) := (bC BK510.out 8).trans rfl
        have hcz62_9 : wc.cell? ⟨b510, 9, none⟩ = some (.int .i32 a1_9) := (bC BK510.out 9).trans rfl
        have hfz62_0 := bF BK510.out 0
        have hfz62_1 := bF BK510.out 1
        have hfz62_2 := bF BK510.out 2
        have hfz62_3 := bF BK510.out 3
        have hfz62_4 := bF BK510.out 4
        have hfz62_5 := bF BK510.out 5
        have hfz62_6 := bF BK510.out 6
        have hfz62_7 := bF BK510.out 7
        have hfz62_8 := bF BK510.out 8
        have hfz62_9 := bF BK510.out 9
        try go_wp2_with (first | ((with_reducible refine gate_callee (f := 10) rfl ?_); refine goesL_ (some 39) rfl rfl Try.func10 (by kernel_rfl) rfl #[.agg #[.int .u32 a0_0, .int .i32 a0_1, .int .i32 a0_2, .int .i32 a0_3, .int .i32 a0_4, .int .i32 a0_5, .int .i32 a0_6, .int .i32 a0_7, .int .i32 a0_8, .int .i32 a0_9], .agg #[.int .u32 a1_0, .int .i32 a1_1, .int .i32 a1_2, .int .i32 a1_3, .int .i32 a1_4, .int .i32 a1_5, .int .i32 a1_6, .int .i32 a1_7, .int .i32 a1_8, .int .i32 a1_9]] rfl (by (try simp only [List.map_toArray, List.map_cons, List.map_nil]); first | done | rfl | (simp only [List.length_drop, List.length_take]; rfl)) ?_; (with_reducible refine (contact_Of.calls kj3 a0_0 a0_1 a0_2 a0_3 a0_4 a0_5 a0_6 a0_7 a0_8 a0_9 a1_0 a1_1 a1_2 a1_3 a1_4 a1_5 a1_6 a1_7 a1_8 a1_9 t516 t517 t518 t519 t520 true _ A50.out).mono ?_); rintro e w63 ⟨rfl, hb⟩; refine ⟨_, rfl, ?_⟩; have n0_ := aM (bB (by (with_reducible repeat first | apply bN | apply bD | apply bA); exact BK509.out) hb); have n1_ := aM (bB (by (with_reducible repeat first | apply bN | apply bD | apply bA); exact BK510.out) hb); have n2_ := aM (bB (by (with_reducible repeat first | apply bN | apply bD | apply bA); exact BK511.out) hb); have n3_ := aM (lT (by repeat (first | (with_reducible first | exact HB.out | apply lA | apply lN | apply lD | refine lS ?_ GE509.out | refine lS ?_ GE510.out | refine lS ?_ GE511.out) | exact HB.out)) hb); clear BK509; clear BK510; clear BK511; clear HB; have BK509 := n0_; have BK510 := n1_; have BK511 := n2_; have HB := n3_; clear n0_ n1_ n2_ n3_; (try clear hb); (try clear hb2); (try clear hk); (try clear hi)) | ((with_reducible refine gate_dst (N := 8) rfl ?_); refine box_event ?hg (N := 8) ?hd (cs := #[.int .u32 0, .int .u32 0, .int .i32 0, .int .i32 0, .int .i32 0]) (t := 32) ?hr ?_; (case hd => rfl); (case hg => rfl); (case hr => first | (go_simp; done) | (go_simp; rfl)); intro b522 hg w64 hbox hb; have n0_ := aM (bB (by (with_reducible repeat first | apply bN | apply bD | apply bA); exact BK509.out) hb); have n1_ := aM (bB (by (with_reducible repeat first | apply bN | apply bD | apply bA); exact BK510.out) hb); have n2_ := aM (bB (by (with_reducible repeat first | apply bN | apply bD | apply bA); exact BK511.out) hb); have n3_ := aM (lT (by repeat (first | (with_reducible first | exact HB.out | apply lA | apply lN | apply lD | refine lS ?_ GE509.out | refine lS ?_ GE510.out | refine lS ?_ GE511.out) | exact HB.out)) hb); have n4_ := aM (hbox); have n5_ := aM ((by rw [hg]; exact (lZ (by repeat (first | (with_reducible first | exact HB.out | apply lA | apply lN | apply lD | refine lS ?_ GE509.out | refine lS ?_ GE510.out | refine lS ?_ GE511.out) | exact HB.out))) : w.heap.size ≤ b522)); have n6_ := aM ((by rw [hg]; exact (lZ (by repeat (first | (with_reducible first | exact HB.out | apply lA | apply lN | apply lD | refine lS ?_ GE509.out | refine lS ?_ GE510.out | refine lS ?_ GE511.out) | exact HB.out))) : w.heap.size ≤ b522)); have n7_ := aM ((by rw [hg]; exact Nat.ne_of_lt (bL (g := b509) (by (with_reducible repeat first | apply bN | apply bD | apply bA); exact BK509.out)) : b509 ≠ b522)); have n8_ := aM ((by rw [hg]; exact Nat.ne_of_gt (bL (g := b509) (by (with_reducible repeat first | apply bN | apply bD | apply bA); exact BK509.out)) : b522 ≠ b509)); have n9_ := aM ((by rw [hg]; exact Nat.ne_of_lt (bL (g := b510) (by (with_reducible repeat first | apply bN | apply bD | apply bA); exact BK510.out)) : b510 ≠ b522)); have n10_ := aM ((by rw [hg]; exact Nat.ne_of_gt (bL (g := b510) (by (with_reducible repeat first | apply bN | apply bD | apply bA); exact BK510.out)) : b522 ≠ b510)); have n11_ := aM ((by rw [hg]; exact Nat.ne_of_lt (bL (g := b511) (by (with_reducible repeat first | apply bN | apply bD | apply bA); exact BK511.out)) : b511 ≠ b522)); have n12_ := aM ((by rw [hg]; exact Nat.ne_of_gt (bL (g := b511) (by (with_reducible repeat first | apply bN | apply bD | apply bA); exact BK511.out)) : b522 ≠ b511)); clear BK509; clear BK510; clear BK511; clear HB; have BK509 := n0_; have BK510 := n1_; have BK511 := n2_; have HB := n3_; have BK522 := n4_; have GW522 := n5_; have GE522 := n6_; have N6_ := n7_; have N7_ := n8_; have N8_ := n9_; have N9_ := n10_; have N10_ := n11_; have N11_ := n12_; clear n0_ n1_ n2_ n3_ n4_ n5_ n6_ n7_ n8_ n9_ n10_ n11_ n12_; clear hb hbox hg; have hnb65 := N7_.out; have hnc65 := N6_.out; have hnb66 := N9_.out; have hnc66 := N8_.out; have hnb67 := N11_.out; have hnc67 := N10_.out; have hcz68_0 : w64.cell? ⟨b522, 0, none⟩ = some (.int .u32 0) := (bC BK522.out 0).trans rfl; have hcz68_1 : w64.cell? ⟨b522, 1, none⟩ = some (.int .u32 0) := (bC BK522.out 1).trans rfl; have hcz68_2 : w64.cell? ⟨b522, 2, none⟩ = some (.int .i32 0) := (bC BK522.out 2).trans rfl; have hcz68_3 : w64.cell? ⟨b522, 3, none⟩ = some (.int .i32 0) := (bC BK522.out 3).trans rfl; have hcz68_4 : w64.cell? ⟨b522, 4, none⟩ = some (.int .i32 0) := (bC BK522.out 4).trans rfl; have hfz68_0 := bF BK522.out 0; have hfz68_1 := bF BK522.out 1; have hfz68_2 := bF BK522.out 2; have hfz68_3 := bF BK522.out 3; have hfz68_4 := bF BK522.out 4; have hcz69_0 : w64.cell? ⟨b511, 0, none⟩ = some (.int .u32 a0_0) := (bC BK511.out 0).trans rfl; have hcz69_1 : w64.cell? ⟨b511, 1, none⟩ = some (.int .i32 a2) := (bC BK511.out 1).trans rfl; have hcz69_2 : w64.cell? ⟨b511, 2, none⟩ = some (.int .i32 a0_2) := (bC BK511.out 2).trans rfl; have hcz69_3 : w64.cell? ⟨b511, 3, none⟩ = some (.int .i32 a0_3) := (bC BK511.out 3).trans rfl; have hcz69_4 : w64.cell? ⟨b511, 4, none⟩ = some (.int .i32 a0_4) := (bC BK511.out 4).trans rfl; have hcz69_5 : w64.cell? ⟨b511, 5, none⟩ = some (.int .i32 a0_5) := (bC BK511.out 5).trans rfl; have hcz69_6 : w64.cell? ⟨b511, 6, none⟩ = some (.int .i32 a0_6) := (bC BK511.out 6).trans rfl; have hcz69_7 : w64.cell? ⟨b511, 7, none⟩ = some (.int .i32 a0_7) := (bC BK511.out 7).trans rfl; have hcz69_8 : w64.cell? ⟨b511, 8, none⟩ = some (.int .i32 a0_8) := (bC BK511.out 8).trans rfl; have hcz69_9 : w64.cell? ⟨b511, 9, none⟩ = some (.int .i32 a0_9) := (bC BK511.out 9).trans rfl; have hfz69_0 := bF BK511.out 0; have hfz69_1 := bF BK511.out 1; have hfz69_2 := bF BK511.out 2; have hfz69_3 := bF BK511.out 3; have hfz69_4 := bF BK511.out 4; have hfz69_5 := bF BK511.out 5; have hfz69_6 := bF BK511.out 6; have hfz69_7 := bF BK511.out 7; have hfz69_8 := bF BK511.out 8; have hfz69_9 := bF BK511.out 9; have hcz70_0 : w64.cell? ⟨b510, 0, none⟩ = some (.int .u32 a1_0) := (bC BK510.out 0).trans rfl; have hcz70_1 : w64.cell? ⟨b510, 1, none⟩ = some (.int .i32 a1_1) := (bC BK510.out 1).trans rfl; have hcz70_2 : w64.cell? ⟨b510, 2, none⟩ = some (.int .i32 a1_2) := (bC BK510.out 2).trans rfl; have hcz70_3 : w64.cell? ⟨b510, 3, none⟩ = some (.int .i32 a1_3) := (bC BK510.out 3).trans rfl; have hcz70_4 : w64.cell? ⟨b510, 4, none⟩ = some (.int .i32 a1_4) := (bC BK510.out 4).trans rfl; have hcz70_5 : w64.cell? ⟨b510, 5, none⟩ = some (.int .i32 a1_5) := (bC BK510.out 5).trans rfl; have hcz70_6 : w64.cell? ⟨b510, 6, none⟩ = some (.int .i32 a1_6) := (bC BK510.out 6).trans rfl; have hcz70_7 : w64.cell? ⟨b510, 7, none⟩ = some (.int .i32 a1_7) := (bC BK510.out 7).trans rfl; have hcz70_8 : w64.cell? ⟨b510, 8, none⟩ = some (.int .i32 a1_8) := (bC BK510.out 8).trans rfl; have hcz70_9 : w64.cell? ⟨b510, 9, none⟩ = some (.int .i32 a1_9) := (bC BK510.out 9).trans rfl; have hfz70_0 := bF BK510.out 0; have hfz70_1 := bF BK510.out 1; have hfz70_2 := bF BK510.out 2; have hfz70_3 := bF BK510.out 3; have hfz70_4 := bF BK510.out 4; have hfz70_5 := bF BK510.out 5; have hfz70_6 := bF BK510.out 6; have hfz70_7 := bF BK510.out 7; have hfz70_8 := bF BK510.out 8; have hfz70_9 := bF BK510.out 9) | ((with_reducible refine gate_callee (f := 10) rfl ?_); refine goesL_ (some 45) rfl rfl Try.func10 (by kernel_rfl) rfl #[.agg #[.int .u32 a0_0, .int .i32 a2, .int .i32 a0_2, .int .i32 a0_3, .int .i32 a0_4, .int .i32 a0_5, .int .i32 a0_6, .int .i32 a0_7, .int .i32 a0_8, .int .i32 a0_9], .agg #[.int .u32 a1_0, .int .i32 a1_1, .int .i32 a1_2, .int .i32 a1_3, .int .i32 a1_4, .int .i32 a1_5, .int .i32 a1_6, .int .i32 a1_7, .int .i32 a1_8, .int .i32 a1_9]] rfl (by (try simp only [List.map_toArray, List.map_cons, List.map_nil]); first | done | rfl | (simp only [List.length_drop, List.length_take]; rfl)) ?_; (with_reducible refine (contact_Of.calls kj3 a0_0 a2 a0_2 a0_3 a0_4 a0_5 a0_6 a0_7 a0_8 a0_9 a1_0 a1_1 a1_2 a1_3 a1_4 a1_5 a1_6 a1_7 a1_8 a1_9 t523 t524 t525 t526 t527 true _ A51.out).mono ?_); rintro e w71 ⟨rfl, hb⟩; refine ⟨_, rfl, ?_⟩; have n0_ := aM (bB (g := b509) (o := .cells #[.int .u32 a0_0, .int .i32 a0_1, .int .i32 a0_2, .int .i32 a0_3, .int .i32 a0_4, .int .i32 a0_5, .int .i32 a0_6, .int .i32 a0_7, .int .i32 a0_8, .int .i32 a0_9] 26 (0, 0)) (by (with_reducible repeat first | apply bN | apply bD | apply bA); refine bR ?_ N6_.out _; (with_reducible repeat first | apply bN | apply bD | apply bA); refine bR ?_ N6_.out _; (with_reducible repeat first | apply bN | apply bD | apply bA); refine bR ?_ N6_.out _; (with_reducible repeat first | apply bN | apply bD | apply bA); refine bR ?_ N6_.out _; (with_reducible repeat first | apply bN | apply bD | apply bA); refine bR ?_ N6_.out _; (with_reducible repeat first | apply bN | apply bD | apply bA); exact BK509.out) hb); have n1_ := aM (bB (g := b510) (o := .cells #[.int .u32 a1_0, .int .i32 a1_1, .int .i32 a1_2, .int .i32 a1_3, .int .i32 a1_4, .int .i32 a1_5, .int .i32 a1_6, .int .i32 a1_7, .int .i32 a1_8, .int .i32 a1_9] 26 (0, 0)) (by (with_reducible repeat first | apply bN | apply bD | apply bA); refine bR ?_ N8_.out _; (with_reducible repeat first | apply bN | apply bD | apply bA); refine bR ?_ N8_.out _; (with_reducible repeat first | apply bN | apply bD | apply bA); refine bR ?_ N8_.out _; (with_reducible repeat first | apply bN | apply bD | apply bA); refine bR ?_ N8_.out _; (with_reducible repeat first | apply bN | apply bD | apply bA); refine bR ?_ N8_.out _; (with_reducible repeat first | apply bN | apply bD | apply bA); exact BK510.out) hb); have n2_ := aM (bB (g := b511) (o := .cells #[.int .u32 a0_0, .int .i32 a2, .int .i32 a0_2, .int .i32 a0_3, .int .i32 a0_4, .int .i32 a0_5, .int .i32 a0_6, .int .i32 a0_7, .int .i32 a0_8, .int .i32 a0_9] 26 (0, 0)) (by (with_reducible repeat first | apply bN | apply bD | apply bA); refine bR ?_ N10_.out _; (with_reducible repeat first | apply bN | apply bD | apply bA); refine bR ?_ N10_.out _; (with_reducible repeat first | apply bN | apply bD | apply bA); refine bR ?_ N10_.out _; (with_reducible repeat first | apply bN | apply bD | apply bA); refine bR ?_ N10_.out _; (with_reducible repeat first | apply bN | apply bD | apply bA); refine bR ?_ N10_.out _; (with_reducible repeat first | apply bN | apply bD | apply bA); exact BK511.out) hb); have n3_ := aM (bB (g := b522) (o := .cells #[.int .u32 t516, .int .u32 t517, .int .i32 t518, .int .i32 t519, .int .i32 t520] 32 (0, 0)) (by (with_reducible repeat first | apply bN | apply bD | apply bA); refine bP (cs := #[.int .u32 t516, .int .u32 t517, .int .i32 t518, .int .i32 t519, .int .i32 0]) ?_ 4 _ rfl; (with_reducible repeat first | apply bN | apply bD | apply bA); refine bP (cs := #[.int .u32 t516, .int .u32 t517, .int .i32 t518, .int .i32 0, .int .i32 0]) ?_ 3 _ rfl; (with_reducible repeat first | apply bN | apply bD | apply bA); refine bP (cs := #[.int .u32 t516, .int .u32 t517, .int .i32 0, .int .i32 0, .int .i32 0]) ?_ 2 _ rfl; (with_reducible repeat first | apply bN | apply bD | apply bA); refine bP (cs := #[.int .u32 t516, .int .u32 0, .int .i32 0, .int .i32 0, .int .i32 0]) ?_ 1 _ rfl; (with_reducible repeat first | apply bN | apply bD | apply bA); refine bP (cs := #[.int .u32 0, .int .u32 0, .int .i32 0, .int .i32 0, .int .i32 0]) ?_ 0 _ rfl; (with_reducible repeat first | apply bN | apply bD | apply bA); exact BK522.out) hb); have n4_ := aM (lT (by repeat (first | (with_reducible first | exact HB.out | apply lA | apply lN | apply lD | refine lS ?_ GE509.out | refine lS ?_ GE510.out | refine lS ?_ GE511.out | refine lS ?_ GE522.out) | exact HB.out)) hb); clear BK509; clear BK510; clear BK511; clear BK522; clear HB; have BK509 := n0_; have BK510 := n1_; have BK511 := n2_; have BK522 := n3_; have HB := n4_; clear n0_ n1_ n2_ n3_ n4_; (try clear hb); (try clear hb2); (try clear hk); (try clear hi)) | ((with_reducible refine gate_dst (N := 10) rfl ?_); refine box_event ?hg (N := 10) ?hd (cs := #[.int .u32 0, .int .u32 0, .int .i32 0, .int .i32 0, .int .i32 0]) (t := 32) ?hr ?_; (case hd => rfl); (case hg => rfl); (case hr => first | (go_simp; done) | (go_simp; rfl)); intro b529 hg w72 hbox hb; have n0_ := aM (bB (by (with_reducible repeat first | apply bN | apply bD | apply bA); exact BK509.out) hb); have n1_ := aM (bB (by (with_reducible repeat first | apply bN | apply bD | apply bA); exact BK510.out) hb); have n2_ := aM (bB (by (with_reducible repeat first | apply bN | apply bD | apply bA); exact BK511.out) hb); have n3_ := aM (bB (by (with_reducible repeat first | apply bN | apply bD | apply bA); exact BK522.out) hb); have n4_ := aM (lT (by repeat (first | (with_reducible first | exact HB.out | apply lA | apply lN | apply lD | refine lS ?_ GE509.out | refine lS ?_ GE510.out | refine lS ?_ GE511.out | refine lS ?_ GE522.out) | exact HB.out)) hb); have n5_ := aM (hbox); have n6_ := aM ((by rw [hg]; exact (lZ (by repeat (first | (with_reducible first | exact HB.out | apply lA | apply lN | apply lD | refine lS ?_ GE509.out | refine lS ?_ GE510.out | refine lS ?_ GE511.out | refine lS ?_ GE522.out) | exact HB.out))) : w.heap.size ≤ b529)); have n7_ := aM ((by rw [hg]; exact (lZ (by repeat (first | (with_reducible first | exact HB.out | apply lA | apply lN | apply lD | refine lS ?_ GE509.out | refine lS ?_ GE510.out | refine lS ?_ GE511.out | refine lS ?_ GE522.out) | exact HB.out))) : w.heap.size ≤ b529)); have n8_ := aM ((by rw [hg]; exact Nat.ne_of_lt (bL (g := b509) (by (with_reducible repeat first | apply bN | apply bD | apply bA); exact BK509.out)) : b509 ≠ b529)); have n9_ := aM ((by rw [hg]; exact Nat.ne_of_gt (bL (g := b509) (by (with_reducible repeat first | apply bN | apply bD | apply bA); exact BK509.out)) : b529 ≠ b509)); have n10_ := aM ((by rw [hg]; exact Nat.ne_of_lt (bL (g := b510) (by (with_reducible repeat first | apply bN | apply bD | apply bA); exact BK510.out)) : b510 ≠ b529)); have n11_ := aM ((by rw [hg]; exact Nat.ne_of_gt (bL (g := b510) (by (with_reducible repeat first | apply bN | apply bD | apply bA); exact BK510.out)) : b529 ≠ b510)); have n12_ := aM ((by rw [hg]; exact Nat.ne_of_lt (bL (g := b511) (by (with_reducible repeat first | apply bN | apply bD | apply bA); exact BK511.out)) : b511 ≠ b529)); have n13_ := aM ((by rw [hg]; exact Nat.ne_of_gt (bL (g := b511) (by (with_reducible repeat first | apply bN | apply bD | apply bA); exact BK511.out)) : b529 ≠ b511)); have n14_ := aM ((by rw [hg]; exact Nat.ne_of_lt (bL (g := b522) (by (with_reducible repeat first | apply bN | apply bD | apply bA); exact BK522.out)) : b522 ≠ b529)); have n15_ := aM ((by rw [hg]; exact Nat.ne_of_gt (bL (g := b522) (by (with_reducible repeat first | apply bN | apply bD | apply bA); exact BK522.out)) : b529 ≠ b522)); clear BK509; clear BK510; clear BK511; clear BK522; clear HB; have BK509 := n0_; have BK510 := n1_; have BK511 := n2_; have BK522 := n3_; have HB := n4_; have BK529 := n5_; have GW529 := n6_; have GE529 := n7_; have N12_ := n8_; have N13_ := n9_; have N14_ := n10_; have N15_ := n11_; have N16_ := n12_; have N17_ := n13_; have N18_ := n14_; have N19_ := n15_; clear n0_ n1_ n2_ n3_ n4_ n5_ n6_ n7_ n8_ n9_ n10_ n11_ n12_ n13_ n14_ n15_; clear hb hbox hg; have hnb73 := N13_.out; have hnc73 := N12_.out; have hnb74 := N15_.out; have hnc74 := N14_.out; have hnb75 := N17_.out; have hnc75 := N16_.out; have hnb76 := N19_.out; have hnc76 := N18_.out; have hcz77_0 : w72.cell? ⟨b529, 0, none⟩ = some (.int .u32 0) := (bC BK529.out 0).trans rfl; have hcz77_1 : w72.cell? ⟨b529, 1, none⟩ = some (.int .u32 0) := (bC BK529.out 1).trans rfl; have hcz77_2 : w72.cell? ⟨b529, 2, none⟩ = some (.int .i32 0) := (bC BK529.out 2).trans rfl; have hcz77_3 : w72.cell? ⟨b529, 3, none⟩ = some (.int .i32 0) := (bC BK529.out 3).trans rfl; have hcz77_4 : w72.cell? ⟨b529, 4, none⟩ = some (.int .i32 0) := (bC BK529.out 4).trans rfl; have hfz77_0 := bF BK529.out 0; have hfz77_1 := bF BK529.out 1; have hfz77_2 := bF BK529.out 2; have hfz77_3 := bF BK529.out 3; have hfz77_4 := bF BK529.out 4))
        have n0_ : Aside0 ((((((w72.setCell ⟨b529, 0, none⟩ (.int .u32 t523)).setCell ⟨b529, 1, none⟩ (.int .u32 t524)).setCell ⟨b529, 2, none⟩ (.int .i32 t525)).setCell ⟨b529, 3, none⟩ (.int .i32 t526)).setCell ⟨b529, 4, none⟩ (.int .i32 t527)).heap[b509]? = some (.cells #[.int .u32 a0_0, .int .i32 a0_1, .int .i32 a0_2, .int .i32 a0_3, .int .i32 a0_4, .int .i32 a0_5, .int .i32 a0_6, .int .i32 a0_7, .int .i32 a0_8, .int .i32 a0_9] 26 (0, 0))) := ⟨by (with_reducible repeat first | apply bN | apply bD | apply bA); refine bR ?_ N12_.out _; (with_reducible repeat first | apply bN | apply bD | apply bA); refine bR ?_ N12_.out _; (with_reducible repeat first | apply bN | apply bD | apply bA); refine bR ?_ N12_.out _; (with_reducible repeat first | apply bN | apply bD | apply bA); refine bR ?_ N12_.out _; (with_reducible repeat first | apply bN | apply bD | apply bA); refine bR ?_ N12_.out _; (with_reducible repeat first | apply bN | apply bD | apply bA); exact BK509.out⟩
        have n1_ : Aside0 ((((((w72.setCell ⟨b529, 0, none⟩ (.int .u32 t523)).setCell ⟨b529, 1, none⟩ (.int .u32 t524)).setCell ⟨b529, 2, none⟩ (.int .i32 t525)).setCell ⟨b529, 3, none⟩ (.int .i32 t526)).setCell ⟨b529, 4, none⟩ (.int .i32 t527)).heap[b510]? = some (.cells #[.int .u32 a1_0, .int .i32 a1_1, .int .i32 a1_2, .int .i32 a1_3, .int .i32 a1_4, .int .i32 a1_5, .int .i32 a1_6, .int .i32 a1_7, .int .i32 a1_8, .int .i32 a1_9] 26 (0, 0))) := ⟨by (with_reducible repeat first | apply bN | apply bD | apply bA); refine bR ?_ N14_.out _; (with_reducible repeat first | apply bN | apply bD | apply bA); refine bR ?_ N14_.out _; (with_reducible repeat first | apply bN | apply bD | apply bA); refine bR ?_ N14_.out _; (with_reducible repeat first | apply bN | apply bD | apply bA); refine bR ?_ N14_.out _; (with_reducible repeat first | apply bN | apply bD | apply bA); refine bR ?_ N14_.out _; (with_reducible repeat first | apply bN | apply bD | apply bA); exact BK510.out⟩
        have n2_ : Aside0 ((((((w72.setCell ⟨b529, 0, none⟩ (.int .u32 t523)).setCell ⟨b529, 1, none⟩ (.int .u32 t524)).setCell ⟨b529, 2, none⟩ (.int .i32 t525)).setCell ⟨b529, 3, none⟩ (.int .i32 t526)).setCell ⟨b529, 4, none⟩ (.int .i32 t527)).heap[b511]? = some (.cells #[.int .u32 a0_0, .int .i32 a2, .int .i32 a0_2, .int .i32 a0_3, .int .i32 a0_4, .int .i32 a0_5, .int .i32 a0_6, .int .i32 a0_7, .int .i32 a0_8, .int .i32 a0_9] 26 (0, 0))) := ⟨by (with_reducible repeat first | apply bN | apply bD | apply bA); refine bR ?_ N16_.out _; (with_reducible repeat first | apply bN | apply bD | apply bA); refine bR ?_ N16_.out _; (with_reducible repeat first | apply bN | apply bD | apply bA); refine bR ?_ N16_.out _; (with_reducible repeat first | apply bN | apply bD | apply bA); refine bR ?_ N16_.out _; (with_reducible repeat first | apply bN | apply bD | apply bA); refine bR ?_ N16_.out _; (with_reducible repeat first | apply bN | apply bD | apply bA); exact BK511.out⟩
        have n3_ : Aside0 ((((((w72.setCell ⟨b529, 0, none⟩ (.int .u32 t523)).setCell ⟨b529, 1, none⟩ (.int .u32 t524)).setCell ⟨b529, 2, none⟩ (.int .i32 t525)).setCell ⟨b529, 3, none⟩ (.int .i32 t526)).setCell ⟨b529, 4, none⟩ (.int .i32 t527)).heap[b522]? = some (.cells #[.int .u32 t516, .int .u32 t517, .int .i32 t518, .int .i32 t519, .int .i32 t520] 32 (0, 0))) := ⟨by (with_reducible repeat first | apply bN | apply bD | apply bA); refine bR ?_ N18_.out _; (with_reducible repeat first | apply bN | apply bD | apply bA); refine bR ?_ N18_.out _; (with_reducible repeat first | apply bN | apply bD | apply bA); refine bR ?_ N18_.out _; (with_reducible repeat first | apply bN | apply bD | apply bA); refine bR ?_ N18_.out _; (with_reducible repeat first | apply bN | apply bD | apply bA); refine bR ?_ N18_.out _; (with_reducible repeat first | apply bN | apply bD | apply bA); exact BK522.out⟩
        have n4_ : Aside0 ((((((w72.setCell ⟨b529, 0, none⟩ (.int .u32 t523)).setCell ⟨b529, 1, none⟩ (.int .u32 t524)).setCell ⟨b529, 2, none⟩ (.int .i32 t525)).setCell ⟨b529, 3, none⟩ (.int .i32 t526)).setCell ⟨b529, 4, none⟩ (.int .i32 t527)).heap[b529]? = some (.cells #[.int .u32 t523, .int .u32 t524, .int .i32 t525, .int .i32 t526, .int .i32 t527] 32 (0, 0))) := ⟨by (with_reducible repeat first | apply bN | apply bD | apply bA); refine bP (cs := #[.int .u32 t523, .int .u32 t524, .int .i32 t525, .int .i32 t526, .int .i32 0]) ?_ 4 _ rfl; (with_reducible repeat first | apply bN | apply bD | apply bA); refine bP (cs := #[.int .u32 t523, .int .u32 t524, .int .i32 t525, .int .i32 0, .int .i32 0]) ?_ 3 _ rfl; (with_reducible repeat first | apply bN | apply bD | apply bA); refine bP (cs := #[.int .u32 t523, .int .u32 t524, .int .i32 0, .int .i32 0, .int .i32 0]) ?_ 2 _ rfl; (with_reducible repeat first | apply bN | apply bD | apply bA); refine bP (cs := #[.int .u32 t523, .int .u32 0, .int .i32 0, .int .i32 0, .int .i32 0]) ?_ 1 _ rfl; (with_reducible repeat first | apply bN | apply bD | apply bA); refine bP (cs := #[.int .u32 0, .int .u32 0, .int .i32 0, .int .i32 0, .int .i32 0]) ?_ 0 _ rfl; (with_reducible repeat first | apply bN | apply bD | apply bA); exact BK529.out⟩
        have n5_ : Aside0 (Below w.heap.size w (((((w72.setCell ⟨b529, 0, none⟩ (.int .u32 t523)).setCell ⟨b529, 1, none⟩ (.int .u32 t524)).setCell ⟨b529, 2, none⟩ (.int .i32 t525)).setCell ⟨b529, 3, none⟩ (.int .i32 t526)).setCell ⟨b529, 4, none⟩ (.int .i32 t527))) := ⟨by repeat (first | (with_reducible first | exact HB.out | apply lA | apply lN | apply lD | refine lS ?_ GE509.out | refine lS ?_ GE510.out | refine lS ?_ GE511.out | refine lS ?_ GE522.out | refine lS ?_ GE529.out) | exact HB.out)⟩
        (try clear BK509)
        (try clear BK510)
        (try clear BK511)
        (try clear BK522)
        (try clear BK529)
        (try clear HB)
        generalize (((((w72.setCell ⟨b529, 0, none⟩ (.int .u32 t523)).setCell ⟨b529, 1, none⟩ (.int .u32 t524)).setCell ⟨b529, 2, none⟩ (.int .i32 t525)).setCell ⟨b529, 3, none⟩ (.int .i32 t526)).setCell ⟨b529, 4, none⟩ (.int .i32 t527)) = w78 at n0_ n1_ n2_ n3_ n4_ n5_ ⊢
        have BK509 := n0_
        have BK510 := n1_
        have BK511 := n2_
        have BK522 := n3_
        have BK529 := n4_
        have HB := n5_
        clear n0_ n1_ n2_ n3_ n4_ n5_
        have n0_ := aM (bD BK509.out)
        have n1_ := aM (bD BK510.out)
        have n2_ := aM (bD BK511.out)
        have n3_ := aM (bD BK522.out)
        have n4_ := aM (bD BK529.out)
        have n5_ := aM (lD HB.out)
        clear BK509
        clear BK510
        clear BK511
        clear BK522
        clear BK529
        clear HB
        have BK509 := n0_
        have BK510 := n1_
        have BK511 := n2_
        have BK522 := n3_
        have BK529 := n4_
        have HB := n5_
        clear n0_ n1_ n2_ n3_ n4_ n5_
        refine start_ (n := 20) (S := fun w' => w'.cell? ⟨b511, 0, none⟩ = some (.int .u32 a0_0) ∧ w'.cell? ⟨b511, 1, none⟩ = some (.int .i32 a2) ∧ w'.cell? ⟨b511, 2, none⟩ = some (.int .i32 a0_2) ∧ w'.cell? ⟨b511, 3, none⟩ = some (.int .i32 a0_3) ∧ w'.cell? ⟨b511, 4, none⟩ = some (.int .i32 a0_4) ∧ w'.cell? ⟨b511, 5, none⟩ = some (.int .i32 a0_5) ∧ w'.cell? ⟨b511, 6, none⟩ = some (.int .i32 a0_6) ∧ w'.cell? ⟨b511, 7, none⟩ = some (.int .i32 a0_7) ∧ w'.cell? ⟨b511, 8, none⟩ = some (.int .i32 a0_8) ∧ w'.cell? ⟨b511, 9, none⟩ = some (.int .i32 a0_9) ∧ w'.cell? ⟨b510, 0, none⟩ = some (.int .u32 a1_0) ∧ w'.cell? ⟨b510, 1, none⟩ = some (.int .i32 a1_1) ∧ w'.cell? ⟨b510, 2, none⟩ = some (.int .i32 a1_2) ∧ w'.cell? ⟨b510, 3, none⟩ = some (.int .i32 a1_3) ∧ w'.cell? ⟨b510, 4, none⟩ = some (.int .i32 a1_4) ∧ w'.cell? ⟨b510, 5, none⟩ = some (.int .i32 a1_5) ∧ w'.cell? ⟨b510, 6, none⟩ = some (.int .i32 a1_6) ∧ w'.cell? ⟨b510, 7, none⟩ = some (.int .i32 a1_7) ∧ w'.cell? ⟨b510, 8, none⟩ = some (.int .i32 a1_8) ∧ w'.cell? ⟨b510, 9, none⟩ = some (.int .i32 a1_9) ∧ w'.cell? ⟨b509, 0, none⟩ = some (.int .u32 a0_0) ∧ w'.cell? ⟨b509, 1, none⟩ = some (.int .i32 a0_1) ∧ w'.cell? ⟨b509, 2, none⟩ = some (.int .i32 a0_2) ∧ w'.cell? ⟨b509, 3, none⟩ = some (.int .i32 a0_3) ∧ w'.cell? ⟨b509, 4, none⟩ = some (.int .i32 a0_4) ∧ w'.cell? ⟨b509, 5, none⟩ = some (.int .i32 a0_5) ∧ w'.cell? ⟨b509, 6, none⟩ = some (.int .i32 a0_6) ∧ w'.cell? ⟨b509, 7, none⟩ = some (.int .i32 a0_7) ∧ w'.cell? ⟨b509, 8, none⟩ = some (.int .i32 a0_8) ∧ w'.cell? ⟨b509, 9, none⟩ = some (.int .i32 a0_9)) (ds := []) #[F,F,F,F,F,F,F,F,F,F,F,F,F,F,F,F,F,F,F,F] (by kernel_rfl) rfl rfl ⟨(bC BK511.out 0).trans rfl, (bC BK511.out 1).trans rfl, (bC BK511.out 2).trans rfl, (bC BK511.out 3).trans rfl, (bC BK511.out 4).trans rfl, (bC BK511.out 5).trans rfl, (bC BK511.out 6).trans rfl, (bC BK511.out 7).trans rfl, (bC BK511.out 8).trans rfl, (bC BK511.out 9).trans rfl, (bC BK510.out 0).trans rfl, (bC BK510.out 1).trans rfl, (bC BK510.out 2).trans rfl, (bC BK510.out 3).trans rfl, (bC BK510.out 4).trans rfl, (bC BK510.out 5).trans rfl, (bC BK510.out 6).trans rfl, (bC BK510.out 7).trans rfl, (bC BK510.out 8).trans rfl, (bC BK510.out 9).trans rfl, (bC BK509.out 0).trans rfl, (bC BK509.out 1).trans rfl, (bC BK509.out 2).trans rfl, (bC BK509.out 3).trans rfl, (bC BK509.out 4).trans rfl, (bC BK509.out 5).trans rfl, (bC BK509.out 6).trans rfl, (bC BK509.out 7).trans rfl, (bC BK509.out 8).trans rfl, (bC BK509.out 9).trans rfl⟩ (fun hHeld => ?_); refine with_tabW billiardlaw14_ContactGrows.tab7 billiardlaw14_ContactGrows.bits7 (fun HT_ HW_ => ?_)
        generalize w78.drew = w79 at BK509 BK510 BK511 BK522 BK529 HB hHeld ⊢
        refine pure_ (i := 6) (N := some 54) (v := ?_) (a' := ?_) #[F,F,F,F,F,F,T,F,F,F,F,F,F,F,F,F,F,F,F,F] rfl rfl (any_of HT_.out (by kernel_rfl)) (fun _ _ _ h => h) (Or.inl ⟨by rfl, ?_⟩) ?_ ?_
        rotate_left
        ·intro w'
         go_simp
         with_reducible rfl
        rotate_left
        ·simp only [Act.put, sA, sB, sC, i64_w, i32_w]
         rfl
        refine pure_ (i := 7) (N := some 55) (v := ?_) (a' := ?_) #[F,F,F,F,F,F,T,T,F,F,F,F,F,F,F,F,F,F,F,F] rfl rfl (any_of HT_.out (by kernel_rfl)) (fun _ _ _ h => h) (Or.inl ⟨by rfl, ?_⟩) ?_ ?_
        rotate_left
        ·intro w'
         go_simp
         with_reducible rfl
        rotate_left
        ·simp only [Act.put, sA, sB, sC, i64_w, i32_w]
         rfl
        refine take_ (i := 0) (N := some 48) (v := ?_) (a' := ?_) #[T,F,F,F,F,F,T,T,F,F,F,F,F,F,F,F,F,F,F,F] rfl rfl (take_ofW HT_.out HW_.out (by kernel_rfl)) (fun _ _ _ h => h) (Or.inl ⟨by rfl, ?_⟩) hHeld ?_ ?_
        rotate_left
        ·rintro w' ⟨s0, s1, s2, s3, s4, s5, s6, s7, s8, s9, s10, s11, s12, s13, s14, s15, s16, s17, s18, s19, s20, s21, s22, s23, s24, s25, s26, s27, s28, s29⟩
         go_simp
         with_reducible rfl
        rotate_left
        ·simp only [Act.put, sA, sB, sC, i64_w, i32_w]
         rfl
        refine take_ (i := 1) (N := some 49) (v := ?_) (a' := ?_) #[T,T,F,F,F,F,T,T,F,F,F,F,F,F,F,F,F,F,F,F] rfl rfl (take_ofW HT_.out HW_.out (by kernel_rfl)) (fun _ _ _ h => h) (Or.inl ⟨by rfl, ?_⟩) hHeld ?_ ?_
        rotate_left
        ·rintro w' ⟨s0, s1, s2, s3, s4, s5, s6, s7, s8, s9, s10, s11, s12, s13, s14, s15, s16, s17, s18, s19, s20, s21, s22, s23, s24, s25, s26, s27, s28, s29⟩
         go_simp
         with_reducible rfl
        rotate_left
        ·simp only [Act.put, sA, sB, sC, i64_w, i32_w]
         rfl
        refine take_ (i := 3) (N := some 51) (v := ?_) (a' := ?_) #[T,T,F,T,F,F,T,T,F,F,F,F,F,F,F,F,F,F,F,F] rfl rfl (take_ofW HT_.out HW_.out (by kernel_rfl)) (fun _ _ _ h => h) (Or.inl ⟨by rfl, ?_⟩) hHeld ?_ ?_
        rotate_left
        ·rintro w' ⟨s0, s1, s2, s3, s4, s5, s6, s7, s8, s9, s10, s11, s12, s13, s14, s15, s16, s17, s18, s19, s20, s21, s22, s23, s24, s25, s26, s27, s28, s29⟩
         go_simp
         with_reducible rfl
        rotate_left
        ·simp only [Act.put, sA, sB, sC, i64_w, i32_w]
         rfl
        refine take_ (i := 4) (N := some 52) (v := ?_) (a' := ?_) #[T,T,F,T,T,F,T,T,F,F,F,F,F,F,F,F,F,F,F,F] rfl rfl (take_ofW HT_.out HW_.out (by kernel_rfl)) (fun _ _ _ h => h) (Or.inl ⟨by rfl, ?_⟩) hHeld ?_ ?_
        rotate_left
        ·rintro w' ⟨s0, s1, s2, s3, s4, s5, s6, s7, s8, s9, s10, s11, s12, s13, s14, s15, s16, s17, s18, s19, s20, s21, s22, s23, s24, s25, s26, s27, s28, s29⟩
         go_simp
         with_reducible rfl
        rotate_left
        ·simp only [Act.put, sA, sB, sC, i64_w, i32_w]
         rfl
        refine take_ (i := 8) (N := some 56) (v := ?_) (a' := ?_) #[T,T,F,T,T,F,T,T,T,F,F,F,F,F,F,F,F,F,F,F] rfl rfl (take_ofW HT_.out HW_.out (by kernel_rfl)) (fun _ _ _ h => h) (Or.inl ⟨by rfl, ?_⟩) hHeld ?_ ?_
        rotate_left
        ·rintro w' ⟨s0, s1, s2, s3, s4, s5, s6, s7, s8, s9, s10, s11, s12, s13, s14, s15, s16, s17, s18, s19, s20, s21, s22, s23, s24, s25, s26, s27, s28, s29⟩
         go_simp
         with_reducible rfl
        rotate_left
        ·simp only [Act.put, sA, sB, sC, i64_w, i32_w]
         rfl
        refine pure_ (i := 9) (N := some 57) (v := ?_) (a' := ?_) #[T,T,F,T,T,F,T,T,T,T,F,F,F,F,F,F,F,F,F,F] rfl rfl (any_of HT_.out (by kernel_rfl)) (fun _ _ _ h => h) (Or.inl ⟨by rfl, ?_⟩) ?_ ?_
        rotate_left
        ·intro w'
         go_simp
         with_reducible rfl
        rotate_left
        ·simp only [Act.put, sA, sB, sC, i64_w, i32_w]
         rfl
        refine pure_ (i := 10) (N := some 58) (v := ?_) (a' := ?_) #[T,T,F,T,T,F,T,T,T,T,T,F,F,F,F,F,F,F,F,F] rfl rfl (any_of HT_.out (by kernel_rfl)) (fun _ _ _ h => h) (Or.inl ⟨by rfl, ?_⟩) ?_ ?_
        rotate_left
        ·intro w'
         go_simp
         with_reducible rfl
        rotate_left
        ·simp only [Act.put, sA, sB, sC, i64_w, i32_w]
         rfl
        refine one_ (i := 2) (N := some 50) #[T,T,T,T,T,F,T,T,T,T,T,F,F,F,F,F,F,F,F,F] rfl rfl (one_of HT_.out (by kernel_rfl)) (by decide) (fun K hK => ?_)
        refine goes_ Try.func13 (by kernel_rfl) rfl #[.agg #[.int .u32 a0_0, .int .i32 a2, .int .i32 a0_2, .int .i32 a0_3, .int .i32 a0_4, .int .i32 a0_5, .int .i32 a0_6, .int .i32 a0_7, .int .i32 a0_8, .int .i32 a0_9], .agg #[.int .u32 a1_0, .int .i32 a1_1, .int .i32 a1_2, .int .i32 a1_3, .int .i32 a1_4, .int .i32 a1_5, .int .i32 a1_6, .int .i32 a1_7, .int .i32 a1_8, .int .i32 a1_9]] (by rfl) rfl rfl (by (try simp only [List.map_toArray, List.map_cons, List.map_nil]); first | done | rfl | (simp only [List.length_drop, List.length_take]; rfl)) ?_
        with_reducible refine (contact_Gap.calls kj3 a0_0 a2 a0_2 a0_3 a0_4 a0_5 a0_6 a0_7 a0_8 a0_9 a1_0 a1_1 a1_2 a1_3 a1_4 a1_5 a1_6 a1_7 a1_8 a1_9 t530 _ A52.out).mono ?_
        rintro e w80 ⟨rfl, hb⟩
        refine ⟨_, rfl, ?_⟩
        have n0_ := aM (bB (by (with_reducible repeat first | apply bN | apply bD | apply bA); exact BK509.out) hb)
        have n1_ := aM (bB (by (with_reducible repeat first | apply bN | apply bD | apply bA); exact BK510.out) hb)
        have n2_ := aM (bB (by (with_reducible repeat first | apply bN | apply bD | apply bA); exact BK511.out) hb)
        have n3_ := aM (bB (by (with_reducible repeat first | apply bN | apply bD | apply bA); exact BK522.out) hb)
        have n4_ := aM (bB (by (with_reducible repeat first | apply bN | apply bD | apply bA); exact BK529.out) hb)
        have n5_ := aM (lT (by repeat (first | (with_reducible first | exact HB.out | apply lA | apply lN | apply lD | refine lS ?_ GE509.out | refine lS ?_ GE510.out | refine lS ?_ GE511.out | refine lS ?_ GE522.out | refine lS ?_ GE529.out) | exact HB.out)) hb)
        clear BK509
        clear BK510
        clear BK511
        clear BK522
        clear BK529
        clear HB
        have BK509 := n0_
        have BK510 := n1_
        have BK511 := n2_
        have BK522 := n3_
        have BK529 := n4_
        have HB := n5_
        clear n0_ n1_ n2_ n3_ n4_ n5_
        (try clear hb)
        (try clear hb2)
        (try clear hk)
        (try clear hi)
        refine hK.out _ _ ⟨(bC BK511.out 0).trans rfl, (bC BK511.out 1).trans rfl, (bC BK511.out 2).trans rfl, (bC BK511.out 3).trans rfl, (bC BK511.out 4).trans rfl, (bC BK511.out 5).trans rfl, (bC BK511.out 6).trans rfl, (bC BK511.out 7).trans rfl, (bC BK511.out 8).trans rfl, (bC BK511.out 9).trans rfl, (bC BK510.out 0).trans rfl, (bC BK510.out 1).trans rfl, (bC BK510.out 2).trans rfl, (bC BK510.out 3).trans rfl, (bC BK510.out 4).trans rfl, (bC BK510.out 5).trans rfl, (bC BK510.out 6).trans rfl, (bC BK510.out 7).trans rfl, (bC BK510.out 8).trans rfl, (bC BK510.out 9).trans rfl, (bC BK509.out 0).trans rfl, (bC BK509.out 1).trans rfl, (bC BK509.out 2).trans rfl, (bC BK509.out 3).trans rfl, (bC BK509.out 4).trans rfl, (bC BK509.out 5).trans rfl, (bC BK509.out 6).trans rfl, (bC BK509.out 7).trans rfl, (bC BK509.out 8).trans rfl, (bC BK509.out 9).trans rfl⟩ (fun hHeld => ?_)
        clear hK K
        refine norm_ (a' := ?_) ?_ ?_
        rotate_left
        ·show Act.put _ (some 50) _ = _
         simp only [Act.put, sA, sB, sC, i64_w, i32_w]
         rfl
        refine one_ (i := 5) (N := some 53) #[T,T,T,T,T,T,T,T,T,T,T,F,F,F,F,F,F,F,F,F] rfl rfl (one_of HT_.out (by kernel_rfl)) (by decide) (fun K hK => ?_)
        refine goes_ Try.func13 (by kernel_rfl) rfl #[.agg #[.int .u32 a0_0, .int .i32 a0_1, .int .i32 a0_2, .int .i32 a0_3, .int .i32 a0_4, .int .i32 a0_5, .int .i32 a0_6, .int .i32 a0_7, .int .i32 a0_8, .int .i32 a0_9], .agg #[.int .u32 a1_0, .int .i32 a1_1, .int .i32 a1_2, .int .i32 a1_3, .int .i32 a1_4, .int .i32 a1_5, .int .i32 a1_6, .int .i32 a1_7, .int .i32 a1_8, .int .i32 a1_9]] (by rfl) rfl rfl (by (try simp only [List.map_toArray, List.map_cons, List.map_nil]); first | done | rfl | (simp only [List.length_drop, List.length_take]; rfl)) ?_
        with_reducible refine (contact_Gap.calls kj3 a0_0 a0_1 a0_2 a0_3 a0_4 a0_5 a0_6 a0_7 a0_8 a0_9 a1_0 a1_1 a1_2 a1_3 a1_4 a1_5 a1_6 a1_7 a1_8 a1_9 t531 _ A53.out).mono ?_
        rintro e w81 ⟨rfl, hb⟩
        refine ⟨_, rfl, ?_⟩
        have n0_ := aM (bB (by (with_reducible repeat first | apply bN | apply bD | apply bA); exact BK509.out) hb)
        have n1_ := aM (bB (by (with_reducible repeat first | apply bN | apply bD | apply bA); exact BK510.out) hb)
        have n2_ := aM (bB (by (with_reducible repeat first | apply bN | apply bD | apply bA); exact BK511.out) hb)
        have n3_ := aM (bB (by (with_reducible repeat first | apply bN | apply bD | apply bA); exact BK522.out) hb)
        have n4_ := aM (bB (by (with_reducible repeat first | apply bN | apply bD | apply bA); exact BK529.out) hb)
        have n5_ := aM (lT (by repeat (first | (with_reducible first | exact HB.out | apply lA | apply lN | apply lD | refine lS ?_ GE509.out | refine lS ?_ GE510.out | refine lS ?_ GE511.out | refine lS ?_ GE522.out | refine lS ?_ GE529.out) | exact HB.out)) hb)
        clear BK509
        clear BK510
        clear BK511
        clear BK522
        clear BK529
        clear HB
        have BK509 := n0_
        have BK510 := n1_
        have BK511 := n2_
        have BK522 := n3_
        have BK529 := n4_
        have HB := n5_
        clear n0_ n1_ n2_ n3_ n4_ n5_
        (try clear hb)
        (try clear hb2)
        (try clear hk)
        (try clear hi)
        refine hK.out _ _ ⟨(bC BK511.out 0).trans rfl, (bC BK511.out 1).trans rfl, (bC BK511.out 2).trans rfl, (bC BK511.out 3).trans rfl, (bC BK511.out 4).trans rfl, (bC BK511.out 5).trans rfl, (bC BK511.out 6).trans rfl, (bC BK511.out 7).trans rfl, (bC BK511.out 8).trans rfl, (bC BK511.out 9).trans rfl, (bC BK510.out 0).trans rfl, (bC BK510.out 1).trans rfl, (bC BK510.out 2).trans rfl, (bC BK510.out 3).trans rfl, (bC BK510.out 4).trans rfl, (bC BK510.out 5).trans rfl, (bC BK510.out 6).trans rfl, (bC BK510.out 7).trans rfl, (bC BK510.out 8).trans rfl, (bC BK510.out 9).trans rfl, (bC BK509.out 0).trans rfl, (bC BK509.out 1).trans rfl, (bC BK509.out 2).trans rfl, (bC BK509.out 3).trans rfl, (bC BK509.out 4).trans rfl, (bC BK509.out 5).trans rfl, (bC BK509.out 6).trans rfl, (bC BK509.out 7).trans rfl, (bC BK509.out 8).trans rfl, (bC BK509.out 9).trans rfl⟩ (fun hHeld => ?_)
        clear hK K
        refine norm_ (a' := ?_) ?_ ?_
        rotate_left
        ·show Act.put _ (some 53) _ = _
         simp only [Act.put, sA, sB, sC, i64_w, i32_w]
         rfl
        refine pure_ (i := 11) (N := some 59) (v := ?_) (a' := ?_) #[T,T,T,T,T,T,T,T,T,T,T,T,F,F,F,F,F,F,F,F] rfl rfl (any_of HT_.out (by kernel_rfl)) (fun _ _ _ h => h) (Or.inl ⟨by rfl, ?_⟩) ?_ ?_
        rotate_left
        ·intro w'
         go_simp
         with_reducible rfl
        rotate_left
        ·simp only [Act.put, sA, sB, sC, i64_w, i32_w]
         rfl
        refine pure_ (i := 12) (N := some 60) (v := ?_) (a' := ?_) #[T,T,T,T,T,T,T,T,T,T,T,T,T,F,F,F,F,F,F,F] rfl rfl (any_of HT_.out (by kernel_rfl)) (fun _ _ _ h => h) (Or.inl ⟨by rfl, ?_⟩) ?_ ?_
        rotate_left
        ·intro w'
         go_simp
         with_reducible rfl
        rotate_left
        ·simp only [Act.put, sA, sB, sC, i64_w, i32_w]
         rfl
        refine pure_ (i := 13) (N := some 61) (v := ?_) (a' := ?_) #[T,T,T,T,T,T,T,T,T,T,T,T,T,T,F,F,F,F,F,F] rfl rfl (any_of HT_.out (by kernel_rfl)) (fun _ _ _ h => h) (Or.inl ⟨by rfl, ?_⟩) ?_ ?_
        rotate_left
        ·intro w'
         go_simp
         with_reducible rfl
        rotate_left
        ·simp only [Act.put, sA, sB, sC, i64_w, i32_w]
         rfl
        refine pure_ (i := 14) (N := some 62) (v := ?_) (a' := ?_) #[T,T,T,T,T,T,T,T,T,T,T,T,T,T,T,F,F,F,F,F] rfl rfl (any_of HT_.out (by kernel_rfl)) (fun _ _ _ h => h) (Or.inl ⟨by rfl, ?_⟩) ?_ ?_
        rotate_left
        ·intro w'
         go_simp
         with_reducible rfl
        rotate_left
        ·simp only [Act.put, sA, sB, sC, i64_w, i32_w]
         rfl
        refine pure_ (i := 15) (N := some 63) (v := ?_) (a' := ?_) #[T,T,T,T,T,T,T,T,T,T,T,T,T,T,T,T,F,F,F,F] rfl rfl (any_of HT_.out (by kernel_rfl)) (fun _ _ _ h => h) (Or.inl ⟨by rfl, ?_⟩) ?_ ?_
        rotate_left
        ·intro w'
         go_simp
         with_reducible rfl
        rotate_left
        ·simp only [Act.put, sA, sB, sC, i64_w, i32_w]
         rfl
        refine pure_ (i := 16) (N := some 64) (v := ?_) (a' := ?_) #[T,T,T,T,T,T,T,T,T,T,T,T,T,T,T,T,T,F,F,F] rfl rfl (any_of HT_.out (by kernel_rfl)) (fun _ _ _ h => h) (Or.inl ⟨by rfl, ?_⟩) ?_ ?_
        rotate_left
        ·intro w'
         go_simp
         with_reducible rfl
        rotate_left
        ·simp only [Act.put, sA, sB, sC, i64_w, i32_w]
         rfl
        refine pure_ (i := 17) (N := some 65) (v := ?_) (a' := ?_) #[T,T,T,T,T,T,T,T,T,T,T,T,T,T,T,T,T,T,F,F] rfl rfl (any_of HT_.out (by kernel_rfl)) (fun _ _ _ h => h) (Or.inl ⟨by rfl, ?_⟩) ?_ ?_
        rotate_left
        ·intro w'
         go_simp
         with_reducible rfl
        rotate_left
        ·simp only [Act.put, sA, sB, sC, i64_w, i32_w]
         rfl
        refine pure_ (i := 18) (N := some 66) (v := ?_) (a' := ?_) #[T,T,T,T,T,T,T,T,T,T,T,T,T,T,T,T,T,T,T,F] rfl rfl (any_of HT_.out (by kernel_rfl)) (fun _ _ _ h => h) (Or.inl ⟨by rfl, ?_⟩) ?_ ?_
        rotate_left
        ·intro w'
         go_simp
         with_reducible rfl
        rotate_left
        ·simp only [Act.put, sA, sB, sC, i64_w, i32_w]
         rfl
        refine pure_ (i := 19) (N := some 67) (v := ?_) (a' := ?_) #[T,T,T,T,T,T,T,T,T,T,T,T,T,T,T,T,T,T,T,T] rfl rfl (any_of HT_.out (by kernel_rfl)) (fun _ _ _ h => h) (Or.inl ⟨by rfl, ?_⟩) ?_ ?_
        rotate_left
        ·intro w'
         go_simp
         with_reducible rfl
        rotate_left
        ·simp only [Act.put, sA, sB, sC, i64_w, i32_w]
         rfl
        refine done_ (done_of HT_.out (by kernel_rfl)) ?_
        have hcz82_0 : w81.cell? ⟨b522, 0, none⟩ = some (.int .u32 t516) := (bC BK522.out 0).trans rfl
        have hcz82_1 : w81.cell? ⟨b522, 1, none⟩ = some (.int .u32 t517) := (bC BK522.out 1).trans rfl
        have hcz82_2 : w81.cell? ⟨b522, 2, none⟩ = some (.int .i32 t518) := (bC BK522.out 2).trans rfl
        have hcz82_3 : w81.cell? ⟨b522, 3, none⟩ = some (.int .i32 t519) := (bC BK522.out 3).trans rfl
        have hcz82_4 : w81.cell? ⟨b522, 4, none⟩ = some (.int .i32 t520) := (bC BK522.out 4).trans rfl
        have hfz82_0 := bF BK522.out 0
        have hfz82_1 := bF BK522.out 1
        have hfz82_2 := bF BK522.out 2
        have hfz82_3 := bF BK522.out 3
        have hfz82_4 := bF BK522.out 4
        have hcz83_0 : w81.cell? ⟨b529, 0, none⟩ = some (.int .u32 t523) := (bC BK529.out 0).trans rfl
        have hcz83_1 : w81.cell? ⟨b529, 1, none⟩ = some (.int .u32 t524) := (bC BK529.out 1).trans rfl
        have hcz83_2 : w81.cell? ⟨b529, 2, none⟩ = some (.int .i32 t525) := (bC BK529.out 2).trans rfl
        have hcz83_3 : w81.cell? ⟨b529, 3, none⟩ = some (.int .i32 t526) := (bC BK529.out 3).trans rfl
        have hcz83_4 : w81.cell? ⟨b529, 4, none⟩ = some (.int .i32 t527) := (bC BK529.out 4).trans rfl
        have hfz83_0 := bF BK529.out 0
        have hfz83_1 := bF BK529.out 1
        have hfz83_2 := bF BK529.out 2
        have hfz83_3 := bF BK529.out 3
        have hfz83_4 := bF BK529.out 4
        have hcz84_0 : w81.cell? ⟨b509, 0, none⟩ = some (.int .u32 a0_0) := (bC BK509.out 0).trans rfl
        have hcz84_1 : w81.cell? ⟨b509, 1, none⟩ = some (.int .i32 a0_1) := (bC BK509.out 1).trans rfl
        have hcz84_2 : w81.cell? ⟨b509, 2, none⟩ = some (.int .i32 a0_2) := (bC BK509.out 2).trans rfl
        have hcz84_3 : w81.cell? ⟨b509, 3, none⟩ = some (.int .i32 a0_3) := (bC BK509.out 3).trans rfl
        have hcz84_4 : w81.cell? ⟨b509, 4, none⟩ = some (.int .i32 a0_4) := (bC BK509.out 4).trans rfl
        have hcz84_5 : w81.cell? ⟨b509, 5, none⟩ = some (.int .i32 a0_5) := (bC BK509.out 5).trans rfl
        have hcz84_6 : w81.cell? ⟨b509, 6, none⟩ = some (.int .i32 a0_6) := (bC BK509.out 6).trans rfl
        have hcz84_7 : w81.cell? ⟨b509, 7, none⟩ = some (.int .i32 a0_7) := (bC BK509.out 7).trans rfl
        have hcz84_8 : w81.cell? ⟨b509, 8, none⟩ = some (.int .i32 a0_8) := (bC BK509.out 8).trans rfl
        have hcz84_9 : w81.cell? ⟨b509, 9, none⟩ = some (.int .i32 a0_9) := (bC BK509.out 9).trans rfl
        have hfz84_0 := bF BK509.out 0
        have hfz84_1 := bF BK509.out 1
        have hfz84_2 := bF BK509.out 2
        have hfz84_3 := bF BK509.out 3
        have hfz84_4 := bF BK509.out 4
        have hfz84_5 := bF BK509.out 5
        have hfz84_6 := bF BK509.out 6
        have hfz84_7 := bF BK509.out 7
        have hfz84_8 := bF BK509.out 8
        have hfz84_9 := bF BK509.out 9
        try go_wp2
        go_ret
        exact ⟨by first | rfl | (simp [errW_none, errW_some] <;> rfl) | (simp [*, errW_none, errW_some] <;> rfl), by repeat (first | (with_reducible first | exact HB.out | apply lA | apply lN | apply lD | refine lS ?_ GE509.out | refine lS ?_ GE510.out | refine lS ?_ GE511.out | refine lS ?_ GE522.out | refine lS ?_ GE529.out) | exact HB.out)⟩
       ·rw [if_neg c57] at H
        have c57b0 : (t518 == t525 && (t519 == t526)) = false := by simpa using c57
        (try (have c57b1 : decide (t518 = t525 && (t519 == t526)) = false := by simpa using c57))
        (try (have c57b2 : (t518 == t525 && (t519 == t526)) = false := by simpa using c57))
        (try (have c57b3 : ¬ (t518 = t525 && (t519 == t526)) := by simpa using c57))
        clear c57
        exact absurd ((Option.some.inj H).trans HR.out) (by decide)
      ·replace c56 := Bool.eq_false_iff.mpr c56
       subst c56
       have H1 : (some false) = some r := by rw [if_neg (show ¬ (false = true) by decide)] at H; exact H
       clear H
       have H := H1
       clear H1
       exact absurd ((Option.some.inj H).trans HR.out) (by decide)
     ·replace c55 := Bool.eq_false_iff.mpr c55
      subst c55
      have H1 : (some true) = some r := by rw [if_neg (show ¬ (false = true) by decide)] at H; exact H
      clear H
      have H := H1
      clear H1
      obtain rfl := Option.some.inj H
      have hnb85 := N0_.out
      have hnc85 := N1_.out
      have hnb86 := N2_.out
      have hnc86 := N3_.out
      have hcz87_0 : wc.cell? ⟨b509, 0, none⟩ = some (.int .u32 a0_0) := (bC BK509.out 0).trans rfl
      have hcz87_1 : wc.cell? ⟨b509, 1, none⟩ = some (.int .i32 a0_1) := (bC BK509.out 1).trans rfl
      have hcz87_2 : wc.cell? ⟨b509, 2, none⟩ = some (.int .i32 a0_2) := (bC BK509.out 2).trans rfl
      have hcz87_3 : wc.cell? ⟨b509, 3, none⟩ = some (.int .i32 a0_3) := (bC BK509.out 3).trans rfl
      have hcz87_4 : wc.cell? ⟨b509, 4, none⟩ = some (.int .i32 a0_4) := (bC BK509.out 4).trans rfl
      have hcz87_5 : wc.cell? ⟨b509, 5, none⟩ = some (.int .i32 a0_5) := (bC BK509.out 5).trans rfl
      have hcz87_6 : wc.cell? ⟨b509, 6, none⟩ = some (.int .i32 a0_6) := (bC BK509.out 6).trans rfl
      have hcz87_7 : wc.cell? ⟨b509, 7, none⟩ = some (.int .i32 a0_7) := (bC BK509.out 7).trans rfl
      have hcz87_8 : wc.cell? ⟨b509, 8, none⟩ = some (.int .i32 a0_8) := (bC BK509.out 8).trans rfl
      have hcz87_9 : wc.cell? ⟨b509, 9, none⟩ = some (.int .i32 a0_9) := (bC BK509.out 9).trans rfl
      have hfz87_0 := bF BK509.out 0
      have hfz87_1 := bF BK509.out 1
      have hfz87_2 := bF BK509.out 2
      have hfz87_3 := bF BK509.out 3
      have hfz87_4 := bF BK509.out 4
      have hfz87_5 := bF BK509.out 5
      have hfz87_6 := bF BK509.out 6
      have hfz87_7 := bF BK509.out 7
      have hfz87_8 := bF BK509.out 8
      have hfz87_9 := bF BK509.out 9
      have hnb88 := N4_.out
      have hnc88 := N5_.out
      have hcz89_0 : wc.cell? ⟨b510, 0, none⟩ = some (.int .u32 a1_0) := (bC BK510.out 0).trans rfl
      have hcz89_1 : wc.cell? ⟨b510, 1, none⟩ = some (.int .i32 a1_1) := (bC BK510.out 1).trans rfl
      have hcz89_2 : wc.cell? ⟨b510, 2, none⟩ = some (.int .i32 a1_2) := (bC BK510.out 2).trans rfl
      have hcz89_3 : wc.cell? ⟨b510, 3, none⟩ = some (.int .i32 a1_3) := (bC BK510.out 3).trans rfl
      have hcz89_4 : wc.cell? ⟨b510, 4, none⟩ = some (.int .i32 a1_4) := (bC BK510.out 4).trans rfl
      have hcz89_5 : wc.cell? ⟨b510, 5, none⟩ = some (.int .i32 a1_5) := (bC BK510.out 5).trans rfl
      have hcz89_6 : wc.cell? ⟨b510, 6, none⟩ = some (.int .i32 a1_6) := (bC BK510.out 6).trans rfl
      have hcz89_7 : wc.cell? ⟨b510, 7, none⟩ = some (.int .i32 a1_7) := (bC BK510.out 7).trans rfl
      have hcz89_8 : wc.cell? ⟨b510, 8, none⟩ = some (.int .i32 a1_8) := (bC BK510.out 8).trans rfl
      have hcz89_9 : wc.cell? ⟨b510, 9, none⟩ = some (.int .i32 a1_9) := (bC BK510.out 9).trans rfl
      have hfz89_0 := bF BK510.out 0
      have hfz89_1 := bF BK510.out 1
      have hfz89_2 := bF BK510.out 2
      have hfz89_3 := bF BK510.out 3
      have hfz89_4 := bF BK510.out 4
      have hfz89_5 := bF BK510.out 5
      have hfz89_6 := bF BK510.out 6
      have hfz89_7 := bF BK510.out 7
      have hfz89_8 := bF BK510.out 8
      have hfz89_9 := bF BK510.out 9
      try go_wp2_with (first | ((with_reducible refine gate_callee (f := 10) rfl ?_); refine goesL_ (some 39) rfl rfl Try.func10 (by kernel_rfl) rfl #[.agg #[.int .u32 a0_0, .int .i32 a0_1, .int .i32 a0_2, .int .i32 a0_3, .int .i32 a0_4, .int .i32 a0_5, .int .i32 a0_6, .int .i32 a0_7, .int .i32 a0_8, .int .i32 a0_9], .agg #[.int .u32 a1_0, .int .i32 a1_1, .int .i32 a1_2, .int .i32 a1_3, .int .i32 a1_4, .int .i32 a1_5, .int .i32 a1_6, .int .i32 a1_7, .int .i32 a1_8, .int .i32 a1_9]] rfl (by (try simp only [List.map_toArray, List.map_cons, List.map_nil]); first | done | rfl | (simp only [List.length_drop, List.length_take]; rfl)) ?_; (with_reducible refine (contact_Of.calls kj3 a0_0 a0_1 a0_2 a0_3 a0_4 a0_5 a0_6 a0_7 a0_8 a0_9 a1_0 a1_1 a1_2 a1_3 a1_4 a1_5 a1_6 a1_7 a1_8 a1_9 t516 t517 t518 t519 t520 false _ A50.out).mono ?_); rintro e w90 ⟨rfl, hb⟩; refine ⟨_, rfl, ?_⟩; have n0_ := aM (bB (by (with_reducible repeat first | apply bN | apply bD | apply bA); exact BK509.out) hb); have n1_ := aM (bB (by (with_reducible repeat first | apply bN | apply bD | apply bA); exact BK510.out) hb); have n2_ := aM (bB (by (with_reducible repeat first | apply bN | apply bD | apply bA); exact BK511.out) hb); have n3_ := aM (lT (by repeat (first | (with_reducible first | exact HB.out | apply lA | apply lN | apply lD | refine lS ?_ GE509.out | refine lS ?_ GE510.out | refine lS ?_ GE511.out) | exact HB.out)) hb); clear BK509; clear BK510; clear BK511; clear HB; have BK509 := n0_; have BK510 := n1_; have BK511 := n2_; have HB := n3_; clear n0_ n1_ n2_ n3_; (try clear hb); (try clear hb2); (try clear hk); (try clear hi)) | ((with_reducible refine gate_dst (N := 8) rfl ?_); refine box_event ?hg (N := 8) ?hd (cs := #[.int .u32 0, .int .u32 0, .int .i32 0, .int .i32 0, .int .i32 0]) (t := 32) ?hr ?_; (case hd => rfl); (case hg => rfl); (case hr => first | (go_simp; done) | (go_simp; rfl)); intro b522 hg w91 hbox hb; have n0_ := aM (bB (by (with_reducible repeat first | apply bN | apply bD | apply bA); exact BK509.out) hb); have n1_ := aM (bB (by (with_reducible repeat first | apply bN | apply bD | apply bA); exact BK510.out) hb); have n2_ := aM (bB (by (with_reducible repeat first | apply bN | apply bD | apply bA); exact BK511.out) hb); have n3_ := aM (lT (by repeat (first | (with_reducible first | exact HB.out | apply lA | apply lN | apply lD | refine lS ?_ GE509.out | refine lS ?_ GE510.out | refine lS ?_ GE511.out) | exact HB.out)) hb); have n4_ := aM (hbox); have n5_ := aM ((by rw [hg]; exact (lZ (by repeat (first | (with_reducible first | exact HB.out | apply lA | apply lN | apply lD | refine lS ?_ GE509.out | refine lS ?_ GE510.out | refine lS ?_ GE511.out) | exact HB.out))) : w.heap.size ≤ b522)); have n6_ := aM ((by rw [hg]; exact (lZ (by repeat (first | (with_reducible first | exact HB.out | apply lA | apply lN | apply lD | refine lS ?_ GE509.out | refine lS ?_ GE510.out | refine lS ?_ GE511.out) | exact HB.out))) : w.heap.size ≤ b522)); have n7_ := aM ((by rw [hg]; exact Nat.ne_of_lt (bL (g := b509) (by (with_reducible repeat first | apply bN | apply bD | apply bA); exact BK509.out)) : b509 ≠ b522)); have n8_ := aM ((by rw [hg]; exact Nat.ne_of_gt (bL (g := b509) (by (with_reducible repeat first | apply bN | apply bD | apply bA); exact BK509.out)) : b522 ≠ b509)); have n9_ := aM ((by rw [hg]; exact Nat.ne_of_lt (bL (g := b510) (by (with_reducible repeat first | apply bN | apply bD | apply bA); exact BK510.out)) : b510 ≠ b522)); have n10_ := aM ((by rw [hg]; exact Nat.ne_of_gt (bL (g := b510) (by (with_reducible repeat first | apply bN | apply bD | apply bA); exact BK510.out)) : b522 ≠ b510)); have n11_ := aM ((by rw [hg]; exact Nat.ne_of_lt (bL (g := b511) (by (with_reducible repeat first | apply bN | apply bD | apply bA); exact BK511.out)) : b511 ≠ b522)); have n12_ := aM ((by rw [hg]; exact Nat.ne_of_gt (bL (g := b511) (by (with_reducible repeat first | apply bN | apply bD | apply bA); exact BK511.out)) : b522 ≠ b511)); clear BK509; clear BK510; clear BK511; clear HB; have BK509 := n0_; have BK510 := n1_; have BK511 := n2_; have HB := n3_; have BK522 := n4_; have GW522 := n5_; have GE522 := n6_; have N6_ := n7_; have N7_ := n8_; have N8_ := n9_; have N9_ := n10_; have N10_ := n11_; have N11_ := n12_; clear n0_ n1_ n2_ n3_ n4_ n5_ n6_ n7_ n8_ n9_ n10_ n11_ n12_; clear hb hbox hg; have hnb92 := N7_.out; have hnc92 := N6_.out; have hnb93 := N9_.out; have hnc93 := N8_.out; have hnb94 := N11_.out; have hnc94 := N10_.out; have hcz95_0 : w91.cell? ⟨b522, 0, none⟩ = some (.int .u32 0) := (bC BK522.out 0).trans rfl; have hcz95_1 : w91.cell? ⟨b522, 1, none⟩ = some (.int .u32 0) := (bC BK522.out 1).trans rfl; have hcz95_2 : w91.cell? ⟨b522, 2, none⟩ = some (.int .i32 0) := (bC BK522.out 2).trans rfl; have hcz95_3 : w91.cell? ⟨b522, 3, none⟩ = some (.int .i32 0) := (bC BK522.out 3).trans rfl; have hcz95_4 : w91.cell? ⟨b522, 4, none⟩ = some (.int .i32 0) := (bC BK522.out 4).trans rfl; have hfz95_0 := bF BK522.out 0; have hfz95_1 := bF BK522.out 1; have hfz95_2 := bF BK522.out 2; have hfz95_3 := bF BK522.out 3; have hfz95_4 := bF BK522.out 4; have hcz96_0 : w91.cell? ⟨b511, 0, none⟩ = some (.int .u32 a0_0) := (bC BK511.out 0).trans rfl; have hcz96_1 : w91.cell? ⟨b511, 1, none⟩ = some (.int .i32 a2) := (bC BK511.out 1).trans rfl; have hcz96_2 : w91.cell? ⟨b511, 2, none⟩ = some (.int .i32 a0_2) := (bC BK511.out 2).trans rfl; have hcz96_3 : w91.cell? ⟨b511, 3, none⟩ = some (.int .i32 a0_3) := (bC BK511.out 3).trans rfl; have hcz96_4 : w91.cell? ⟨b511, 4, none⟩ = some (.int .i32 a0_4) := (bC BK511.out 4).trans rfl; have hcz96_5 : w91.cell? ⟨b511, 5, none⟩ = some (.int .i32 a0_5) := (bC BK511.out 5).trans rfl; have hcz96_6 : w91.cell? ⟨b511, 6, none⟩ = some (.int .i32 a0_6) := (bC BK511.out 6).trans rfl; have hcz96_7 : w91.cell? ⟨b511, 7, none⟩ = some (.int .i32 a0_7) := (bC BK511.out 7).trans rfl; have hcz96_8 : w91.cell? ⟨b511, 8, none⟩ = some (.int .i32 a0_8) := (bC BK511.out 8).trans rfl; have hcz96_9 : w91.cell? ⟨b511, 9, none⟩ = some (.int .i32 a0_9) := (bC BK511.out 9).trans rfl; have hfz96_0 := bF BK511.out 0; have hfz96_1 := bF BK511.out 1; have hfz96_2 := bF BK511.out 2; have hfz96_3 := bF BK511.out 3; have hfz96_4 := bF BK511.out 4; have hfz96_5 := bF BK511.out 5; have hfz96_6 := bF BK511.out 6; have hfz96_7 := bF BK511.out 7; have hfz96_8 := bF BK511.out 8; have hfz96_9 := bF BK511.out 9; have hcz97_0 : w91.cell? ⟨b510, 0, none⟩ = some (.int .u32 a1_0) := (bC BK510.out 0).trans rfl; have hcz97_1 : w91.cell? ⟨b510, 1, none⟩ = some (.int .i32 a1_1) := (bC BK510.out 1).trans rfl; have hcz97_2 : w91.cell? ⟨b510, 2, none⟩ = some (.int .i32 a1_2) := (bC BK510.out 2).trans rfl; have hcz97_3 : w91.cell? ⟨b510, 3, none⟩ = some (.int .i32 a1_3) := (bC BK510.out 3).trans rfl; have hcz97_4 : w91.cell? ⟨b510, 4, none⟩ = some (.int .i32 a1_4) := (bC BK510.out 4).trans rfl; have hcz97_5 : w91.cell? ⟨b510, 5, none⟩ = some (.int .i32 a1_5) := (bC BK510.out 5).trans rfl; have hcz97_6 : w91.cell? ⟨b510, 6, none⟩ = some (.int .i32 a1_6) := (bC BK510.out 6).trans rfl; have hcz97_7 : w91.cell? ⟨b510, 7, none⟩ = some (.int .i32 a1_7) := (bC BK510.out 7).trans rfl; have hcz97_8 : w91.cell? ⟨b510, 8, none⟩ = some (.int .i32 a1_8) := (bC BK510.out 8).trans rfl; have hcz97_9 : w91.cell? ⟨b510, 9, none⟩ = some (.int .i32 a1_9) := (bC BK510.out 9).trans rfl; have hfz97_0 := bF BK510.out 0; have hfz97_1 := bF BK510.out 1; have hfz97_2 := bF BK510.out 2; have hfz97_3 := bF BK510.out 3; have hfz97_4 := bF BK510.out 4; have hfz97_5 := bF BK510.out 5; have hfz97_6 := bF BK510.out 6; have hfz97_7 := bF BK510.out 7; have hfz97_8 := bF BK510.out 8; have hfz97_9 := bF BK510.out 9) | ((with_reducible refine gate_callee (f := 10) rfl ?_); refine goesL_ (some 45) rfl rfl Try.func10 (by kernel_rfl) rfl #[.agg #[.int .u32 a0_0, .int .i32 a2, .int .i32 a0_2, .int .i32 a0_3, .int .i32 a0_4, .int .i32 a0_5, .int .i32 a0_6, .int .i32 a0_7, .int .i32 a0_8, .int .i32 a0_9], .agg #[.int .u32 a1_0, .int .i32 a1_1, .int .i32 a1_2, .int .i32 a1_3, .int .i32 a1_4, .int .i32 a1_5, .int .i32 a1_6, .int .i32 a1_7, .int .i32 a1_8, .int .i32 a1_9]] rfl (by (try simp only [List.map_toArray, List.map_cons, List.map_nil]); first | done | rfl | (simp only [List.length_drop, List.length_take]; rfl)) ?_; (with_reducible refine (contact_Of.calls kj3 a0_0 a2 a0_2 a0_3 a0_4 a0_5 a0_6 a0_7 a0_8 a0_9 a1_0 a1_1 a1_2 a1_3 a1_4 a1_5 a1_6 a1_7 a1_8 a1_9 t523 t524 t525 t526 t527 t528 _ A51.out).mono ?_); rintro e w98 ⟨rfl, hb⟩; refine ⟨_, rfl, ?_⟩; have n0_ := aM (bB (g := b509) (o := .cells #[.int .u32 a0_0, .int .i32 a0_1, .int .i32 a0_2, .int .i32 a0_3, .int .i32 a0_4, .int .i32 a0_5, .int .i32 a0_6, .int .i32 a0_7, .int .i32 a0_8, .int .i32 a0_9] 26 (0, 0)) (by (with_reducible repeat first | apply bN | apply bD | apply bA); refine bR ?_ N6_.out _; (with_reducible repeat first | apply bN | apply bD | apply bA); refine bR ?_ N6_.out _; (with_reducible repeat first | apply bN | apply bD | apply bA); refine bR ?_ N6_.out _; (with_reducible repeat first | apply bN | apply bD | apply bA); refine bR ?_ N6_.out _; (with_reducible repeat first | apply bN | apply bD | apply bA); refine bR ?_ N6_.out _; (with_reducible repeat first | apply bN | apply bD | apply bA); exact BK509.out) hb); have n1_ := aM (bB (g := b510) (o := .cells #[.int .u32 a1_0, .int .i32 a1_1, .int .i32 a1_2, .int .i32 a1_3, .int .i32 a1_4, .int .i32 a1_5, .int .i32 a1_6, .int .i32 a1_7, .int .i32 a1_8, .int .i32 a1_9] 26 (0, 0)) (by (with_reducible repeat first | apply bN | apply bD | apply bA); refine bR ?_ N8_.out _; (with_reducible repeat first | apply bN | apply bD | apply bA); refine bR ?_ N8_.out _; (with_reducible repeat first | apply bN | apply bD | apply bA); refine bR ?_ N8_.out _; (with_reducible repeat first | apply bN | apply bD | apply bA); refine bR ?_ N8_.out _; (with_reducible repeat first | apply bN | apply bD | apply bA); refine bR ?_ N8_.out _; (with_reducible repeat first | apply bN | apply bD | apply bA); exact BK510.out) hb); have n2_ := aM (bB (g := b511) (o := .cells #[.int .u32 a0_0, .int .i32 a2, .int .i32 a0_2, .int .i32 a0_3, .int .i32 a0_4, .int .i32 a0_5, .int .i32 a0_6, .int .i32 a0_7, .int .i32 a0_8, .int .i32 a0_9] 26 (0, 0)) (by (with_reducible repeat first | apply bN | apply bD | apply bA); refine bR ?_ N10_.out _; (with_reducible repeat first | apply bN | apply bD | apply bA); refine bR ?_ N10_.out _; (with_reducible repeat first | apply bN | apply bD | apply bA); refine bR ?_ N10_.out _; (with_reducible repeat first | apply bN | apply bD | apply bA); refine bR ?_ N10_.out _; (with_reducible repeat first | apply bN | apply bD | apply bA); refine bR ?_ N10_.out _; (with_reducible repeat first | apply bN | apply bD | apply bA); exact BK511.out) hb); have n3_ := aM (bB (g := b522) (o := .cells #[.int .u32 t516, .int .u32 t517, .int .i32 t518, .int .i32 t519, .int .i32 t520] 32 (0, 0)) (by (with_reducible repeat first | apply bN | apply bD | apply bA); refine bP (cs := #[.int .u32 t516, .int .u32 t517, .int .i32 t518, .int .i32 t519, .int .i32 0]) ?_ 4 _ rfl; (with_reducible repeat first | apply bN | apply bD | apply bA); refine bP (cs := #[.int .u32 t516, .int .u32 t517, .int .i32 t518, .int .i32 0, .int .i32 0]) ?_ 3 _ rfl; (with_reducible repeat first | apply bN | apply bD | apply bA); refine bP (cs := #[.int .u32 t516, .int .u32 t517, .int .i32 0, .int .i32 0, .int .i32 0]) ?_ 2 _ rfl; (with_reducible repeat first | apply bN | apply bD | apply bA); refine bP (cs := #[.int .u32 t516, .int .u32 0, .int .i32 0, .int .i32 0, .int .i32 0]) ?_ 1 _ rfl; (with_reducible repeat first | apply bN | apply bD | apply bA); refine bP (cs := #[.int .u32 0, .int .u32 0, .int .i32 0, .int .i32 0, .int .i32 0]) ?_ 0 _ rfl; (with_reducible repeat first | apply bN | apply bD | apply bA); exact BK522.out) hb); have n4_ := aM (lT (by repeat (first | (with_reducible first | exact HB.out | apply lA | apply lN | apply lD | refine lS ?_ GE509.out | refine lS ?_ GE510.out | refine lS ?_ GE511.out | refine lS ?_ GE522.out) | exact HB.out)) hb); clear BK509; clear BK510; clear BK511; clear BK522; clear HB; have BK509 := n0_; have BK510 := n1_; have BK511 := n2_; have BK522 := n3_; have HB := n4_; clear n0_ n1_ n2_ n3_ n4_; (try clear hb); (try clear hb2); (try clear hk); (try clear hi)) | ((with_reducible refine gate_dst (N := 10) rfl ?_); refine box_event ?hg (N := 10) ?hd (cs := #[.int .u32 0, .int .u32 0, .int .i32 0, .int .i32 0, .int .i32 0]) (t := 32) ?hr ?_; (case hd => rfl); (case hg => rfl); (case hr => first | (go_simp; done) | (go_simp; rfl)); intro b529 hg w99 hbox hb; have n0_ := aM (bB (by (with_reducible repeat first | apply bN | apply bD | apply bA); exact BK509.out) hb); have n1_ := aM (bB (by (with_reducible repeat first | apply bN | apply bD | apply bA); exact BK510.out) hb); have n2_ := aM (bB (by (with_reducible repeat first | apply bN | apply bD | apply bA); exact BK511.out) hb); have n3_ := aM (bB (by (with_reducible repeat first | apply bN | apply bD | apply bA); exact BK522.out) hb); have n4_ := aM (lT (by repeat (first | (with_reducible first | exact HB.out | apply lA | apply lN | apply lD | refine lS ?_ GE509.out | refine lS ?_ GE510.out | refine lS ?_ GE511.out | refine lS ?_ GE522.out) | exact HB.out)) hb); have n5_ := aM (hbox); have n6_ := aM ((by rw [hg]; exact (lZ (by repeat (first | (with_reducible first | exact HB.out | apply lA | apply lN | apply lD | refine lS ?_ GE509.out | refine lS ?_ GE510.out | refine lS ?_ GE511.out | refine lS ?_ GE522.out) | exact HB.out))) : w.heap.size ≤ b529)); have n7_ := aM ((by rw [hg]; exact (lZ (by repeat (first | (with_reducible first | exact HB.out | apply lA | apply lN | apply lD | refine lS ?_ GE509.out | refine lS ?_ GE510.out | refine lS ?_ GE511.out | refine lS ?_ GE522.out) | exact HB.out))) : w.heap.size ≤ b529)); have n8_ := aM ((by rw [hg]; exact Nat.ne_of_lt (bL (g := b509) (by (with_reducible repeat first | apply bN | apply bD | apply bA); exact BK509.out)) : b509 ≠ b529)); have n9_ := aM ((by rw [hg]; exact Nat.ne_of_gt (bL (g := b509) (by (with_reducible repeat first | apply bN | apply bD | apply bA); exact BK509.out)) : b529 ≠ b509)); have n10_ := aM ((by rw [hg]; exact Nat.ne_of_lt (bL (g := b510) (by (with_reducible repeat first | apply bN | apply bD | apply bA); exact BK510.out)) : b510 ≠ b529)); have n11_ := aM ((by rw [hg]; exact Nat.ne_of_gt (bL (g := b510) (by (with_reducible repeat first | apply bN | apply bD | apply bA); exact BK510.out)) : b529 ≠ b510)); have n12_ := aM ((by rw [hg]; exact Nat.ne_of_lt (bL (g := b511) (by (with_reducible repeat first | apply bN | apply bD | apply bA); exact BK511.out)) : b511 ≠ b529)); have n13_ := aM ((by rw [hg]; exact Nat.ne_of_gt (bL (g := b511) (by (with_reducible repeat first | apply bN | apply bD | apply bA); exact BK511.out)) : b529 ≠ b511)); have n14_ := aM ((by rw [hg]; exact Nat.ne_of_lt (bL (g := b522) (by (with_reducible repeat first | apply bN | apply bD | apply bA); exact BK522.out)) : b522 ≠ b529)); have n15_ := aM ((by rw [hg]; exact Nat.ne_of_gt (bL (g := b522) (by (with_reducible repeat first | apply bN | apply bD | apply bA); exact BK522.out)) : b529 ≠ b522)); clear BK509; clear BK510; clear BK511; clear BK522; clear HB; have BK509 := n0_; have BK510 := n1_; have BK511 := n2_; have BK522 := n3_; have HB := n4_; have BK529 := n5_; have GW529 := n6_; have GE529 := n7_; have N12_ := n8_; have N13_ := n9_; have N14_ := n10_; have N15_ := n11_; have N16_ := n12_; have N17_ := n13_; have N18_ := n14_; have N19_ := n15_; clear n0_ n1_ n2_ n3_ n4_ n5_ n6_ n7_ n8_ n9_ n10_ n11_ n12_ n13_ n14_ n15_; clear hb hbox hg; have hnb100 := N13_.out; have hnc100 := N12_.out; have hnb101 := N15_.out; have hnc101 := N14_.out; have hnb102 := N17_.out; have hnc102 := N16_.out; have hnb103 := N19_.out; have hnc103 := N18_.out; have hcz104_0 : w99.cell? ⟨b529, 0, none⟩ = some (.int .u32 0) := (bC BK529.out 0).trans rfl; have hcz104_1 : w99.cell? ⟨b529, 1, none⟩ = some (.int .u32 0) := (bC BK529.out 1).trans rfl; have hcz104_2 : w99.cell? ⟨b529, 2, none⟩ = some (.int .i32 0) := (bC BK529.out 2).trans rfl; have hcz104_3 : w99.cell? ⟨b529, 3, none⟩ = some (.int .i32 0) := (bC BK529.out 3).trans rfl; have hcz104_4 : w99.cell? ⟨b529, 4, none⟩ = some (.int .i32 0) := (bC BK529.out 4).trans rfl; have hfz104_0 := bF BK529.out 0; have hfz104_1 := bF BK529.out 1; have hfz104_2 := bF BK529.out 2; have hfz104_3 := bF BK529.out 3; have hfz104_4 := bF BK529.out 4))
      have n0_ : Aside0 ((((((w99.setCell ⟨b529, 0, none⟩ (.int .u32 t523)).setCell ⟨b529, 1, none⟩ (.int .u32 t524)).setCell ⟨b529, 2, none⟩ (.int .i32 t525)).setCell ⟨b529, 3, none⟩ (.int .i32 t526)).setCell ⟨b529, 4, none⟩ (.int .i32 t527)).heap[b509]? = some (.cells #[.int .u32 a0_0, .int .i32 a0_1, .int .i32 a0_2, .int .i32 a0_3, .int .i32 a0_4, .int .i32 a0_5, .int .i32 a0_6, .int .i32 a0_7, .int .i32 a0_8, .int .i32 a0_9] 26 (0, 0))) := ⟨by (with_reducible repeat first | apply bN | apply bD | apply bA); refine bR ?_ N12_.out _; (with_reducible repeat first | apply bN | apply bD | apply bA); refine bR ?_ N12_.out _; (with_reducible repeat first | apply bN | apply bD | apply bA); refine bR ?_ N12_.out _; (with_reducible repeat first | apply bN | apply bD | apply bA); refine bR ?_ N12_.out _; (with_reducible repeat first | apply bN | apply bD | apply bA); refine bR ?_ N12_.out _; (with_reducible repeat first | apply bN | apply bD | apply bA); exact BK509.out⟩
      have n1_ : Aside0 ((((((w99.setCell ⟨b529, 0, none⟩ (.int .u32 t523)).setCell ⟨b529, 1, none⟩ (.int .u32 t524)).setCell ⟨b529, 2, none⟩ (.int .i32 t525)).setCell ⟨b529, 3, none⟩ (.int .i32 t526)).setCell ⟨b529, 4, none⟩ (.int .i32 t527)).heap[b510]? = some (.cells #[.int .u32 a1_0, .int .i32 a1_1, .int .i32 a1_2, .int .i32 a1_3, .int .i32 a1_4, .int .i32 a1_5, .int .i32 a1_6, .int .i32 a1_7, .int .i32 a1_8, .int .i32 a1_9] 26 (0, 0))) := ⟨by (with_reducible repeat first | apply bN | apply bD | apply bA); refine bR ?_ N14_.out _; (with_reducible repeat first | apply bN | apply bD | apply bA); refine bR ?_ N14_.out _; (with_reducible repeat first | apply bN | apply bD | apply bA); refine bR ?_ N14_.out _; (with_reducible repeat first | apply bN | apply bD | apply bA); refine bR ?_ N14_.out _; (with_reducible repeat first | apply bN | apply bD | apply bA); refine bR ?_ N14_.out _; (with_reducible repeat first | apply bN | apply bD | apply bA); exact BK510.out⟩
      have n2_ : Aside0 ((((((w99.setCell ⟨b529, 0, none⟩ (.int .u32 t523)).setCell ⟨b529, 1, none⟩ (.int .u32 t524)).setCell ⟨b529, 2, none⟩ (.int .i32 t525)).setCell ⟨b529, 3, none⟩ (.int .i32 t526)).setCell ⟨b529, 4, none⟩ (.int .i32 t527)).heap[b511]? = some (.cells #[.int .u32 a0_0, .int .i32 a2, .int .i32 a0_2, .int .i32 a0_3, .int .i32 a0_4, .int .i32 a0_5, .int .i32 a0_6, .int .i32 a0_7, .int .i32 a0_8, .int .i32 a0_9] 26 (0, 0))) := ⟨by (with_reducible repeat first | apply bN | apply bD | apply bA); refine bR ?_ N16_.out _; (with_reducible repeat first | apply bN | apply bD | apply bA); refine bR ?_ N16_.out _; (with_reducible repeat first | apply bN | apply bD | apply bA); refine bR ?_ N16_.out _; (with_reducible repeat first | apply bN | apply bD | apply bA); refine bR ?_ N16_.out _; (with_reducible repeat first | apply bN | apply bD | apply bA); refine bR ?_ N16_.out _; (with_reducible repeat first | apply bN | apply bD | apply bA); exact BK511.out⟩
      have n3_ : Aside0 ((((((w99.setCell ⟨b529, 0, none⟩ (.int .u32 t523)).setCell ⟨b529, 1, none⟩ (.int .u32 t524)).setCell ⟨b529, 2, none⟩ (.int .i32 t525)).setCell ⟨b529, 3, none⟩ (.int .i32 t526)).setCell ⟨b529, 4, none⟩ (.int .i32 t527)).heap[b522]? = some (.cells #[.int .u32 t516, .int .u32 t517, .int .i32 t518, .int .i32 t519, .int .i32 t520] 32 (0, 0))) := ⟨by (with_reducible repeat first | apply bN | apply bD | apply bA); refine bR ?_ N18_.out _; (with_reducible repeat first | apply bN | apply bD | apply bA); refine bR ?_ N18_.out _; (with_reducible repeat first | apply bN | apply bD | apply bA); refine bR ?_ N18_.out _; (with_reducible repeat first | apply bN | apply bD | apply bA); refine bR ?_ N18_.out _; (with_reducible repeat first | apply bN | apply bD | apply bA); refine bR ?_ N18_.out _; (with_reducible repeat first | apply bN | apply bD | apply bA); exact BK522.out⟩
      have n4_ : Aside0 ((((((w99.setCell ⟨b529, 0, none⟩ (.int .u32 t523)).setCell ⟨b529, 1, none⟩ (.int .u32 t524)).setCell ⟨b529, 2, none⟩ (.int .i32 t525)).setCell ⟨b529, 3, none⟩ (.int .i32 t526)).setCell ⟨b529, 4, none⟩ (.int .i32 t527)).heap[b529]? = some (.cells #[.int .u32 t523, .int .u32 t524, .int .i32 t525, .int .i32 t526, .int .i32 t527] 32 (0, 0))) := ⟨by (with_reducible repeat first | apply bN | apply bD | apply bA); refine bP (cs := #[.int .u32 t523, .int .u32 t524, .int .i32 t525, .int .i32 t526, .int .i32 0]) ?_ 4 _ rfl; (with_reducible repeat first | apply bN | apply bD | apply bA); refine bP (cs := #[.int .u32 t523, .int .u32 t524, .int .i32 t525, .int .i32 0, .int .i32 0]) ?_ 3 _ rfl; (with_reducible repeat first | apply bN | apply bD | apply bA); refine bP (cs := #[.int .u32 t523, .int .u32 t524, .int .i32 0, .int .i32 0, .int .i32 0]) ?_ 2 _ rfl; (with_reducible repeat first | apply bN | apply bD | apply bA); refine bP (cs := #[.int .u32 t523, .int .u32 0, .int .i32 0, .int .i32 0, .int .i32 0]) ?_ 1 _ rfl; (with_reducible repeat first | apply bN | apply bD | apply bA); refine bP (cs := #[.int .u32 0, .int .u32 0, .int .i32 0, .int .i32 0, .int .i32 0]) ?_ 0 _ rfl; (with_reducible repeat first | apply bN | apply bD | apply bA); exact BK529.out⟩
      have n5_ : Aside0 (Below w.heap.size w (((((w99.setCell ⟨b529, 0, none⟩ (.int .u32 t523)).setCell ⟨b529, 1, none⟩ (.int .u32 t524)).setCell ⟨b529, 2, none⟩ (.int .i32 t525)).setCell ⟨b529, 3, none⟩ (.int .i32 t526)).setCell ⟨b529, 4, none⟩ (.int .i32 t527))) := ⟨by repeat (first | (with_reducible first | exact HB.out | apply lA | apply lN | apply lD | refine lS ?_ GE509.out | refine lS ?_ GE510.out | refine lS ?_ GE511.out | refine lS ?_ GE522.out | refine lS ?_ GE529.out) | exact HB.out)⟩
      (try clear BK509)
      (try clear BK510)
      (try clear BK511)
      (try clear BK522)
      (try clear BK529)
      (try clear HB)
      generalize (((((w99.setCell ⟨b529, 0, none⟩ (.int .u32 t523)).setCell ⟨b529, 1, none⟩ (.int .u32 t524)).setCell ⟨b529, 2, none⟩ (.int .i32 t525)).setCell ⟨b529, 3, none⟩ (.int .i32 t526)).setCell ⟨b529, 4, none⟩ (.int .i32 t527)) = w105 at n0_ n1_ n2_ n3_ n4_ n5_ ⊢
      have BK509 := n0_
      have BK510 := n1_
      have BK511 := n2_
      have BK522 := n3_
      have BK529 := n4_
      have HB := n5_
      clear n0_ n1_ n2_ n3_ n4_ n5_
      have n0_ := aM (bD BK509.out)
      have n1_ := aM (bD BK510.out)
      have n2_ := aM (bD BK511.out)
      have n3_ := aM (bD BK522.out)
      have n4_ := aM (bD BK529.out)
      have n5_ := aM (lD HB.out)
      clear BK509
      clear BK510
      clear BK511
      clear BK522
      clear BK529
      clear HB
      have BK509 := n0_
      have BK510 := n1_
      have BK511 := n2_
      have BK522 := n3_
      have BK529 := n4_
      have HB := n5_
      clear n0_ n1_ n2_ n3_ n4_ n5_
      refine start_ (n := 20) (S := fun w' => w'.cell? ⟨b511, 0, none⟩ = some (.int .u32 a0_0) ∧ w'.cell? ⟨b511, 1, none⟩ = some (.int .i32 a2) ∧ w'.cell? ⟨b511, 2, none⟩ = some (.int .i32 a0_2) ∧ w'.cell? ⟨b511, 3, none⟩ = some (.int .i32 a0_3) ∧ w'.cell? ⟨b511, 4, none⟩ = some (.int .i32 a0_4) ∧ w'.cell? ⟨b511, 5, none⟩ = some (.int .i32 a0_5) ∧ w'.cell? ⟨b511, 6, none⟩ = some (.int .i32 a0_6) ∧ w'.cell? ⟨b511, 7, none⟩ = some (.int .i32 a0_7) ∧ w'.cell? ⟨b511, 8, none⟩ = some (.int .i32 a0_8) ∧ w'.cell? ⟨b511, 9, none⟩ = some (.int .i32 a0_9) ∧ w'.cell? ⟨b510, 0, none⟩ = some (.int .u32 a1_0) ∧ w'.cell? ⟨b510, 1, none⟩ = some (.int .i32 a1_1) ∧ w'.cell? ⟨b510, 2, none⟩ = some (.int .i32 a1_2) ∧ w'.cell? ⟨b510, 3, none⟩ = some (.int .i32 a1_3) ∧ w'.cell? ⟨b510, 4, none⟩ = some (.int .i32 a1_4) ∧ w'.cell? ⟨b510, 5, none⟩ = some (.int .i32 a1_5) ∧ w'.cell? ⟨b510, 6, none⟩ = some (.int .i32 a1_6) ∧ w'.cell? ⟨b510, 7, none⟩ = some (.int .i32 a1_7) ∧ w'.cell? ⟨b510, 8, none⟩ = some (.int .i32 a1_8) ∧ w'.cell? ⟨b510, 9, none⟩ = some (.int .i32 a1_9) ∧ w'.cell? ⟨b509, 0, none⟩ = some (.int .u32 a0_0) ∧ w'.cell? ⟨b509, 1, none⟩ = some (.int .i32 a0_1) ∧ w'.cell? ⟨b509, 2, none⟩ = some (.int .i32 a0_2) ∧ w'.cell? ⟨b509, 3, none⟩ = some (.int .i32 a0_3) ∧ w'.cell? ⟨b509, 4, none⟩ = some (.int .i32 a0_4) ∧ w'.cell? ⟨b509, 5, none⟩ = some (.int .i32 a0_5) ∧ w'.cell? ⟨b509, 6, none⟩ = some (.int .i32 a0_6) ∧ w'.cell? ⟨b509, 7, none⟩ = some (.int .i32 a0_7) ∧ w'.cell? ⟨b509, 8, none⟩ = some (.int .i32 a0_8) ∧ w'.cell? ⟨b509, 9, none⟩ = some (.int .i32 a0_9)) (ds := []) #[F,F,F,F,F,F,F,F,F,F,F,F,F,F,F,F,F,F,F,F] (by kernel_rfl) rfl rfl ⟨(bC BK511.out 0).trans rfl, (bC BK511.out 1).trans rfl, (bC BK511.out 2).trans rfl, (bC BK511.out 3).trans rfl, (bC BK511.out 4).trans rfl, (bC BK511.out 5).trans rfl, (bC BK511.out 6).trans rfl, (bC BK511.out 7).trans rfl, (bC BK511.out 8).trans rfl, (bC BK511.out 9).trans rfl, (bC BK510.out 0).trans rfl, (bC BK510.out 1).trans rfl, (bC BK510.out 2).trans rfl, (bC BK510.out 3).trans rfl, (bC BK510.out 4).trans rfl, (bC BK510.out 5).trans rfl, (bC BK510.out 6).trans rfl, (bC BK510.out 7).trans rfl, (bC BK510.out 8).trans rfl, (bC BK510.out 9).trans rfl, (bC BK509.out 0).trans rfl, (bC BK509.out 1).trans rfl, (bC BK509.out 2).trans rfl, (bC BK509.out 3).trans rfl, (bC BK509.out 4).trans rfl, (bC BK509.out 5).trans rfl, (bC BK509.out 6).trans rfl, (bC BK509.out 7).trans rfl, (bC BK509.out 8).trans rfl, (bC BK509.out 9).trans rfl⟩ (fun hHeld => ?_); refine with_tabW billiardlaw14_ContactGrows.tab7 billiardlaw14_ContactGrows.bits7 (fun HT_ HW_ => ?_)
      generalize w105.drew = w106 at BK509 BK510 BK511 BK522 BK529 HB hHeld ⊢
      refine pure_ (i := 6) (N := some 54) (v := ?_) (a' := ?_) #[F,F,F,F,F,F,T,F,F,F,F,F,F,F,F,F,F,F,F,F] rfl rfl (any_of HT_.out (by kernel_rfl)) (fun _ _ _ h => h) (Or.inl ⟨by rfl, ?_⟩) ?_ ?_
      rotate_left
      ·intro w'
       go_simp
       with_reducible rfl
      rotate_left
      ·simp only [Act.put, sA, sB, sC, i64_w, i32_w]
       rfl
      refine pure_ (i := 7) (N := some 55) (v := ?_) (a' := ?_) #[F,F,F,F,F,F,T,T,F,F,F,F,F,F,F,F,F,F,F,F] rfl rfl (any_of HT_.out (by kernel_rfl)) (fun _ _ _ h => h) (Or.inl ⟨by rfl, ?_⟩) ?_ ?_
      rotate_left
      ·intro w'
       go_simp
       with_reducible rfl
      rotate_left
      ·simp only [Act.put, sA, sB, sC, i64_w, i32_w]
       rfl
      refine take_ (i := 0) (N := some 48) (v := ?_) (a' := ?_) #[T,F,F,F,F,F,T,T,F,F,F,F,F,F,F,F,F,F,F,F] rfl rfl (take_ofW HT_.out HW_.out (by kernel_rfl)) (fun _ _ _ h => h) (Or.inl ⟨by rfl, ?_⟩) hHeld ?_ ?_
      rotate_left
      ·rintro w' ⟨s0, s1, s2, s3, s4, s5, s6, s7, s8, s9, s10, s11, s12, s13, s14, s15, s16, s17, s18, s19, s20, s21, s22, s23, s24, s25, s26, s27, s28, s29⟩
       go_simp
       with_reducible rfl
      rotate_left
      ·simp only [Act.put, sA, sB, sC, i64_w, i32_w]
       rfl
      refine take_ (i := 1) (N := some 49) (v := ?_) (a' := ?_) #[T,T,F,F,F,F,T,T,F,F,F,F,F,F,F,F,F,F,F,F] rfl rfl (take_ofW HT_.out HW_.out (by kernel_rfl)) (fun _ _ _ h => h) (Or.inl ⟨by rfl, ?_⟩) hHeld ?_ ?_
      rotate_left
      ·rintro w' ⟨s0, s1, s2, s3, s4, s5, s6, s7, s8, s9, s10, s11, s12, s13, s14, s15, s16, s17, s18, s19, s20, s21, s22, s23, s24, s25, s26, s27, s28, s29⟩
       go_simp
       with_reducible rfl
      rotate_left
      ·simp only [Act.put, sA, sB, sC, i64_w, i32_w]
       rfl
      refine take_ (i := 3) (N := some 51) (v := ?_) (a' := ?_) #[T,T,F,T,F,F,T,T,F,F,F,F,F,F,F,F,F,F,F,F] rfl rfl (take_ofW HT_.out HW_.out (by kernel_rfl)) (fun _ _ _ h => h) (Or.inl ⟨by rfl, ?_⟩) hHeld ?_ ?_
      rotate_left
      ·rintro w' ⟨s0, s1, s2, s3, s4, s5, s6, s7, s8, s9, s10, s11, s12, s13, s14, s15, s16, s17, s18, s19, s20, s21, s22, s23, s24, s25, s26, s27, s28, s29⟩
       go_simp
       with_reducible rfl
      rotate_left
      ·simp only [Act.put, sA, sB, sC, i64_w, i32_w]
       rfl
      refine take_ (i := 4) (N := some 52) (v := ?_) (a' := ?_) #[T,T,F,T,T,F,T,T,F,F,F,F,F,F,F,F,F,F,F,F] rfl rfl (take_ofW HT_.out HW_.out (by kernel_rfl)) (fun _ _ _ h => h) (Or.inl ⟨by rfl, ?_⟩) hHeld ?_ ?_
      rotate_left
      ·rintro w' ⟨s0, s1, s2, s3, s4, s5, s6, s7, s8, s9, s10, s11, s12, s13, s14, s15, s16, s17, s18, s19, s20, s21, s22, s23, s24, s25, s26, s27, s28, s29⟩
       go_simp
       with_reducible rfl
      rotate_left
      ·simp only [Act.put, sA, sB, sC, i64_w, i32_w]
       rfl
      refine take_ (i := 8) (N := some 56) (v := ?_) (a' := ?_) #[T,T,F,T,T,F,T,T,T,F,F,F,F,F,F,F,F,F,F,F] rfl rfl (take_ofW HT_.out HW_.out (by kernel_rfl)) (fun _ _ _ h => h) (Or.inl ⟨by rfl, ?_⟩) hHeld ?_ ?_
      rotate_left
      ·rintro w' ⟨s0, s1, s2, s3, s4, s5, s6, s7, s8, s9, s10, s11, s12, s13, s14, s15, s16, s17, s18, s19, s20, s21, s22, s23, s24, s25, s26, s27, s28, s29⟩
       go_simp
       with_reducible rfl
      rotate_left
      ·simp only [Act.put, sA, sB, sC, i64_w, i32_w]
       rfl
      refine pure_ (i := 9) (N := some 57) (v := ?_) (a' := ?_) #[T,T,F,T,T,F,T,T,T,T,F,F,F,F,F,F,F,F,F,F] rfl rfl (any_of HT_.out (by kernel_rfl)) (fun _ _ _ h => h) (Or.inl ⟨by rfl, ?_⟩) ?_ ?_
      rotate_left
      ·intro w'
       go_simp
       with_reducible rfl
      rotate_left
      ·simp only [Act.put, sA, sB, sC, i64_w, i32_w]
       rfl
      refine pure_ (i := 10) (N := some 58) (v := ?_) (a' := ?_) #[T,T,F,T,T,F,T,T,T,T,T,F,F,F,F,F,F,F,F,F] rfl rfl (any_of HT_.out (by kernel_rfl)) (fun _ _ _ h => h) (Or.inl ⟨by rfl, ?_⟩) ?_ ?_
      rotate_left
      ·intro w'
       go_simp
       with_reducible rfl
      rotate_left
      ·simp only [Act.put, sA, sB, sC, i64_w, i32_w]
       rfl
      refine one_ (i := 2) (N := some 50) #[T,T,T,T,T,F,T,T,T,T,T,F,F,F,F,F,F,F,F,F] rfl rfl (one_of HT_.out (by kernel_rfl)) (by decide) (fun K hK => ?_)
      refine goes_ Try.func13 (by kernel_rfl) rfl #[.agg #[.int .u32 a0_0, .int .i32 a2, .int .i32 a0_2, .int .i32 a0_3, .int .i32 a0_4, .int .i32 a0_5, .int .i32 a0_6, .int .i32 a0_7, .int .i32 a0_8, .int .i32 a0_9], .agg #[.int .u32 a1_0, .int .i32 a1_1, .int .i32 a1_2, .int .i32 a1_3, .int .i32 a1_4, .int .i32 a1_5, .int .i32 a1_6, .int .i32 a1_7, .int .i32 a1_8, .int .i32 a1_9]] (by rfl) rfl rfl (by (try simp only [List.map_toArray, List.map_cons, List.map_nil]); first | done | rfl | (simp only [List.length_drop, List.length_take]; rfl)) ?_
      with_reducible refine (contact_Gap.calls kj3 a0_0 a2 a0_2 a0_3 a0_4 a0_5 a0_6 a0_7 a0_8 a0_9 a1_0 a1_1 a1_2 a1_3 a1_4 a1_5 a1_6 a1_7 a1_8 a1_9 t530 _ A52.out).mono ?_
      rintro e w107 ⟨rfl, hb⟩
      refine ⟨_, rfl, ?_⟩
      have n0_ := aM (bB (by (with_reducible repeat first | apply bN | apply bD | apply bA); exact BK509.out) hb)
      have n1_ := aM (bB (by (with_reducible repeat first | apply bN | apply bD | apply bA); exact BK510.out) hb)
      have n2_ := aM (bB (by (with_reducible repeat first | apply bN | apply bD | apply bA); exact BK511.out) hb)
      have n3_ := aM (bB (by (with_reducible repeat first | apply bN | apply bD | apply bA); exact BK522.out) hb)
      have n4_ := aM (bB (by (with_reducible repeat first | apply bN | apply bD | apply bA); exact BK529.out) hb)
      have n5_ := aM (lT (by repeat (first | (with_reducible first | exact HB.out | apply lA | apply lN | apply lD | refine lS ?_ GE509.out | refine lS ?_ GE510.out | refine lS ?_ GE511.out | refine lS ?_ GE522.out | refine lS ?_ GE529.out) | exact HB.out)) hb)
      clear BK509
      clear BK510
      clear BK511
      clear BK522
      clear BK529
      clear HB
      have BK509 := n0_
      have BK510 := n1_
      have BK511 := n2_
      have BK522 := n3_
      have BK529 := n4_
      have HB := n5_
      clear n0_ n1_ n2_ n3_ n4_ n5_
      (try clear hb)
      (try clear hb2)
      (try clear hk)
      (try clear hi)
      refine hK.out _ _ ⟨(bC BK511.out 0).trans rfl, (bC BK511.out 1).trans rfl, (bC BK511.out 2).trans rfl, (bC BK511.out 3).trans rfl, (bC BK511.out 4).trans rfl, (bC BK511.out 5).trans rfl, (bC BK511.out 6).trans rfl, (bC BK511.out 7).trans rfl, (bC BK511.out 8).trans rfl, (bC BK511.out 9).trans rfl, (bC BK510.out 0).trans rfl, (bC BK510.out 1).trans rfl, (bC BK510.out 2).trans rfl, (bC BK510.out 3).trans rfl, (bC BK510.out 4).trans rfl, (bC BK510.out 5).trans rfl, (bC BK510.out 6).trans rfl, (bC BK510.out 7).trans rfl, (bC BK510.out 8).trans rfl, (bC BK510.out 9).trans rfl, (bC BK509.out 0).trans rfl, (bC BK509.out 1).trans rfl, (bC BK509.out 2).trans rfl, (bC BK509.out 3).trans rfl, (bC BK509.out 4).trans rfl, (bC BK509.out 5).trans rfl, (bC BK509.out 6).trans rfl, (bC BK509.out 7).trans rfl, (bC BK509.out 8).trans rfl, (bC BK509.out 9).trans rfl⟩ (fun hHeld => ?_)
      clear hK K
      refine norm_ (a' := ?_) ?_ ?_
      rotate_left
      ·show Act.put _ (some 50) _ = _
       simp only [Act.put, sA, sB, sC, i64_w, i32_w]
       rfl
      refine one_ (i := 5) (N := some 53) #[T,T,T,T,T,T,T,T,T,T,T,F,F,F,F,F,F,F,F,F] rfl rfl (one_of HT_.out (by kernel_rfl)) (by decide) (fun K hK => ?_)
      refine goes_ Try.func13 (by kernel_rfl) rfl #[.agg #[.int .u32 a0_0, .int .i32 a0_1, .int .i32 a0_2, .int .i32 a0_3, .int .i32 a0_4, .int .i32 a0_5, .int .i32 a0_6, .int .i32 a0_7, .int .i32 a0_8, .int .i32 a0_9], .agg #[.int .u32 a1_0, .int .i32 a1_1, .int .i32 a1_2, .int .i32 a1_3, .int .i32 a1_4, .int .i32 a1_5, .int .i32 a1_6, .int .i32 a1_7, .int .i32 a1_8, .int .i32 a1_9]] (by rfl) rfl rfl (by (try simp only [List.map_toArray, List.map_cons, List.map_nil]); first | done | rfl | (simp only [List.length_drop, List.length_take]; rfl)) ?_
      with_reducible refine (contact_Gap.calls kj3 a0_0 a0_1 a0_2 a0_3 a0_4 a0_5 a0_6 a0_7 a0_8 a0_9 a1_0 a1_1 a1_2 a1_3 a1_4 a1_5 a1_6 a1_7 a1_8 a1_9 t531 _ A53.out).mono ?_
      rintro e w108 ⟨rfl, hb⟩
      refine ⟨_, rfl, ?_⟩
      have n0_ := aM (bB (by (with_reducible repeat first | apply bN | apply bD | apply bA); exact BK509.out) hb)
      have n1_ := aM (bB (by (with_reducible repeat first | apply bN | apply bD | apply bA); exact BK510.out) hb)
      have n2_ := aM (bB (by (with_reducible repeat first | apply bN | apply bD | apply bA); exact BK511.out) hb)
      have n3_ := aM (bB (by (with_reducible repeat first | apply bN | apply bD | apply bA); exact BK522.out) hb)
      have n4_ := aM (bB (by (with_reducible repeat first | apply bN | apply bD | apply bA); exact BK529.out) hb)
      have n5_ := aM (lT (by repeat (first | (with_reducible first | exact HB.out | apply lA | apply lN | apply lD | refine lS ?_ GE509.out | refine lS ?_ GE510.out | refine lS ?_ GE511.out | refine lS ?_ GE522.out | refine lS ?_ GE529.out) | exact HB.out)) hb)
      clear BK509
      clear BK510
      clear BK511
      clear BK522
      clear BK529
      clear HB
      have BK509 := n0_
      have BK510 := n1_
      have BK511 := n2_
      have BK522 := n3_
      have BK529 := n4_
      have HB := n5_
      clear n0_ n1_ n2_ n3_ n4_ n5_
      (try clear hb)
      (try clear hb2)
      (try clear hk)
      (try clear hi)
      refine hK.out _ _ ⟨(bC BK511.out 0).trans rfl, (bC BK511.out 1).trans rfl, (bC BK511.out 2).trans rfl, (bC BK511.out 3).trans rfl, (bC BK511.out 4).trans rfl, (bC BK511.out 5).trans rfl, (bC BK511.out 6).trans rfl, (bC BK511.out 7).trans rfl, (bC BK511.out 8).trans rfl, (bC BK511.out 9).trans rfl, (bC BK510.out 0).trans rfl, (bC BK510.out 1).trans rfl, (bC BK510.out 2).trans rfl, (bC BK510.out 3).trans rfl, (bC BK510.out 4).trans rfl, (bC BK510.out 5).trans rfl, (bC BK510.out 6).trans rfl, (bC BK510.out 7).trans rfl, (bC BK510.out 8).trans rfl, (bC BK510.out 9).trans rfl, (bC BK509.out 0).trans rfl, (bC BK509.out 1).trans rfl, (bC BK509.out 2).trans rfl, (bC BK509.out 3).trans rfl, (bC BK509.out 4).trans rfl, (bC BK509.out 5).trans rfl, (bC BK509.out 6).trans rfl, (bC BK509.out 7).trans rfl, (bC BK509.out 8).trans rfl, (bC BK509.out 9).trans rfl⟩ (fun hHeld => ?_)
      clear hK K
      refine norm_ (a' := ?_) ?_ ?_
      rotate_left
      ·show Act.put _ (some 53) _ = _
       simp only [Act.put, sA, sB, sC, i64_w, i32_w]
       rfl
      refine pure_ (i := 11) (N := some 59) (v := ?_) (a' := ?_) #[T,T,T,T,T,T,T,T,T,T,T,T,F,F,F,F,F,F,F,F] rfl rfl (any_of HT_.out (by kernel_rfl)) (fun _ _ _ h => h) (Or.inl ⟨by rfl, ?_⟩) ?_ ?_
      rotate_left
      ·intro w'
       go_simp
       with_reducible rfl
      rotate_left
      ·simp only [Act.put, sA, sB, sC, i64_w, i32_w]
       rfl
      refine pure_ (i := 12) (N := some 60) (v := ?_) (a' := ?_) #[T,T,T,T,T,T,T,T,T,T,T,T,T,F,F,F,F,F,F,F] rfl rfl (any_of HT_.out (by kernel_rfl)) (fun _ _ _ h => h) (Or.inl ⟨by rfl, ?_⟩) ?_ ?_
      rotate_left
      ·intro w'
       go_simp
       with_reducible rfl
      rotate_left
      ·simp only [Act.put, sA, sB, sC, i64_w, i32_w]
       rfl
      refine pure_ (i := 13) (N := some 61) (v := ?_) (a' := ?_) #[T,T,T,T,T,T,T,T,T,T,T,T,T,T,F,F,F,F,F,F] rfl rfl (any_of HT_.out (by kernel_rfl)) (fun _ _ _ h => h) (Or.inl ⟨by rfl, ?_⟩) ?_ ?_
      rotate_left
      ·intro w'
       go_simp
       with_reducible rfl
      rotate_left
      ·simp only [Act.put, sA, sB, sC, i64_w, i32_w]
       rfl
      refine pure_ (i := 14) (N := some 62) (v := ?_) (a' := ?_) #[T,T,T,T,T,T,T,T,T,T,T,T,T,T,T,F,F,F,F,F] rfl rfl (any_of HT_.out (by kernel_rfl)) (fun _ _ _ h => h) (Or.inl ⟨by rfl, ?_⟩) ?_ ?_
      rotate_left
      ·intro w'
       go_simp
       with_reducible rfl
      rotate_left
      ·simp only [Act.put, sA, sB, sC, i64_w, i32_w]
       rfl
      refine pure_ (i := 15) (N := some 63) (v := ?_) (a' := ?_) #[T,T,T,T,T,T,T,T,T,T,T,T,T,T,T,T,F,F,F,F] rfl rfl (any_of HT_.out (by kernel_rfl)) (fun _ _ _ h => h) (Or.inl ⟨by rfl, ?_⟩) ?_ ?_
      rotate_left
      ·intro w'
       go_simp
       with_reducible rfl
      rotate_left
      ·simp only [Act.put, sA, sB, sC, i64_w, i32_w]
       rfl
      refine pure_ (i := 16) (N := some 64) (v := undef) (a' := ?_) #[T,T,T,T,T,T,T,T,T,T,T,T,T,T,T,T,T,F,F,F] rfl rfl (any_of HT_.out (by kernel_rfl)) (fun _ _ _ h => h) (Or.inr ⟨by rfl, rfl⟩) ?_ ?_
      rotate_left
      ·simp only [Act.put, sA, sB, sC, i64_w, i32_w]
       rfl
      refine pure_ (i := 17) (N := some 65) (v := undef) (a' := ?_) #[T,T,T,T,T,T,T,T,T,T,T,T,T,T,T,T,T,T,F,F] rfl rfl (any_of HT_.out (by kernel_rfl)) (fun _ _ _ h => h) (Or.inr ⟨by rfl, rfl⟩) ?_ ?_
      rotate_left
      ·simp only [Act.put, sA, sB, sC, i64_w, i32_w]
       rfl
      refine pure_ (i := 18) (N := some 66) (v := ?_) (a' := ?_) #[T,T,T,T,T,T,T,T,T,T,T,T,T,T,T,T,T,T,T,F] rfl rfl (any_of HT_.out (by kernel_rfl)) (fun _ _ _ h => h) (Or.inl ⟨by rfl, ?_⟩) ?_ ?_
      rotate_left
      ·intro w'
       go_simp
       with_reducible rfl
      rotate_left
      ·simp only [Act.put, sA, sB, sC, i64_w, i32_w]
       rfl
      refine pure_ (i := 19) (N := some 67) (v := ?_) (a' := ?_) #[T,T,T,T,T,T,T,T,T,T,T,T,T,T,T,T,T,T,T,T] rfl rfl (any_of HT_.out (by kernel_rfl)) (fun _ _ _ h => h) (Or.inl ⟨by rfl, ?_⟩) ?_ ?_
      rotate_left
      ·intro w'
       go_simp
       with_reducible rfl
      rotate_left
      ·simp only [Act.put, sA, sB, sC, i64_w, i32_w]
       rfl
      refine done_ (done_of HT_.out (by kernel_rfl)) ?_
      try go_wp2
      go_ret
      exact ⟨by first | rfl | (simp [errW_none, errW_some] <;> rfl) | (simp [*, errW_none, errW_some] <;> rfl), by repeat (first | (with_reducible first | exact HB.out | apply lA | apply lN | apply lD | refine lS ?_ GE509.out | refine lS ?_ GE510.out | refine lS ?_ GE511.out | refine lS ?_ GE522.out | refine lS ?_ GE529.out) | exact HB.out)⟩
    ·rw [if_neg c54] at H
     have c54b0 : (t530 == (wrap64 (t531 - (wrap64 (wrap32 (a2 - a0_1)))))) = false := beq_eq_false_iff_ne.mpr c54
     have c54b1 : (t530 != (wrap64 (t531 - (wrap64 (wrap32 (a2 - a0_1)))))) = true := bne_iff_ne.mpr c54
     exact absurd ((Option.some.inj H).trans HR.out) (by decide)

/-- THE ONE PURE STATEMENT of billiardlaw14_ContactGrows: yours. -/
def billiardlaw14_ContactGrows.Pure : Prop := ∀ (a0_0 : Int) (a0_1 : Int) (a0_2 : Int) (a0_3 : Int) (a0_4 : Int) (a0_5 : Int) (a0_6 : Int) (a0_7 : Int) (a0_8 : Int) (a0_9 : Int) (a1_0 : Int) (a1_1 : Int) (a1_2 : Int) (a1_3 : Int) (a1_4 : Int) (a1_5 : Int) (a1_6 : Int) (a1_7 : Int) (a1_8 : Int) (a1_9 : Int) (a2 : Int), (Lit.int .u32 a0_0).wf = true → (Lit.int .i32 a0_1).wf = true → (Lit.int .i32 a0_2).wf = true → (Lit.int .i32 a0_3).wf = true → (Lit.int .i32 a0_4).wf = true → (Lit.int .i32 a0_5).wf = true → (Lit.int .i32 a0_6).wf = true → (Lit.int .i32 a0_7).wf = true → (Lit.int .i32 a0_8).wf = true → (Lit.int .i32 a0_9).wf = true → (Lit.int .u32 a1_0).wf = true → (Lit.int .i32 a1_1).wf = true → (Lit.int .i32 a1_2).wf = true → (Lit.int .i32 a1_3).wf = true → (Lit.int .i32 a1_4).wf = true → (Lit.int .i32 a1_5).wf = true → (Lit.int .i32 a1_6).wf = true → (Lit.int .i32 a1_7).wf = true → (Lit.int .i32 a1_8).wf = true → (Lit.int .i32 a1_9).wf = true → (Lit.int .i32 a2).wf = true → ∃ k, billiardlaw14_ContactGrows.f k a0_0 a0_1 a0_2 a0_3 a0_4 a0_5 a0_6 a0_7 a0_8 a0_9 a1_0 a1_1 a1_2 a1_3 a1_4 a1_5 a1_6 a1_7 a1_8 a1_9 a2 = some true
theorem billiardlaw14_ContactGrows.walk (P : billiardlaw14_ContactGrows.Pure) (a0_0 : Int) (a0_1 : Int) (a0_2 : Int) (a0_3 : Int) (a0_4 : Int) (a0_5 : Int) (a0_6 : Int) (a0_7 : Int) (a0_8 : Int) (a0_9 : Int) (a1_0 : Int) (a1_1 : Int) (a1_2 : Int) (a1_3 : Int) (a1_4 : Int) (a1_5 : Int) (a1_6 : Int) (a1_7 : Int) (a1_8 : Int) (a1_9 : Int) (a2 : Int) (w : World) (w0_0 : (Lit.int .u32 a0_0).wf = true) (w0_1 : (Lit.int .i32 a0_1).wf = true) (w0_2 : (Lit.int .i32 a0_2).wf = true) (w0_3 : (Lit.int .i32 a0_3).wf = true) (w0_4 : (Lit.int .i32 a0_4).wf = true) (w0_5 : (Lit.int .i32 a0_5).wf = true) (w0_6 : (Lit.int .i32 a0_6).wf = true) (w0_7 : (Lit.int .i32 a0_7).wf = true) (w0_8 : (Lit.int .i32 a0_8).wf = true) (w0_9 : (Lit.int .i32 a0_9).wf = true) (w1_0 : (Lit.int .u32 a1_0).wf = true) (w1_1 : (Lit.int .i32 a1_1).wf = true) (w1_2 : (Lit.int .i32 a1_2).wf = true) (w1_3 : (Lit.int .i32 a1_3).wf = true) (w1_4 : (Lit.int .i32 a1_4).wf = true) (w1_5 : (Lit.int .i32 a1_5).wf = true) (w1_6 : (Lit.int .i32 a1_6).wf = true) (w1_7 : (Lit.int .i32 a1_7).wf = true) (w1_8 : (Lit.int .i32 a1_8).wf = true) (w1_9 : (Lit.int .i32 a1_9).wf = true) (w2 : (Lit.int .i32 a2).wf = true) :
  Calls Try.prog 7 #[.agg #[.int .u32 a0_0, .int .i32 a0_1, .int .i32 a0_2, .int .i32 a0_3, .int .i32 a0_4, .int .i32 a0_5, .int .i32 a0_6, .int .i32 a0_7, .int .i32 a0_8, .int .i32 a0_9], .agg #[.int .u32 a1_0, .int .i32 a1_1, .int .i32 a1_2, .int .i32 a1_3, .int .i32 a1_4, .int .i32 a1_5, .int .i32 a1_6, .int .i32 a1_7, .int .i32 a1_8, .int .i32 a1_9], .int .i32 a2] w fun e w' => e = .returned (.bool true) ∧ Below w.heap.size w w' := by
 obtain ⟨k, h⟩ := P a0_0 a0_1 a0_2 a0_3 a0_4 a0_5 a0_6 a0_7 a0_8 a0_9 a1_0 a1_1 a1_2 a1_3 a1_4 a1_5 a1_6 a1_7 a1_8 a1_9 a2 w0_0 w0_1 w0_2 w0_3 w0_4 w0_5 w0_6 w0_7 w0_8 w0_9 w1_0 w1_1 w1_2 w1_3 w1_4 w1_5 w1_6 w1_7 w1_8 w1_9 w2
 refine (billiardlaw14_ContactGrows.calls k a0_0 a0_1 a0_2 a0_3 a0_4 a0_5 a0_6 a0_7 a0_8 a0_9 a1_0 a1_1 a1_2 a1_3 a1_4 a1_5 a1_6 a1_7 a1_8 a1_9 a2 true w h rfl).mono ?_
 rintro e w' ⟨rfl, hd⟩
 exact ⟨rfl, hd⟩

end Go.Proofs.Ytahbfafnodeimaa.Q
