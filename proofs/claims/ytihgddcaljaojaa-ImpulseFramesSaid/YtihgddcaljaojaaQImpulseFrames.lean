-- PRINTED by print.py (a twelfth state) out of the translation. Not trusted: Lean checks it.
import Derived.Test.YtihgddcaljaojaaQ0
import Derived.Test.YtihgddcaljaojaaQbilliardlaw16
import Derived.Test.YtihgddcaljaojaaQbilliardref05
import Derived.Test.YtihgddcaljaojaaQbilliardref16
import Derived.Test.YtihgddcaljaojaaQimpulse
import Derived.Test.YtihgddcaljaojaaMstore
namespace Go.Proofs.Ytihgddcaljaojaa.Q
open Go.RowKit Go.Proofs.YtihgddcaljaojaaW.PrintWords Go.Proofs.YtihgddcaljaojaaW.PrintLast Go.Proofs.YtihgddcaljaojaaW.PrintMore
open Go.Proofs.YtihgddcaljaojaaW.PrintWords renaming blk_drewN → bN, blk_drew → bD, blk_alloc → bA, blk_below → bB, blk_cell → bC, blk_frozen → bF, blk_far → bR, blk_lt → bL, blk_put → bP, below_alloc → lA, pw_below_drewN → lN, below_drew1 → lD, below_set → lS, below_step → lT, below_size → lZ, Aside0.mk → aM
open List renaming setIfInBounds_toArray → sA, set_cons_zero → sB, set_cons_succ → sC
open Bool renaming true → T, false → F
attribute [local go_sem] max2_int min2_int max_two min_two max_three min_three max_four min_four   -- for this text's walks alone
set_option linter.unusedVariables false
set_option linter.unusedSimpArgs false

/-! ### billiardlaw16_ImpulseFrames: function 6 -/
-- IMPORT Derived.Test.YtihgddcaljaojaaMstore
def billiardlaw16_ImpulseFrames.j0 : Nat → Bool → Int → Int → Int → Int → Int → Int → Int → Int → Int → Int → Int → Int → Int → Int → Int → Int → Int → Int → Int → Int → Int → Int → Int → Int → Int → Int → Int → Option (Bool)
 | 0, _, _, _, _, _, _, _, _, _, _, _, _, _, _, _, _, _, _, _, _, _, _, _, _, _, _, _, _ => none
 | k + 1, x31, x199000, x199001, x199002, x199003, x199004, x200000, x200001, x200002, x200003, x200004, x200005, x200006, x200007, x200008, x200009, x201000, x201001, x201002, x201003, x201004, x201005, x201006, x201007, x201008, x201009, x202000, x202001 => if x31 = true then ((billiardlaw16_awake.f k).bind fun t206 => (some t206)) else ((billiardref16_Right.f k x199000 x199001 x199002 x199003 x199004 x200000 x200001 x200002 x200003 x200004 x200005 x200006 x200007 (wrap32 (x200008 + x202000)) (wrap32 (x200009 + x202001)) x201000 x201001 x201002 x201003 x201004 x201005 x201006 x201007 (wrap32 (x201008 + x202000)) (wrap32 (x201009 + x202001))).bind fun t209 => (if t209 = true then ((impulse_Approach.f x199000 x199001 x199002 x199003 x199004 x200000 x200001 x200002 x200003 x200004 x200005 x200006 x200007 (wrap32 (x200008 + x202000)) (wrap32 (x200009 + x202001)) x201000 x201001 x201002 x201003 x201004 x201005 x201006 x201007 (wrap32 (x201008 + x202000)) (wrap32 (x201009 + x202001))).bind fun t210 => ((impulse_Approach.f x199000 x199001 x199002 x199003 x199004 x200000 x200001 x200002 x200003 x200004 x200005 x200006 x200007 x200008 x200009 x201000 x201001 x201002 x201003 x201004 x201005 x201006 x201007 x201008 x201009).bind fun t211 => (if t210 = t211 then ((impulse_Strength.f k x199000 x199001 x199002 x199003 x199004 x200000 x200001 x200002 x200003 x200004 x200005 x200006 x200007 (wrap32 (x200008 + x202000)) (wrap32 (x200009 + x202001)) x201000 x201001 x201002 x201003 x201004 x201005 x201006 x201007 (wrap32 (x201008 + x202000)) (wrap32 (x201009 + x202001))).bind fun t212 => ((impulse_Strength.f k x199000 x199001 x199002 x199003 x199004 x200000 x200001 x200002 x200003 x200004 x200005 x200006 x200007 x200008 x200009 x201000 x201001 x201002 x201003 x201004 x201005 x201006 x201007 x201008 x201009).bind fun t213 => (some (t212 == t213)))) else (some false)))) else (some true)))
def billiardlaw16_ImpulseFrames.f (k : Nat) (a0_0 : Int) (a0_1 : Int) (a0_2 : Int) (a0_3 : Int) (a0_4 : Int) (a1_0 : Int) (a1_1 : Int) (a1_2 : Int) (a1_3 : Int) (a1_4 : Int) (a1_5 : Int) (a1_6 : Int) (a1_7 : Int) (a1_8 : Int) (a1_9 : Int) (a2_0 : Int) (a2_1 : Int) (a2_2 : Int) (a2_3 : Int) (a2_4 : Int) (a2_5 : Int) (a2_6 : Int) (a2_7 : Int) (a2_8 : Int) (a2_9 : Int) (a3_0 : Int) (a3_1 : Int) : Option (Bool) := (billiardlaw16_awake.f k).bind fun t202 => (if t202 = true then ((billiardref16_Right.f k a0_0 a0_1 a0_2 a0_3 a0_4 a1_0 a1_1 a1_2 a1_3 a1_4 a1_5 a1_6 a1_7 a1_8 a1_9 a2_0 a2_1 a2_2 a2_3 a2_4 a2_5 a2_6 a2_7 a2_8 a2_9).bind fun t203 => (if t203 = true then ((billiardref05_In.f a3_0 16777216).bind fun t204 => (if t204 = true then ((billiardref05_In.f a3_1 16777216).bind fun t205 => (billiardlaw16_ImpulseFrames.j0 k (!t205) a0_0 a0_1 a0_2 a0_3 a0_4 a1_0 a1_1 a1_2 a1_3 a1_4 a1_5 a1_6 a1_7 a1_8 a1_9 a2_0 a2_1 a2_2 a2_3 a2_4 a2_5 a2_6 a2_7 a2_8 a2_9 a3_0 a3_1)) else (billiardlaw16_ImpulseFrames.j0 k true a0_0 a0_1 a0_2 a0_3 a0_4 a1_0 a1_1 a1_2 a1_3 a1_4 a1_5 a1_6 a1_7 a1_8 a1_9 a2_0 a2_1 a2_2 a2_3 a2_4 a2_5 a2_6 a2_7 a2_8 a2_9 a3_0 a3_1))) else (billiardlaw16_ImpulseFrames.j0 k true a0_0 a0_1 a0_2 a0_3 a0_4 a1_0 a1_1 a1_2 a1_3 a1_4 a1_5 a1_6 a1_7 a1_8 a1_9 a2_0 a2_1 a2_2 a2_3 a2_4 a2_5 a2_6 a2_7 a2_8 a2_9 a3_0 a3_1))) else (billiardlaw16_ImpulseFrames.j0 k true a0_0 a0_1 a0_2 a0_3 a0_4 a1_0 a1_1 a1_2 a1_3 a1_4 a1_5 a1_6 a1_7 a1_8 a1_9 a2_0 a2_1 a2_2 a2_3 a2_4 a2_5 a2_6 a2_7 a2_8 a2_9 a3_0 a3_1))
theorem billiardlaw16_ImpulseFrames.mono_l : ∀ k, (∀ y0 y1 y2 y3 y4 y5 y6 y7 y8 y9 y10 y11 y12 y13 y14 y15 y16 y17 y18 y19 y20 y21 y22 y23 y24 y25 y26 y27, LeO (billiardlaw16_ImpulseFrames.j0 k y0 y1 y2 y3 y4 y5 y6 y7 y8 y9 y10 y11 y12 y13 y14 y15 y16 y17 y18 y19 y20 y21 y22 y23 y24 y25 y26 y27) (billiardlaw16_ImpulseFrames.j0 (k + 1) y0 y1 y2 y3 y4 y5 y6 y7 y8 y9 y10 y11 y12 y13 y14 y15 y16 y17 y18 y19 y20 y21 y22 y23 y24 y25 y26 y27))
 | 0 => fun _ _ _ _ _ _ _ _ _ _ _ _ _ _ _ _ _ _ _ _ _ _ _ _ _ _ _ _ r h => by simp [billiardlaw16_ImpulseFrames.j0] at h
 | k + 1 => by
  have ih0 := billiardlaw16_ImpulseFrames.mono_l k
  ·intro y0 y1 y2 y3 y4 y5 y6 y7 y8 y9 y10 y11 y12 y13 y14 y15 y16 y17 y18 y19 y20 y21 y22 y23 y24 y25 y26 y27
   unfold billiardlaw16_ImpulseFrames.j0
   repeat' first
   | (with_reducible exact ih0 _ _ _ _ _ _ _ _ _ _ _ _ _ _ _ _ _ _ _ _ _ _ _ _ _ _ _ _)
   | (with_reducible exact billiardlaw16_awake.mono _)
   | (with_reducible exact billiardref16_Right.mono _ _ _ _ _ _ _ _ _ _ _ _ _ _ _ _ _ _ _ _ _ _ _ _ _ _)
   | (with_reducible exact impulse_Strength.mono _ _ _ _ _ _ _ _ _ _ _ _ _ _ _ _ _ _ _ _ _ _ _ _ _ _)
   | (with_reducible exact LeO.refl _)
   | (with_reducible exact LeO.none _)
   | (with_reducible refine LeO.ite ?_ ?_)
   | (with_reducible refine LeO.bind ?_ (fun _ => ?_))
   | exact ih0 _ _ _ _ _ _ _ _ _ _ _ _ _ _ _ _ _ _ _ _ _ _ _ _ _ _ _ _
   | exact billiardlaw16_awake.mono _
   | exact billiardref16_Right.mono _ _ _ _ _ _ _ _ _ _ _ _ _ _ _ _ _ _ _ _ _ _ _ _ _ _
   | exact impulse_Strength.mono _ _ _ _ _ _ _ _ _ _ _ _ _ _ _ _ _ _ _ _ _ _ _ _ _ _
   | exact LeO.none _
   | refine LeO.ite ?_ ?_
   | refine LeO.bind ?_ (fun _ => ?_)
theorem billiardlaw16_ImpulseFrames.mono : ∀ a0 a1 a2 a3 a4 a5 a6 a7 a8 a9 a10 a11 a12 a13 a14 a15 a16 a17 a18 a19 a20 a21 a22 a23 a24 a25 a26 k, LeO (billiardlaw16_ImpulseFrames.f k a0 a1 a2 a3 a4 a5 a6 a7 a8 a9 a10 a11 a12 a13 a14 a15 a16 a17 a18 a19 a20 a21 a22 a23 a24 a25 a26) (billiardlaw16_ImpulseFrames.f (k + 1) a0 a1 a2 a3 a4 a5 a6 a7 a8 a9 a10 a11 a12 a13 a14 a15 a16 a17 a18 a19 a20 a21 a22 a23 a24 a25 a26) := by
 intro a0 a1 a2 a3 a4 a5 a6 a7 a8 a9 a10 a11 a12 a13 a14 a15 a16 a17 a18 a19 a20 a21 a22 a23 a24 a25 a26 k
 have ih0 := billiardlaw16_ImpulseFrames.mono_l k
 unfold billiardlaw16_ImpulseFrames.f
 repeat' first
   | (with_reducible exact ih0 _ _ _ _ _ _ _ _ _ _ _ _ _ _ _ _ _ _ _ _ _ _ _ _ _ _ _ _)
   | (with_reducible exact billiardlaw16_awake.mono _)
   | (with_reducible exact billiardref16_Right.mono _ _ _ _ _ _ _ _ _ _ _ _ _ _ _ _ _ _ _ _ _ _ _ _ _ _)
   | (with_reducible exact impulse_Strength.mono _ _ _ _ _ _ _ _ _ _ _ _ _ _ _ _ _ _ _ _ _ _ _ _ _ _)
   | (with_reducible exact LeO.refl _)
   | (with_reducible exact LeO.none _)
   | (with_reducible refine LeO.ite ?_ ?_)
   | (with_reducible refine LeO.bind ?_ (fun _ => ?_))
   | exact ih0 _ _ _ _ _ _ _ _ _ _ _ _ _ _ _ _ _ _ _ _ _ _ _ _ _ _ _ _
   | exact billiardlaw16_awake.mono _
   | exact billiardref16_Right.mono _ _ _ _ _ _ _ _ _ _ _ _ _ _ _ _ _ _ _ _ _ _ _ _ _ _
   | exact impulse_Strength.mono _ _ _ _ _ _ _ _ _ _ _ _ _ _ _ _ _ _ _ _ _ _ _ _ _ _
   | exact LeO.none _
   | refine LeO.ite ?_ ?_
   | refine LeO.bind ?_ (fun _ => ?_)
def billiardlaw16_ImpulseFrames.T8 : Bool × List (List Nat × List Nat) := (true, [([], []), ([], []), ([], []), ([0, 1, 2], [0, 1, 2]), ([], []), ([], []), ([], []), ([4, 5, 6, 3], [4, 5, 6]), ([3, 7], [3, 7]), ([8, 7], [8]), ([9], [9]), ([9], [9]), ([9], [9]), ([10, 11, 12, 9, 9], [9, 10, 11, 12]), ([9], [9]), ([9], [9]), ([9], [9]), ([14, 15, 16, 13, 9], [9, 14, 15, 16]), ([13, 17, 9], [9, 13, 17]), ([9, 18], [9, 18]), ([19, 17, 0, 1, 2, 3, 4, 5, 6, 7, 8, 9, 10, 11, 12, 13, 14, 15, 16, 17, 18, 19], [19])])
def billiardlaw16_ImpulseFrames.B8 : List Nat := [0, 0, 0, 7, 0, 0, 0, 127, 255, 511, 1023, 1023, 1023, 8191, 1023, 1023, 1023, 131071, 262143, 524287, 1048575]
theorem billiardlaw16_ImpulseFrames.tab8 : rtab .any (opsOf Try.f6 8) = billiardlaw16_ImpulseFrames.T8 := by kernel_rfl
theorem billiardlaw16_ImpulseFrames.bits8 : waitsOk billiardlaw16_ImpulseFrames.T8.2 billiardlaw16_ImpulseFrames.B8 = true := by kernel_rfl
theorem own10 {W : World} {g t : Nat} {c0 c1 c2 c3 c4 c5 c6 c7 c8 c9 v0 v1 v2 v3 v4 v5 v6 v7 v8 v9 : Value} (h : W.heap[g]? = some (.cells #[c0, c1, c2, c3, c4, c5, c6, c7, c8, c9] t (0, 0))) : ((((((((((W.setCell ⟨g, 0, none⟩ v0).setCell ⟨g, 1, none⟩ v1).setCell ⟨g, 2, none⟩ v2).setCell ⟨g, 3, none⟩ v3).setCell ⟨g, 4, none⟩ v4).setCell ⟨g, 5, none⟩ v5).setCell ⟨g, 6, none⟩ v6).setCell ⟨g, 7, none⟩ v7).setCell ⟨g, 8, none⟩ v8).setCell ⟨g, 9, none⟩ v9).heap[g]? = some (.cells #[v0, v1, v2, v3, v4, v5, v6, v7, v8, v9] t (0, 0)) := by
  refine blk_put (cs := #[v0, v1, v2, v3, v4, v5, v6, v7, v8, c9]) ?_ 9 _ rfl
  refine blk_put (cs := #[v0, v1, v2, v3, v4, v5, v6, v7, c8, c9]) ?_ 8 _ rfl
  refine blk_put (cs := #[v0, v1, v2, v3, v4, v5, v6, c7, c8, c9]) ?_ 7 _ rfl
  refine blk_put (cs := #[v0, v1, v2, v3, v4, v5, c6, c7, c8, c9]) ?_ 6 _ rfl
  refine blk_put (cs := #[v0, v1, v2, v3, v4, c5, c6, c7, c8, c9]) ?_ 5 _ rfl
  refine blk_put (cs := #[v0, v1, v2, v3, c4, c5, c6, c7, c8, c9]) ?_ 4 _ rfl
  refine blk_put (cs := #[v0, v1, v2, c3, c4, c5, c6, c7, c8, c9]) ?_ 3 _ rfl
  refine blk_put (cs := #[v0, v1, c2, c3, c4, c5, c6, c7, c8, c9]) ?_ 2 _ rfl
  refine blk_put (cs := #[v0, c1, c2, c3, c4, c5, c6, c7, c8, c9]) ?_ 1 _ rfl
  refine blk_put (cs := #[c0, c1, c2, c3, c4, c5, c6, c7, c8, c9]) ?_ 0 _ rfl
  exact h
set_option maxHeartbeats 60000000 in
set_option maxRecDepth 100000 in
theorem billiardlaw16_ImpulseFrames.calls (k : Nat) (a0_0 : Int) (a0_1 : Int) (a0_2 : Int) (a0_3 : Int) (a0_4 : Int) (a1_0 : Int) (a1_1 : Int) (a1_2 : Int) (a1_3 : Int) (a1_4 : Int) (a1_5 : Int) (a1_6 : Int) (a1_7 : Int) (a1_8 : Int) (a1_9 : Int) (a2_0 : Int) (a2_1 : Int) (a2_2 : Int) (a2_3 : Int) (a2_4 : Int) (a2_5 : Int) (a2_6 : Int) (a2_7 : Int) (a2_8 : Int) (a2_9 : Int) (a3_0 : Int) (a3_1 : Int) (r : Bool) (w : World) (h : billiardlaw16_ImpulseFrames.f k a0_0 a0_1 a0_2 a0_3 a0_4 a1_0 a1_1 a1_2 a1_3 a1_4 a1_5 a1_6 a1_7 a1_8 a1_9 a2_0 a2_1 a2_2 a2_3 a2_4 a2_5 a2_6 a2_7 a2_8 a2_9 a3_0 a3_1 = some r) (hr : r = true) :
  Calls Try.prog 6 #[.agg #[.int .u32 a0_0, .int .u32 a0_1, .int .i32 a0_2, .int .i32 a0_3, .int .i32 a0_4], .agg #[.int .u32 a1_0, .int .i32 a1_1, .int .i32 a1_2, .int .i32 a1_3, .int .i32 a1_4, .int .i32 a1_5, .int .i32 a1_6, .int .i32 a1_7, .int .i32 a1_8, .int .i32 a1_9], .agg #[.int .u32 a2_0, .int .i32 a2_1, .int .i32 a2_2, .int .i32 a2_3, .int .i32 a2_4, .int .i32 a2_5, .int .i32 a2_6, .int .i32 a2_7, .int .i32 a2_8, .int .i32 a2_9], .agg #[.int .i32 a3_0, .int .i32 a3_1]] w fun e w' => e = .returned (.bool r) ∧ Below w.heap.size w w' := by
 have HR := aM hr
 clear hr
 have hu28 := Try.underlying28
 have hu30 := Try.underlying30
 have hu26 := Try.underlying26
 have HB := aM (Below.refl w.heap.size w)
 have H : ((billiardlaw16_awake.f k).bind fun t202 => (if t202 = true then ((billiardref16_Right.f k a0_0 a0_1 a0_2 a0_3 a0_4 a1_0 a1_1 a1_2 a1_3 a1_4 a1_5 a1_6 a1_7 a1_8 a1_9 a2_0 a2_1 a2_2 a2_3 a2_4 a2_5 a2_6 a2_7 a2_8 a2_9).bind fun t203 => (if t203 = true then ((billiardref05_In.f a3_0 16777216).bind fun t204 => (if t204 = true then ((billiardref05_In.f a3_1 16777216).bind fun t205 => (billiardlaw16_ImpulseFrames.j0 k (!t205) a0_0 a0_1 a0_2 a0_3 a0_4 a1_0 a1_1 a1_2 a1_3 a1_4 a1_5 a1_6 a1_7 a1_8 a1_9 a2_0 a2_1 a2_2 a2_3 a2_4 a2_5 a2_6 a2_7 a2_8 a2_9 a3_0 a3_1)) else (billiardlaw16_ImpulseFrames.j0 k true a0_0 a0_1 a0_2 a0_3 a0_4 a1_0 a1_1 a1_2 a1_3 a1_4 a1_5 a1_6 a1_7 a1_8 a1_9 a2_0 a2_1 a2_2 a2_3 a2_4 a2_5 a2_6 a2_7 a2_8 a2_9 a3_0 a3_1))) else (billiardlaw16_ImpulseFrames.j0 k true a0_0 a0_1 a0_2 a0_3 a0_4 a1_0 a1_1 a1_2 a1_3 a1_4 a1_5 a1_6 a1_7 a1_8 a1_9 a2_0 a2_1 a2_2 a2_3 a2_4 a2_5 a2_6 a2_7 a2_8 a2_9 a3_0 a3_1))) else (billiardlaw16_ImpulseFrames.j0 k true a0_0 a0_1 a0_2 a0_3 a0_4 a1_0 a1_1 a1_2 a1_3 a1_4 a1_5 a1_6 a1_7 a1_8 a1_9 a2_0 a2_1 a2_2 a2_3 a2_4 a2_5 a2_6 a2_7 a2_8 a2_9 a3_0 a3_1))) = some r := h
 clear h
 have HC5 := aM H
 clear H
 go_enter Try.func6, Try.ntmps6
 go_upto_region 1 with (first | ((with_reducible refine gate_dst (N := 4) rfl ?_); refine box_event ?hg (N := 4) ?hd (cs := #[.int .u32 a0_0, .int .u32 a0_1, .int .i32 a0_2, .int .i32 a0_3, .int .i32 a0_4]) (t := 28) ?hr ?_; (case hd => rfl); (case hg => rfl); (case hr => first | (go_simp; done) | (go_simp; rfl)); intro b198 hg w6 hbox hb; have n0_ := aM (lT (by repeat (first | (with_reducible first | exact HB.out | apply lA | apply lN | apply lD) | exact HB.out)) hb); have n1_ := aM (hbox); have n2_ := aM ((by rw [hg]; exact (lZ (by repeat (first | (with_reducible first | exact HB.out | apply lA | apply lN | apply lD) | exact HB.out))) : w.heap.size ≤ b198)); have n3_ := aM ((by rw [hg]; exact (lZ (by repeat (first | (with_reducible first | exact HB.out | apply lA | apply lN | apply lD) | exact HB.out))) : w.heap.size ≤ b198)); clear HB; have HB := n0_; have BK198 := n1_; have GW198 := n2_; have GE198 := n3_; clear n0_ n1_ n2_ n3_; clear hb hbox hg) | ((with_reducible refine gate_dst (N := 5) rfl ?_); refine box_event ?hg (N := 5) ?hd (cs := #[.int .u32 a1_0, .int .i32 a1_1, .int .i32 a1_2, .int .i32 a1_3, .int .i32 a1_4, .int .i32 a1_5, .int .i32 a1_6, .int .i32 a1_7, .int .i32 a1_8, .int .i32 a1_9]) (t := 30) ?hr ?_; (case hd => rfl); (case hg => rfl); (case hr => first | (go_simp; done) | (go_simp; rfl)); intro b199 hg w7 hbox hb; have n0_ := aM (bB (by (with_reducible repeat first | apply bN | apply bD | apply bA); exact BK198.out) hb); have n1_ := aM (lT (by repeat (first | (with_reducible first | exact HB.out | apply lA | apply lN | apply lD | refine lS ?_ GE198.out) | exact HB.out)) hb); have n2_ := aM (hbox); have n3_ := aM ((by rw [hg]; exact (lZ (by repeat (first | (with_reducible first | exact HB.out | apply lA | apply lN | apply lD | refine lS ?_ GE198.out) | exact HB.out))) : w.heap.size ≤ b199)); have n4_ := aM ((by rw [hg]; exact (lZ (by repeat (first | (with_reducible first | exact HB.out | apply lA | apply lN | apply lD | refine lS ?_ GE198.out) | exact HB.out))) : w.heap.size ≤ b199)); have n5_ := aM ((by rw [hg]; exact Nat.ne_of_lt (bL (g := b198) (by (with_reducible repeat first | apply bN | apply bD | apply bA); exact BK198.out)) : b198 ≠ b199)); have n6_ := aM ((by rw [hg]; exact Nat.ne_of_gt (bL (g := b198) (by (with_reducible repeat first | apply bN | apply bD | apply bA); exact BK198.out)) : b199 ≠ b198)); clear BK198; clear HB; have BK198 := n0_; have HB := n1_; have BK199 := n2_; have GW199 := n3_; have GE199 := n4_; have N0_ := n5_; have N1_ := n6_; clear n0_ n1_ n2_ n3_ n4_ n5_ n6_; clear hb hbox hg) | ((with_reducible refine gate_dst (N := 6) rfl ?_); refine box_event ?hg (N := 6) ?hd (cs := #[.int .u32 a2_0, .int .i32 a2_1, .int .i32 a2_2, .int .i32 a2_3, .int .i32 a2_4, .int .i32 a2_5, .int .i32 a2_6, .int .i32 a2_7, .int .i32 a2_8, .int .i32 a2_9]) (t := 30) ?hr ?_; (case hd => rfl); (case hg => rfl); (case hr => first | (go_simp; done) | (go_simp; rfl)); intro b200 hg w8 hbox hb; have n0_ := aM (bB (by (with_reducible repeat first | apply bN | apply bD | apply bA); exact BK198.out) hb); have n1_ := aM (bB (by (with_reducible repeat first | apply bN | apply bD | apply bA); exact BK199.out) hb); have n2_ := aM (lT (by repeat (first | (with_reducible first | exact HB.out | apply lA | apply lN | apply lD | refine lS ?_ GE198.out | refine lS ?_ GE199.out) | exact HB.out)) hb); have n3_ := aM (hbox); have n4_ := aM ((by rw [hg]; exact (lZ (by repeat (first | (with_reducible first | exact HB.out | apply lA | apply lN | apply lD | refine lS ?_ GE198.out | refine lS ?_ GE199.out) | exact HB.out))) : w.heap.size ≤ b200)); have n5_ := aM ((by rw [hg]; exact (lZ (by repeat (first | (with_reducible first | exact HB.out | apply lA | apply lN | apply lD | refine lS ?_ GE198.out | refine lS ?_ GE199.out) | exact HB.out))) : w.heap.size ≤ b200)); have n6_ := aM ((by rw [hg]; exact Nat.ne_of_lt (bL (g := b198) (by (with_reducible repeat first | apply bN | apply bD | apply bA); exact BK198.out)) : b198 ≠ b200)); have n7_ := aM ((by rw [hg]; exact Nat.ne_of_gt (bL (g := b198) (by (with_reducible repeat first | apply bN | apply bD | apply bA); exact BK198.out)) : b200 ≠ b198)); have n8_ := aM ((by rw [hg]; exact Nat.ne_of_lt (bL (g := b199) (by (with_reducible repeat first | apply bN | apply bD | apply bA); exact BK199.out)) : b199 ≠ b200)); have n9_ := aM ((by rw [hg]; exact Nat.ne_of_gt (bL (g := b199) (by (with_reducible repeat first | apply bN | apply bD | apply bA); exact BK199.out)) : b200 ≠ b199)); clear BK198; clear BK199; clear HB; have BK198 := n0_; have BK199 := n1_; have HB := n2_; have BK200 := n3_; have GW200 := n4_; have GE200 := n5_; have N2_ := n6_; have N3_ := n7_; have N4_ := n8_; have N5_ := n9_; clear n0_ n1_ n2_ n3_ n4_ n5_ n6_ n7_ n8_ n9_; clear hb hbox hg) | ((with_reducible refine gate_dst (N := 7) rfl ?_); refine box_event ?hg (N := 7) ?hd (cs := #[.int .i32 a3_0, .int .i32 a3_1]) (t := 26) ?hr ?_; (case hd => rfl); (case hg => rfl); (case hr => first | (go_simp; done) | (go_simp; rfl)); intro b201 hg w9 hbox hb; have n0_ := aM (bB (by (with_reducible repeat first | apply bN | apply bD | apply bA); exact BK198.out) hb); have n1_ := aM (bB (by (with_reducible repeat first | apply bN | apply bD | apply bA); exact BK199.out) hb); have n2_ := aM (bB (by (with_reducible repeat first | apply bN | apply bD | apply bA); exact BK200.out) hb); have n3_ := aM (lT (by repeat (first | (with_reducible first | exact HB.out | apply lA | apply lN | apply lD | refine lS ?_ GE198.out | refine lS ?_ GE199.out | refine lS ?_ GE200.out) | exact HB.out)) hb); have n4_ := aM (hbox); have n5_ := aM ((by rw [hg]; exact (lZ (by repeat (first | (with_reducible first | exact HB.out | apply lA | apply lN | apply lD | refine lS ?_ GE198.out | refine lS ?_ GE199.out | refine lS ?_ GE200.out) | exact HB.out))) : w.heap.size ≤ b201)); have n6_ := aM ((by rw [hg]; exact (lZ (by repeat (first | (with_reducible first | exact HB.out | apply lA | apply lN | apply lD | refine lS ?_ GE198.out | refine lS ?_ GE199.out | refine lS ?_ GE200.out) | exact HB.out))) : w.heap.size ≤ b201)); have n7_ := aM ((by rw [hg]; exact Nat.ne_of_lt (bL (g := b198) (by (with_reducible repeat first | apply bN | apply bD | apply bA); exact BK198.out)) : b198 ≠ b201)); have n8_ := aM ((by rw [hg]; exact Nat.ne_of_gt (bL (g := b198) (by (with_reducible repeat first | apply bN | apply bD | apply bA); exact BK198.out)) : b201 ≠ b198)); have n9_ := aM ((by rw [hg]; exact Nat.ne_of_lt (bL (g := b199) (by (with_reducible repeat first | apply bN | apply bD | apply bA); exact BK199.out)) : b199 ≠ b201)); have n10_ := aM ((by rw [hg]; exact Nat.ne_of_gt (bL (g := b199) (by (with_reducible repeat first | apply bN | apply bD | apply bA); exact BK199.out)) : b201 ≠ b199)); have n11_ := aM ((by rw [hg]; exact Nat.ne_of_lt (bL (g := b200) (by (with_reducible repeat first | apply bN | apply bD | apply bA); exact BK200.out)) : b200 ≠ b201)); have n12_ := aM ((by rw [hg]; exact Nat.ne_of_gt (bL (g := b200) (by (with_reducible repeat first | apply bN | apply bD | apply bA); exact BK200.out)) : b201 ≠ b200)); clear BK198; clear BK199; clear BK200; clear HB; have BK198 := n0_; have BK199 := n1_; have BK200 := n2_; have HB := n3_; have BK201 := n4_; have GW201 := n5_; have GE201 := n6_; have N6_ := n7_; have N7_ := n8_; have N8_ := n9_; have N9_ := n10_; have N10_ := n11_; have N11_ := n12_; clear n0_ n1_ n2_ n3_ n4_ n5_ n6_ n7_ n8_ n9_ n10_ n11_ n12_; clear hb hbox hg))
 (try simp only [Act.put, sA, sB, sC])
 go_cut [31] (fun v31 wc => ∃ (kq : Nat) (x31_4 : Bool), v31 = .bool x31_4 ∧ Aside0 (billiardlaw16_ImpulseFrames.j0 kq x31_4 a0_0 a0_1 a0_2 a0_3 a0_4 a1_0 a1_1 a1_2 a1_3 a1_4 a1_5 a1_6 a1_7 a1_8 a1_9 a2_0 a2_1 a2_2 a2_3 a2_4 a2_5 a2_6 a2_7 a2_8 a2_9 a3_0 a3_1 = some r) ∧ Aside0 (kq ≤ k) ∧ Aside0 (wc.heap[b198]? = some (.cells #[.int .u32 a0_0, .int .u32 a0_1, .int .i32 a0_2, .int .i32 a0_3, .int .i32 a0_4] 28 (0, 0))) ∧ Aside0 (wc.heap[b199]? = some (.cells #[.int .u32 a1_0, .int .i32 a1_1, .int .i32 a1_2, .int .i32 a1_3, .int .i32 a1_4, .int .i32 a1_5, .int .i32 a1_6, .int .i32 a1_7, .int .i32 a1_8, .int .i32 a1_9] 30 (0, 0))) ∧ Aside0 (wc.heap[b200]? = some (.cells #[.int .u32 a2_0, .int .i32 a2_1, .int .i32 a2_2, .int .i32 a2_3, .int .i32 a2_4, .int .i32 a2_5, .int .i32 a2_6, .int .i32 a2_7, .int .i32 a2_8, .int .i32 a2_9] 30 (0, 0))) ∧ Aside0 (wc.heap[b201]? = some (.cells #[.int .i32 a3_0, .int .i32 a3_1] 26 (0, 0))) ∧ Aside0 (Below w.heap.size w wc))
 case first =>
  have H := HC5.out
  clear HC5
  replace H := Option.bind_eq_some_iff.mp H
  obtain ⟨t202, A100, H⟩ := H
  replace H : (if t202 = true then ((billiardref16_Right.f k a0_0 a0_1 a0_2 a0_3 a0_4 a1_0 a1_1 a1_2 a1_3 a1_4 a1_5 a1_6 a1_7 a1_8 a1_9 a2_0 a2_1 a2_2 a2_3 a2_4 a2_5 a2_6 a2_7 a2_8 a2_9).bind fun t203 => (if t203 = true then ((billiardref05_In.f a3_0 16777216).bind fun t204 => (if t204 = true then ((billiardref05_In.f a3_1 16777216).bind fun t205 => (billiardlaw16_ImpulseFrames.j0 k (!t205) a0_0 a0_1 a0_2 a0_3 a0_4 a1_0 a1_1 a1_2 a1_3 a1_4 a1_5 a1_6 a1_7 a1_8 a1_9 a2_0 a2_1 a2_2 a2_3 a2_4 a2_5 a2_6 a2_7 a2_8 a2_9 a3_0 a3_1)) else (billiardlaw16_ImpulseFrames.j0 k true a0_0 a0_1 a0_2 a0_3 a0_4 a1_0 a1_1 a1_2 a1_3 a1_4 a1_5 a1_6 a1_7 a1_8 a1_9 a2_0 a2_1 a2_2 a2_3 a2_4 a2_5 a2_6 a2_7 a2_8 a2_9 a3_0 a3_1))) else (billiardlaw16_ImpulseFrames.j0 k true a0_0 a0_1 a0_2 a0_3 a0_4 a1_0 a1_1 a1_2 a1_3 a1_4 a1_5 a1_6 a1_7 a1_8 a1_9 a2_0 a2_1 a2_2 a2_3 a2_4 a2_5 a2_6 a2_7 a2_8 a2_9 a3_0 a3_1))) else (billiardlaw16_ImpulseFrames.j0 k true a0_0 a0_1 a0_2 a0_3 a0_4 a1_0 a1_1 a1_2 a1_3 a1_4 a1_5 a1_6 a1_7 a1_8 a1_9 a2_0 a2_1 a2_2 a2_3 a2_4 a2_5 a2_6 a2_7 a2_8 a2_9 a3_0 a3_1)) = some r := H
  have A10 := aM A100
  clear A100
  by_cases c11 : t202 = true
  ·subst c11
   have H1 : ((billiardref16_Right.f k a0_0 a0_1 a0_2 a0_3 a0_4 a1_0 a1_1 a1_2 a1_3 a1_4 a1_5 a1_6 a1_7 a1_8 a1_9 a2_0 a2_1 a2_2 a2_3 a2_4 a2_5 a2_6 a2_7 a2_8 a2_9).bind fun t203 => (if t203 = true then ((billiardref05_In.f a3_0 16777216).bind fun t204 => (if t204 = true then ((billiardref05_In.f a3_1 16777216).bind fun t205 => (billiardlaw16_ImpulseFrames.j0 k (!t205) a0_0 a0_1 a0_2 a0_3 a0_4 a1_0 a1_1 a1_2 a1_3 a1_4 a1_5 a1_6 a1_7 a1_8 a1_9 a2_0 a2_1 a2_2 a2_3 a2_4 a2_5 a2_6 a2_7 a2_8 a2_9 a3_0 a3_1)) else (billiardlaw16_ImpulseFrames.j0 k true a0_0 a0_1 a0_2 a0_3 a0_4 a1_0 a1_1 a1_2 a1_3 a1_4 a1_5 a1_6 a1_7 a1_8 a1_9 a2_0 a2_1 a2_2 a2_3 a2_4 a2_5 a2_6 a2_7 a2_8 a2_9 a3_0 a3_1))) else (billiardlaw16_ImpulseFrames.j0 k true a0_0 a0_1 a0_2 a0_3 a0_4 a1_0 a1_1 a1_2 a1_3 a1_4 a1_5 a1_6 a1_7 a1_8 a1_9 a2_0 a2_1 a2_2 a2_3 a2_4 a2_5 a2_6 a2_7 a2_8 a2_9 a3_0 a3_1))) = some r := by rw [if_pos rfl] at H; exact H
   clear H
   have H := H1
   clear H1
   replace H := Option.bind_eq_some_iff.mp H
   obtain ⟨t203, A120, H⟩ := H
   replace H : (if t203 = true then ((billiardref05_In.f a3_0 16777216).bind fun t204 => (if t204 = true then ((billiardref05_In.f a3_1 16777216).bind fun t205 => (billiardlaw16_ImpulseFrames.j0 k (!t205) a0_0 a0_1 a0_2 a0_3 a0_4 a1_0 a1_1 a1_2 a1_3 a1_4 a1_5 a1_6 a1_7 a1_8 a1_9 a2_0 a2_1 a2_2 a2_3 a2_4 a2_5 a2_6 a2_7 a2_8 a2_9 a3_0 a3_1)) else (billiardlaw16_ImpulseFrames.j0 k true a0_0 a0_1 a0_2 a0_3 a0_4 a1_0 a1_1 a1_2 a1_3 a1_4 a1_5 a1_6 a1_7 a1_8 a1_9 a2_0 a2_1 a2_2 a2_3 a2_4 a2_5 a2_6 a2_7 a2_8 a2_9 a3_0 a3_1))) else (billiardlaw16_ImpulseFrames.j0 k true a0_0 a0_1 a0_2 a0_3 a0_4 a1_0 a1_1 a1_2 a1_3 a1_4 a1_5 a1_6 a1_7 a1_8 a1_9 a2_0 a2_1 a2_2 a2_3 a2_4 a2_5 a2_6 a2_7 a2_8 a2_9 a3_0 a3_1)) = some r := H
   have A12 := aM A120
   clear A120
   by_cases c13 : t203 = true
   ·subst c13
    have H1 : ((billiardref05_In.f a3_0 16777216).bind fun t204 => (if t204 = true then ((billiardref05_In.f a3_1 16777216).bind fun t205 => (billiardlaw16_ImpulseFrames.j0 k (!t205) a0_0 a0_1 a0_2 a0_3 a0_4 a1_0 a1_1 a1_2 a1_3 a1_4 a1_5 a1_6 a1_7 a1_8 a1_9 a2_0 a2_1 a2_2 a2_3 a2_4 a2_5 a2_6 a2_7 a2_8 a2_9 a3_0 a3_1)) else (billiardlaw16_ImpulseFrames.j0 k true a0_0 a0_1 a0_2 a0_3 a0_4 a1_0 a1_1 a1_2 a1_3 a1_4 a1_5 a1_6 a1_7 a1_8 a1_9 a2_0 a2_1 a2_2 a2_3 a2_4 a2_5 a2_6 a2_7 a2_8 a2_9 a3_0 a3_1))) = some r := by rw [if_pos rfl] at H; exact H
    clear H
    have H := H1
    clear H1
    replace H := Option.bind_eq_some_iff.mp H
    obtain ⟨t204, A140, H⟩ := H
    replace H : (if t204 = true then ((billiardref05_In.f a3_1 16777216).bind fun t205 => (billiardlaw16_ImpulseFrames.j0 k (!t205) a0_0 a0_1 a0_2 a0_3 a0_4 a1_0 a1_1 a1_2 a1_3 a1_4 a1_5 a1_6 a1_7 a1_8 a1_9 a2_0 a2_1 a2_2 a2_3 a2_4 a2_5 a2_6 a2_7 a2_8 a2_9 a3_0 a3_1)) else (billiardlaw16_ImpulseFrames.j0 k true a0_0 a0_1 a0_2 a0_3 a0_4 a1_0 a1_1 a1_2 a1_3 a1_4 a1_5 a1_6 a1_7 a1_8 a1_9 a2_0 a2_1 a2_2 a2_3 a2_4 a2_5 a2_6 a2_7 a2_8 a2_9 a3_0 a3_1)) = some r := H
    have A14 := aM A140
    clear A140
    by_cases c15 : t204 = true
    ·subst c15
     have H1 : ((billiardref05_In.f a3_1 16777216).bind fun t205 => (billiardlaw16_ImpulseFrames.j0 k (!t205) a0_0 a0_1 a0_2 a0_3 a0_4 a1_0 a1_1 a1_2 a1_3 a1_4 a1_5 a1_6 a1_7 a1_8 a1_9 a2_0 a2_1 a2_2 a2_3 a2_4 a2_5 a2_6 a2_7 a2_8 a2_9 a3_0 a3_1)) = some r := by rw [if_pos rfl] at H; exact H
     clear H
     have H := H1
     clear H1
     replace H := Option.bind_eq_some_iff.mp H
     obtain ⟨t205, A160, H⟩ := H
     replace H : (billiardlaw16_ImpulseFrames.j0 k (!t205) a0_0 a0_1 a0_2 a0_3 a0_4 a1_0 a1_1 a1_2 a1_3 a1_4 a1_5 a1_6 a1_7 a1_8 a1_9 a2_0 a2_1 a2_2 a2_3 a2_4 a2_5 a2_6 a2_7 a2_8 a2_9 a3_0 a3_1) = some r := H
     have A16 := aM A160
     clear A160
     have H' := aM H
     clear H
     go_wp2_with (first | ((with_reducible refine gate_callee (f := 8) rfl ?_); refine goesL_ (some 11) rfl rfl Try.func8 (by kernel_rfl) rfl #[] rfl (by (try simp only [List.map_toArray, List.map_cons, List.map_nil]); first | done | rfl | (simp only [List.length_drop, List.length_take]; rfl)) ?_; (with_reducible refine (billiardlaw16_awake.calls k  true _ A10.out).mono ?_); rintro e w17 ⟨rfl, hb⟩; refine ⟨_, rfl, ?_⟩; have n0_ := aM (bB (by (with_reducible repeat first | apply bN | apply bD | apply bA); exact BK198.out) hb); have n1_ := aM (bB (by (with_reducible repeat first | apply bN | apply bD | apply bA); exact BK199.out) hb); have n2_ := aM (bB (by (with_reducible repeat first | apply bN | apply bD | apply bA); exact BK200.out) hb); have n3_ := aM (bB (by (with_reducible repeat first | apply bN | apply bD | apply bA); exact BK201.out) hb); have n4_ := aM (lT (by repeat (first | (with_reducible first | exact HB.out | apply lA | apply lN | apply lD | refine lS ?_ GE198.out | refine lS ?_ GE199.out | refine lS ?_ GE200.out | refine lS ?_ GE201.out) | exact HB.out)) hb); clear BK198; clear BK199; clear BK200; clear BK201; clear HB; have BK198 := n0_; have BK199 := n1_; have BK200 := n2_; have BK201 := n3_; have HB := n4_; clear n0_ n1_ n2_ n3_ n4_; (try clear hb); (try clear hb2); (try clear hk); (try clear hi); have hnb18 := N0_.out; have hnc18 := N1_.out; have hnb19 := N2_.out; have hnc19 := N3_.out; have hnb20 := N6_.out; have hnc20 := N7_.out; have hcz21_0 : w17.cell? ⟨b198, 0, none⟩ = some (.int .u32 a0_0) := (bC BK198.out 0).trans rfl; have hcz21_1 : w17.cell? ⟨b198, 1, none⟩ = some (.int .u32 a0_1) := (bC BK198.out 1).trans rfl; have hcz21_2 : w17.cell? ⟨b198, 2, none⟩ = some (.int .i32 a0_2) := (bC BK198.out 2).trans rfl; have hcz21_3 : w17.cell? ⟨b198, 3, none⟩ = some (.int .i32 a0_3) := (bC BK198.out 3).trans rfl; have hcz21_4 : w17.cell? ⟨b198, 4, none⟩ = some (.int .i32 a0_4) := (bC BK198.out 4).trans rfl; have hfz21_0 := bF BK198.out 0; have hfz21_1 := bF BK198.out 1; have hfz21_2 := bF BK198.out 2; have hfz21_3 := bF BK198.out 3; have hfz21_4 := bF BK198.out 4; have hnb22 := N4_.out; have hnc22 := N5_.out; have hnb23 := N8_.out; have hnc23 := N9_.out; have hcz24_0 : w17.cell? ⟨b199, 0, none⟩ = some (.int .u32 a1_0) := (bC BK199.out 0).trans rfl; have hcz24_1 : w17.cell? ⟨b199, 1, none⟩ = some (.int .i32 a1_1) := (bC BK199.out 1).trans rfl; have hcz24_2 : w17.cell? ⟨b199, 2, none⟩ = some (.int .i32 a1_2) := (bC BK199.out 2).trans rfl; have hcz24_3 : w17.cell? ⟨b199, 3, none⟩ = some (.int .i32 a1_3) := (bC BK199.out 3).trans rfl; have hcz24_4 : w17.cell? ⟨b199, 4, none⟩ = some (.int .i32 a1_4) := (bC BK199.out 4).trans rfl; have hcz24_5 : w17.cell? ⟨b199, 5, none⟩ = some (.int .i32 a1_5) := (bC BK199.out 5).trans rfl; have hcz24_6 : w17.cell? ⟨b199, 6, none⟩ = some (.int .i32 a1_6) := (bC BK199.out 6).trans rfl; have hcz24_7 : w17.cell? ⟨b199, 7, none⟩ = some (.int .i32 a1_7) := (bC BK199.out 7).trans rfl; have hcz24_8 : w17.cell? ⟨b199, 8, none⟩ = some (.int .i32 a1_8) := (bC BK199.out 8).trans rfl; have hcz24_9 : w17.cell? ⟨b199, 9, none⟩ = some (.int .i32 a1_9) := (bC BK199.out 9).trans rfl; have hfz24_0 := bF BK199.out 0; have hfz24_1 := bF BK199.out 1; have hfz24_2 := bF BK199.out 2; have hfz24_3 := bF BK199.out 3; have hfz24_4 := bF BK199.out 4; have hfz24_5 := bF BK199.out 5; have hfz24_6 := bF BK199.out 6; have hfz24_7 := bF BK199.out 7; have hfz24_8 := bF BK199.out 8; have hfz24_9 := bF BK199.out 9; have hnb25 := N10_.out; have hnc25 := N11_.out; have hcz26_0 : w17.cell? ⟨b200, 0, none⟩ = some (.int .u32 a2_0) := (bC BK200.out 0).trans rfl; have hcz26_1 : w17.cell? ⟨b200, 1, none⟩ = some (.int .i32 a2_1) := (bC BK200.out 1).trans rfl; have hcz26_2 : w17.cell? ⟨b200, 2, none⟩ = some (.int .i32 a2_2) := (bC BK200.out 2).trans rfl; have hcz26_3 : w17.cell? ⟨b200, 3, none⟩ = some (.int .i32 a2_3) := (bC BK200.out 3).trans rfl; have hcz26_4 : w17.cell? ⟨b200, 4, none⟩ = some (.int .i32 a2_4) := (bC BK200.out 4).trans rfl; have hcz26_5 : w17.cell? ⟨b200, 5, none⟩ = some (.int .i32 a2_5) := (bC BK200.out 5).trans rfl; have hcz26_6 : w17.cell? ⟨b200, 6, none⟩ = some (.int .i32 a2_6) := (bC BK200.out 6).trans rfl; have hcz26_7 : w17.cell? ⟨b200, 7, none⟩ = some (.int .i32 a2_7) := (bC BK200.out 7).trans rfl; have hcz26_8 : w17.cell? ⟨b200, 8, none⟩ = some (.int .i32 a2_8) := (bC BK200.out 8).trans rfl; have hcz26_9 : w17.cell? ⟨b200, 9, none⟩ = some (.int .i32 a2_9) := (bC BK200.out 9).trans rfl; have hfz26_0 := bF BK200.out 0; have hfz26_1 := bF BK200.out 1; have hfz26_2 := bF BK200.out 2; have hfz26_3 := bF BK200.out 3; have hfz26_4 := bF BK200.out 4; have hfz26_5 := bF BK200.out 5; have hfz26_6 := bF BK200.out 6; have hfz26_7 := bF BK200.out 7; have hfz26_8 := bF BK200.out 8; have hfz26_9 := bF BK200.out 9) | (go_at_call 9; (with_reducible refine (billiardref16_Right.calls k a0_0 a0_1 a0_2 a0_3 a0_4 a1_0 a1_1 a1_2 a1_3 a1_4 a1_5 a1_6 a1_7 a1_8 a1_9 a2_0 a2_1 a2_2 a2_3 a2_4 a2_5 a2_6 a2_7 a2_8 a2_9 true _ A12.out).mono ?_); rintro e w27 ⟨rfl, hb⟩; have n0_ := aM (bB (by (with_reducible repeat first | apply bN | apply bD | apply bA); exact BK198.out) hb); have n1_ := aM (bB (by (with_reducible repeat first | apply bN | apply bD | apply bA); exact BK199.out) hb); have n2_ := aM (bB (by (with_reducible repeat first | apply bN | apply bD | apply bA); exact BK200.out) hb); have n3_ := aM (bB (by (with_reducible repeat first | apply bN | apply bD | apply bA); exact BK201.out) hb); have n4_ := aM (lT (by repeat (first | (with_reducible first | exact HB.out | apply lA | apply lN | apply lD | refine lS ?_ GE198.out | refine lS ?_ GE199.out | refine lS ?_ GE200.out | refine lS ?_ GE201.out) | exact HB.out)) hb); clear BK198; clear BK199; clear BK200; clear BK201; clear HB; have BK198 := n0_; have BK199 := n1_; have BK200 := n2_; have BK201 := n3_; have HB := n4_; clear n0_ n1_ n2_ n3_ n4_; (try clear hb); (try clear hb2); (try clear hk); (try clear hi); have hcz28_0 : w27.cell? ⟨b201, 0, none⟩ = some (.int .i32 a3_0) := (bC BK201.out 0).trans rfl; have hcz28_1 : w27.cell? ⟨b201, 1, none⟩ = some (.int .i32 a3_1) := (bC BK201.out 1).trans rfl; have hfz28_0 := bF BK201.out 0; have hfz28_1 := bF BK201.out 1) | (go_at_call 18; (with_reducible refine (billiardref05_In.calls a3_0 16777216 true _ A14.out).mono ?_); rintro e w' ⟨rfl, ⟨nd, rfl⟩⟩) | (go_at_call 18; (with_reducible refine (billiardref05_In.calls a3_1 16777216 t205 _ A16.out).mono ?_); rintro e w' ⟨rfl, ⟨nd, rfl⟩⟩))
     go_meet
     case rel => exact ⟨_, (!t205), (by first | rfl | (simp; done) | (simp [*]; done)), H', ⟨by first | omega | exact Nat.le_refl _⟩, ⟨by (with_reducible repeat first | apply bN | apply bD | apply bA); exact BK198.out⟩, ⟨by (with_reducible repeat first | apply bN | apply bD | apply bA); exact BK199.out⟩, ⟨by (with_reducible repeat first | apply bN | apply bD | apply bA); exact BK200.out⟩, ⟨by (with_reducible repeat first | apply bN | apply bD | apply bA); exact BK201.out⟩, ⟨by repeat (first | (with_reducible first | exact HB.out | apply lA | apply lN | apply lD | refine lS ?_ GE198.out | refine lS ?_ GE199.out | refine lS ?_ GE200.out | refine lS ?_ GE201.out) | exact HB.out)⟩⟩
    ·replace c15 := Bool.eq_false_iff.mpr c15
     subst c15
     have H1 : (billiardlaw16_ImpulseFrames.j0 k true a0_0 a0_1 a0_2 a0_3 a0_4 a1_0 a1_1 a1_2 a1_3 a1_4 a1_5 a1_6 a1_7 a1_8 a1_9 a2_0 a2_1 a2_2 a2_3 a2_4 a2_5 a2_6 a2_7 a2_8 a2_9 a3_0 a3_1) = some r := by rw [if_neg (show ¬ (false = true) by decide)] at H; exact H
     clear H
     have H := H1
     clear H1
     have H' := aM H
     clear H
     go_wp2_with (first | ((with_reducible refine gate_callee (f := 8) rfl ?_); refine goesL_ (some 11) rfl rfl Try.func8 (by kernel_rfl) rfl #[] rfl (by (try simp only [List.map_toArray, List.map_cons, List.map_nil]); first | done | rfl | (simp only [List.length_drop, List.length_take]; rfl)) ?_; (with_reducible refine (billiardlaw16_awake.calls k  true _ A10.out).mono ?_); rintro e w29 ⟨rfl, hb⟩; refine ⟨_, rfl, ?_⟩; have n0_ := aM (bB (by (with_reducible repeat first | apply bN | apply bD | apply bA); exact BK198.out) hb); have n1_ := aM (bB (by (with_reducible repeat first | apply bN | apply bD | apply bA); exact BK199.out) hb); have n2_ := aM (bB (by (with_reducible repeat first | apply bN | apply bD | apply bA); exact BK200.out) hb); have n3_ := aM (bB (by (with_reducible repeat first | apply bN | apply bD | apply bA); exact BK201.out) hb); have n4_ := aM (lT (by repeat (first | (with_reducible first | exact HB.out | apply lA | apply lN | apply lD | refine lS ?_ GE198.out | refine lS ?_ GE199.out | refine lS ?_ GE200.out | refine lS ?_ GE201.out) | exact HB.out)) hb); clear BK198; clear BK199; clear BK200; clear BK201; clear HB; have BK198 := n0_; have BK199 := n1_; have BK200 := n2_; have BK201 := n3_; have HB := n4_; clear n0_ n1_ n2_ n3_ n4_; (try clear hb); (try clear hb2); (try clear hk); (try clear hi); have hnb30 := N0_.out; have hnc30 := N1_.out; have hnb31 := N2_.out; have hnc31 := N3_.out; have hnb32 := N6_.out; have hnc32 := N7_.out; have hcz33_0 : w29.cell? ⟨b198, 0, none⟩ = some (.int .u32 a0_0) := (bC BK198.out 0).trans rfl; have hcz33_1 : w29.cell? ⟨b198, 1, none⟩ = some (.int .u32 a0_1) := (bC BK198.out 1).trans rfl; have hcz33_2 : w29.cell? ⟨b198, 2, none⟩ = some (.int .i32 a0_2) := (bC BK198.out 2).trans rfl; have hcz33_3 : w29.cell? ⟨b198, 3, none⟩ = some (.int .i32 a0_3) := (bC BK198.out 3).trans rfl; have hcz33_4 : w29.cell? ⟨b198, 4, none⟩ = some (.int .i32 a0_4) := (bC BK198.out 4).trans rfl; have hfz33_0 := bF BK198.out 0; have hfz33_1 := bF BK198.out 1; have hfz33_2 := bF BK198.out 2; have hfz33_3 := bF BK198.out 3; have hfz33_4 := bF BK198.out 4; have hnb34 := N4_.out; have hnc34 := N5_.out; have hnb35 := N8_.out; have hnc35 := N9_.out; have hcz36_0 : w29.cell? ⟨b199, 0, none⟩ = some (.int .u32 a1_0) := (bC BK199.out 0).trans rfl; have hcz36_1 : w29.cell? ⟨b199, 1, none⟩ = some (.int .i32 a1_1) := (bC BK199.out 1).trans rfl; have hcz36_2 : w29.cell? ⟨b199, 2, none⟩ = some (.int .i32 a1_2) := (bC BK199.out 2).trans rfl; have hcz36_3 : w29.cell? ⟨b199, 3, none⟩ = some (.int .i32 a1_3) := (bC BK199.out 3).trans rfl; have hcz36_4 : w29.cell? ⟨b199, 4, none⟩ = some (.int .i32 a1_4) := (bC BK199.out 4).trans rfl; have hcz36_5 : w29.cell? ⟨b199, 5, none⟩ = some (.int .i32 a1_5) := (bC BK199.out 5).trans rfl; have hcz36_6 : w29.cell? ⟨b199, 6, none⟩ = some (.int .i32 a1_6) := (bC BK199.out 6).trans rfl; have hcz36_7 : w29.cell? ⟨b199, 7, none⟩ = some (.int .i32 a1_7) := (bC BK199.out 7).trans rfl; have hcz36_8 : w29.cell? ⟨b199, 8, none⟩ = some (.int .i32 a1_8) := (bC BK199.out 8).trans rfl; have hcz36_9 : w29.cell? ⟨b199, 9, none⟩ = some (.int .i32 a1_9) := (bC BK199.out 9).trans rfl; have hfz36_0 := bF BK199.out 0; have hfz36_1 := bF BK199.out 1; have hfz36_2 := bF BK199.out 2; have hfz36_3 := bF BK199.out 3; have hfz36_4 := bF BK199.out 4; have hfz36_5 := bF BK199.out 5; have hfz36_6 := bF BK199.out 6; have hfz36_7 := bF BK199.out 7; have hfz36_8 := bF BK199.out 8; have hfz36_9 := bF BK199.out 9; have hnb37 := N10_.out; have hnc37 := N11_.out; have hcz38_0 : w29.cell? ⟨b200, 0, none⟩ = some (.int .u32 a2_0) := (bC BK200.out 0).trans rfl; have hcz38_1 : w29.cell? ⟨b200, 1, none⟩ = some (.int .i32 a2_1) := (bC BK200.out 1).trans rfl; have hcz38_2 : w29.cell? ⟨b200, 2, none⟩ = some (.int .i32 a2_2) := (bC BK200.out 2).trans rfl; have hcz38_3 : w29.cell? ⟨b200, 3, none⟩ = some (.int .i32 a2_3) := (bC BK200.out 3).trans rfl; have hcz38_4 : w29.cell? ⟨b200, 4, none⟩ = some (.int .i32 a2_4) := (bC BK200.out 4).trans rfl; have hcz38_5 : w29.cell? ⟨b200, 5, none⟩ = some (.int .i32 a2_5) := (bC BK200.out 5).trans rfl; have hcz38_6 : w29.cell? ⟨b200, 6, none⟩ = some (.int .i32 a2_6) := (bC BK200.out 6).trans rfl; have hcz38_7 : w29.cell? ⟨b200, 7, none⟩ = some (.int .i32 a2_7) := (bC BK200.out 7).trans rfl; have hcz38_8 : w29.cell? ⟨b200, 8, none⟩ = some (.int .i32 a2_8) := (bC BK200.out 8).trans rfl; have hcz38_9 : w29.cell? ⟨b200, 9, none⟩ = some (.int .i32 a2_9) := (bC BK200.out 9).trans rfl; have hfz38_0 := bF BK200.out 0; have hfz38_1 := bF BK200.out 1; have hfz38_2 := bF BK200.out 2; have hfz38_3 := bF BK200.out 3; have hfz38_4 := bF BK200.out 4; have hfz38_5 := bF BK200.out 5; have hfz38_6 := bF BK200.out 6; have hfz38_7 := bF BK200.out 7; have hfz38_8 := bF BK200.out 8; have hfz38_9 := bF BK200.out 9) | (go_at_call 9; (with_reducible refine (billiardref16_Right.calls k a0_0 a0_1 a0_2 a0_3 a0_4 a1_0 a1_1 a1_2 a1_3 a1_4 a1_5 a1_6 a1_7 a1_8 a1_9 a2_0 a2_1 a2_2 a2_3 a2_4 a2_5 a2_6 a2_7 a2_8 a2_9 true _ A12.out).mono ?_); rintro e w39 ⟨rfl, hb⟩; have n0_ := aM (bB (by (with_reducible repeat first | apply bN | apply bD | apply bA); exact BK198.out) hb); have n1_ := aM (bB (by (with_reducible repeat first | apply bN | apply bD | apply bA); exact BK199.out) hb); have n2_ := aM (bB (by (with_reducible repeat first | apply bN | apply bD | apply bA); exact BK200.out) hb); have n3_ := aM (bB (by (with_reducible repeat first | apply bN | apply bD | apply bA); exact BK201.out) hb); have n4_ := aM (lT (by repeat (first | (with_reducible first | exact HB.out | apply lA | apply lN | apply lD | refine lS ?_ GE198.out | refine lS ?_ GE199.out | refine lS ?_ GE200.out | refine lS ?_ GE201.out) | exact HB.out)) hb); clear BK198; clear BK199; clear BK200; clear BK201; clear HB; have BK198 := n0_; have BK199 := n1_; have BK200 := n2_; have BK201 := n3_; have HB := n4_; clear n0_ n1_ n2_ n3_ n4_; (try clear hb); (try clear hb2); (try clear hk); (try clear hi); have hcz40_0 : w39.cell? ⟨b201, 0, none⟩ = some (.int .i32 a3_0) := (bC BK201.out 0).trans rfl; have hcz40_1 : w39.cell? ⟨b201, 1, none⟩ = some (.int .i32 a3_1) := (bC BK201.out 1).trans rfl; have hfz40_0 := bF BK201.out 0; have hfz40_1 := bF BK201.out 1) | (go_at_call 18; (with_reducible refine (billiardref05_In.calls a3_0 16777216 false _ A14.out).mono ?_); rintro e w' ⟨rfl, ⟨nd, rfl⟩⟩))
     go_meet
     case rel => exact ⟨_, (true), (by first | rfl | (simp; done) | (simp [*]; done)), H', ⟨by first | omega | exact Nat.le_refl _⟩, ⟨by (with_reducible repeat first | apply bN | apply bD | apply bA); exact BK198.out⟩, ⟨by (with_reducible repeat first | apply bN | apply bD | apply bA); exact BK199.out⟩, ⟨by (with_reducible repeat first | apply bN | apply bD | apply bA); exact BK200.out⟩, ⟨by (with_reducible repeat first | apply bN | apply bD | apply bA); exact BK201.out⟩, ⟨by repeat (first | (with_reducible first | exact HB.out | apply lA | apply lN | apply lD | refine lS ?_ GE198.out | refine lS ?_ GE199.out | refine lS ?_ GE200.out | refine lS ?_ GE201.out) | exact HB.out)⟩⟩
   ·replace c13 := Bool.eq_false_iff.mpr c13
    subst c13
    have H1 : (billiardlaw16_ImpulseFrames.j0 k true a0_0 a0_1 a0_2 a0_3 a0_4 a1_0 a1_1 a1_2 a1_3 a1_4 a1_5 a1_6 a1_7 a1_8 a1_9 a2_0 a2_1 a2_2 a2_3 a2_4 a2_5 a2_6 a2_7 a2_8 a2_9 a3_0 a3_1) = some r := by rw [if_neg (show ¬ (false = true) by decide)] at H; exact H
    clear H
    have H := H1
    clear H1
    have H' := aM H
    clear H
    go_wp2_with (first | ((with_reducible refine gate_callee (f := 8) rfl ?_); refine goesL_ (some 11) rfl rfl Try.func8 (by kernel_rfl) rfl #[] rfl (by (try simp only [List.map_toArray, List.map_cons, List.map_nil]); first | done | rfl | (simp only [List.length_drop, List.length_take]; rfl)) ?_; (with_reducible refine (billiardlaw16_awake.calls k  true _ A10.out).mono ?_); rintro e w41 ⟨rfl, hb⟩; refine ⟨_, rfl, ?_⟩; have n0_ := aM (bB (by (with_reducible repeat first | apply bN | apply bD | apply bA); exact BK198.out) hb); have n1_ := aM (bB (by (with_reducible repeat first | apply bN | apply bD | apply bA); exact BK199.out) hb); have n2_ := aM (bB (by (with_reducible repeat first | apply bN | apply bD | apply bA); exact BK200.out) hb); have n3_ := aM (bB (by (with_reducible repeat first | apply bN | apply bD | apply bA); exact BK201.out) hb); have n4_ := aM (lT (by repeat (first | (with_reducible first | exact HB.out | apply lA | apply lN | apply lD | refine lS ?_ GE198.out | refine lS ?_ GE199.out | refine lS ?_ GE200.out | refine lS ?_ GE201.out) | exact HB.out)) hb); clear BK198; clear BK199; clear BK200; clear BK201; clear HB; have BK198 := n0_; have BK199 := n1_; have BK200 := n2_; have BK201 := n3_; have HB := n4_; clear n0_ n1_ n2_ n3_ n4_; (try clear hb); (try clear hb2); (try clear hk); (try clear hi); have hnb42 := N0_.out; have hnc42 := N1_.out; have hnb43 := N2_.out; have hnc43 := N3_.out; have hnb44 := N6_.out; have hnc44 := N7_.out; have hcz45_0 : w41.cell? ⟨b198, 0, none⟩ = some (.int .u32 a0_0) := (bC BK198.out 0).trans rfl; have hcz45_1 : w41.cell? ⟨b198, 1, none⟩ = some (.int .u32 a0_1) := (bC BK198.out 1).trans rfl; have hcz45_2 : w41.cell? ⟨b198, 2, none⟩ = some (.int .i32 a0_2) := (bC BK198.out 2).trans rfl; have hcz45_3 : w41.cell? ⟨b198, 3, none⟩ = some (.int .i32 a0_3) := (bC BK198.out 3).trans rfl; have hcz45_4 : w41.cell? ⟨b198, 4, none⟩ = some (.int .i32 a0_4) := (bC BK198.out 4).trans rfl; have hfz45_0 := bF BK198.out 0; have hfz45_1 := bF BK198.out 1; have hfz45_2 := bF BK198.out 2; have hfz45_3 := bF BK198.out 3; have hfz45_4 := bF BK198.out 4; have hnb46 := N4_.out; have hnc46 := N5_.out; have hnb47 := N8_.out; have hnc47 := N9_.out; have hcz48_0 : w41.cell? ⟨b199, 0, none⟩ = some (.int .u32 a1_0) := (bC BK199.out 0).trans rfl; have hcz48_1 : w41.cell? ⟨b199, 1, none⟩ = some (.int .i32 a1_1) := (bC BK199.out 1).trans rfl; have hcz48_2 : w41.cell? ⟨b199, 2, none⟩ = some (.int .i32 a1_2) := (bC BK199.out 2).trans rfl; have hcz48_3 : w41.cell? ⟨b199, 3, none⟩ = some (.int .i32 a1_3) := (bC BK199.out 3).trans rfl; have hcz48_4 : w41.cell? ⟨b199, 4, none⟩ = some (.int .i32 a1_4) := (bC BK199.out 4).trans rfl; have hcz48_5 : w41.cell? ⟨b199, 5, none⟩ = some (.int .i32 a1_5) := (bC BK199.out 5).trans rfl; have hcz48_6 : w41.cell? ⟨b199, 6, none⟩ = some (.int .i32 a1_6) := (bC BK199.out 6).trans rfl; have hcz48_7 : w41.cell? ⟨b199, 7, none⟩ = some (.int .i32 a1_7) := (bC BK199.out 7).trans rfl; have hcz48_8 : w41.cell? ⟨b199, 8, none⟩ = some (.int .i32 a1_8) := (bC BK199.out 8).trans rfl; have hcz48_9 : w41.cell? ⟨b199, 9, none⟩ = some (.int .i32 a1_9) := (bC BK199.out 9).trans rfl; have hfz48_0 := bF BK199.out 0; have hfz48_1 := bF BK199.out 1; have hfz48_2 := bF BK199.out 2; have hfz48_3 := bF BK199.out 3; have hfz48_4 := bF BK199.out 4; have hfz48_5 := bF BK199.out 5; have hfz48_6 := bF BK199.out 6; have hfz48_7 := bF BK199.out 7; have hfz48_8 := bF BK199.out 8; have hfz48_9 := bF BK199.out 9; have hnb49 := N10_.out; have hnc49 := N11_.out; have hcz50_0 : w41.cell? ⟨b200, 0, none⟩ = some (.int .u32 a2_0) := (bC BK200.out 0).trans rfl; have hcz50_1 : w41.cell? ⟨b200, 1, none⟩ = some (.int .i32 a2_1) := (bC BK200.out 1).trans rfl; have hcz50_2 : w41.cell? ⟨b200, 2, none⟩ = some (.int .i32 a2_2) := (bC BK200.out 2).trans rfl; have hcz50_3 : w41.cell? ⟨b200, 3, none⟩ = some (.int .i32 a2_3) := (bC BK200.out 3).trans rfl; have hcz50_4 : w41.cell? ⟨b200, 4, none⟩ = some (.int .i32 a2_4) := (bC BK200.out 4).trans rfl; have hcz50_5 : w41.cell? ⟨b200, 5, none⟩ = some (.int .i32 a2_5) := (bC BK200.out 5).trans rfl; have hcz50_6 : w41.cell? ⟨b200, 6, none⟩ = some (.int .i32 a2_6) := (bC BK200.out 6).trans rfl; have hcz50_7 : w41.cell? ⟨b200, 7, none⟩ = some (.int .i32 a2_7) := (bC BK200.out 7).trans rfl; have hcz50_8 : w41.cell? ⟨b200, 8, none⟩ = some (.int .i32 a2_8) := (bC BK200.out 8).trans rfl; have hcz50_9 : w41.cell? ⟨b200, 9, none⟩ = some (.int .i32 a2_9) := (bC BK200.out 9).trans rfl; have hfz50_0 := bF BK200.out 0; have hfz50_1 := bF BK200.out 1; have hfz50_2 := bF BK200.out 2; have hfz50_3 := bF BK200.out 3; have hfz50_4 := bF BK200.out 4; have hfz50_5 := bF BK200.out 5; have hfz50_6 := bF BK200.out 6; have hfz50_7 := bF BK200.out 7; have hfz50_8 := bF BK200.out 8; have hfz50_9 := bF BK200.out 9) | (go_at_call 9; (with_reducible refine (billiardref16_Right.calls k a0_0 a0_1 a0_2 a0_3 a0_4 a1_0 a1_1 a1_2 a1_3 a1_4 a1_5 a1_6 a1_7 a1_8 a1_9 a2_0 a2_1 a2_2 a2_3 a2_4 a2_5 a2_6 a2_7 a2_8 a2_9 false _ A12.out).mono ?_); rintro e w51 ⟨rfl, hb⟩; have n0_ := aM (bB (by (with_reducible repeat first | apply bN | apply bD | apply bA); exact BK198.out) hb); have n1_ := aM (bB (by (with_reducible repeat first | apply bN | apply bD | apply bA); exact BK199.out) hb); have n2_ := aM (bB (by (with_reducible repeat first | apply bN | apply bD | apply bA); exact BK200.out) hb); have n3_ := aM (bB (by (with_reducible repeat first | apply bN | apply bD | apply bA); exact BK201.out) hb); have n4_ := aM (lT (by repeat (first | (with_reducible first | exact HB.out | apply lA | apply lN | apply lD | refine lS ?_ GE198.out | refine lS ?_ GE199.out | refine lS ?_ GE200.out | refine lS ?_ GE201.out) | exact HB.out)) hb); clear BK198; clear BK199; clear BK200; clear BK201; clear HB; have BK198 := n0_; have BK199 := n1_; have BK200 := n2_; have BK201 := n3_; have HB := n4_; clear n0_ n1_ n2_ n3_ n4_; (try clear hb); (try clear hb2); (try clear hk); (try clear hi)))
    go_meet
    case rel => exact ⟨_, (true), (by first | rfl | (simp; done) | (simp [*]; done)), H', ⟨by first | omega | exact Nat.le_refl _⟩, ⟨by (with_reducible repeat first | apply bN | apply bD | apply bA); exact BK198.out⟩, ⟨by (with_reducible repeat first | apply bN | apply bD | apply bA); exact BK199.out⟩, ⟨by (with_reducible repeat first | apply bN | apply bD | apply bA); exact BK200.out⟩, ⟨by (with_reducible repeat first | apply bN | apply bD | apply bA); exact BK201.out⟩, ⟨by repeat (first | (with_reducible first | exact HB.out | apply lA | apply lN | apply lD | refine lS ?_ GE198.out | refine lS ?_ GE199.out | refine lS ?_ GE200.out | refine lS ?_ GE201.out) | exact HB.out)⟩⟩
  ·replace c11 := Bool.eq_false_iff.mpr c11
   subst c11
   exact absurd (billiardlaw16_awake.only A10.out) (by decide)
 case rest =>
  clear HC5
  try clear c1
  try clear c2
  try clear p2
  try clear c3
  try clear c4
  try clear c6
  try clear c8
  try clear c11
  try clear c13
  try clear c15
  try clear c18
  try clear c19
  try clear c20
  try clear c22
  try clear c23
  try clear c25
  try clear c30
  try clear c31
  try clear c32
  try clear c34
  try clear c35
  try clear c37
  try clear c42
  try clear c43
  try clear c44
  try clear c46
  try clear c47
  try clear c49
  try clear hcz21_0
  try clear hcz21_1
  try clear hcz21_2
  try clear hcz21_3
  try clear hcz21_4
  try clear hcz24_0
  try clear hcz24_1
  try clear hcz24_2
  try clear hcz24_3
  try clear hcz24_4
  try clear hcz24_5
  try clear hcz24_6
  try clear hcz24_7
  try clear hcz24_8
  try clear hcz24_9
  try clear hcz26_0
  try clear hcz26_1
  try clear hcz26_2
  try clear hcz26_3
  try clear hcz26_4
  try clear hcz26_5
  try clear hcz26_6
  try clear hcz26_7
  try clear hcz26_8
  try clear hcz26_9
  try clear hcz28_0
  try clear hcz28_1
  try clear hcz33_0
  try clear hcz33_1
  try clear hcz33_2
  try clear hcz33_3
  try clear hcz33_4
  try clear hcz36_0
  try clear hcz36_1
  try clear hcz36_2
  try clear hcz36_3
  try clear hcz36_4
  try clear hcz36_5
  try clear hcz36_6
  try clear hcz36_7
  try clear hcz36_8
  try clear hcz36_9
  try clear hcz38_0
  try clear hcz38_1
  try clear hcz38_2
  try clear hcz38_3
  try clear hcz38_4
  try clear hcz38_5
  try clear hcz38_6
  try clear hcz38_7
  try clear hcz38_8
  try clear hcz38_9
  try clear hcz40_0
  try clear hcz40_1
  try clear hcz45_0
  try clear hcz45_1
  try clear hcz45_2
  try clear hcz45_3
  try clear hcz45_4
  try clear hcz48_0
  try clear hcz48_1
  try clear hcz48_2
  try clear hcz48_3
  try clear hcz48_4
  try clear hcz48_5
  try clear hcz48_6
  try clear hcz48_7
  try clear hcz48_8
  try clear hcz48_9
  try clear hcz50_0
  try clear hcz50_1
  try clear hcz50_2
  try clear hcz50_3
  try clear hcz50_4
  try clear hcz50_5
  try clear hcz50_6
  try clear hcz50_7
  try clear hcz50_8
  try clear hcz50_9
  try clear hfz21_0
  try clear hfz21_1
  try clear hfz21_2
  try clear hfz21_3
  try clear hfz21_4
  try clear hfz24_0
  try clear hfz24_1
  try clear hfz24_2
  try clear hfz24_3
  try clear hfz24_4
  try clear hfz24_5
  try clear hfz24_6
  try clear hfz24_7
  try clear hfz24_8
  try clear hfz24_9
  try clear hfz26_0
  try clear hfz26_1
  try clear hfz26_2
  try clear hfz26_3
  try clear hfz26_4
  try clear hfz26_5
  try clear hfz26_6
  try clear hfz26_7
  try clear hfz26_8
  try clear hfz26_9
  try clear hfz28_0
  try clear hfz28_1
  try clear hfz33_0
  try clear hfz33_1
  try clear hfz33_2
  try clear hfz33_3
  try clear hfz33_4
  try clear hfz36_0
  try clear hfz36_1
  try clear hfz36_2
  try clear hfz36_3
  try clear hfz36_4
  try clear hfz36_5
  try clear hfz36_6
  try clear hfz36_7
  try clear hfz36_8
  try clear hfz36_9
  try clear hfz38_0
  try clear hfz38_1
  try clear hfz38_2
  try clear hfz38_3
  try clear hfz38_4
  try clear hfz38_5
  try clear hfz38_6
  try clear hfz38_7
  try clear hfz38_8
  try clear hfz38_9
  try clear hfz40_0
  try clear hfz40_1
  try clear hfz45_0
  try clear hfz45_1
  try clear hfz45_2
  try clear hfz45_3
  try clear hfz45_4
  try clear hfz48_0
  try clear hfz48_1
  try clear hfz48_2
  try clear hfz48_3
  try clear hfz48_4
  try clear hfz48_5
  try clear hfz48_6
  try clear hfz48_7
  try clear hfz48_8
  try clear hfz48_9
  try clear hfz50_0
  try clear hfz50_1
  try clear hfz50_2
  try clear hfz50_3
  try clear hfz50_4
  try clear hfz50_5
  try clear hfz50_6
  try clear hfz50_7
  try clear hfz50_8
  try clear hfz50_9
  obtain ⟨kq, x31_4, rfl, HA, HJ4, BK198, BK199, BK200, BK201, HB⟩ := hcut
  cases kq with
  | zero => exact absurd HA.out (by simp [billiardlaw16_ImpulseFrames.j0])
  | succ kj4 =>
   have H := HA.out
   clear HA
   simp only [billiardlaw16_ImpulseFrames.j0] at H
   by_cases c52 : x31_4 = true
   ·subst c52
    have H1 : ((billiardlaw16_awake.f kj4).bind fun t206 => (some t206)) = some r := by rw [if_pos rfl] at H; exact H
    clear H
    have H := H1
    clear H1
    replace H := Option.bind_eq_some_iff.mp H
    obtain ⟨t206, A530, H⟩ := H
    replace H : (some t206) = some r := H
    have A53 := aM A530
    clear A530
    obtain rfl := Option.some.inj H
    go_wp2_with (first | ((with_reducible refine gate_callee (f := 8) rfl ?_); refine goesL_ (some 32) rfl rfl Try.func8 (by kernel_rfl) rfl #[] rfl (by (try simp only [List.map_toArray, List.map_cons, List.map_nil]); first | done | rfl | (simp only [List.length_drop, List.length_take]; rfl)) ?_; (with_reducible refine (billiardlaw16_awake.calls kj4  t206 _ A53.out).mono ?_); rintro e w54 ⟨rfl, hb⟩; refine ⟨_, rfl, ?_⟩; have n0_ := aM (bB (by (with_reducible repeat first | apply bN | apply bD | apply bA); exact BK198.out) hb); have n1_ := aM (bB (by (with_reducible repeat first | apply bN | apply bD | apply bA); exact BK199.out) hb); have n2_ := aM (bB (by (with_reducible repeat first | apply bN | apply bD | apply bA); exact BK200.out) hb); have n3_ := aM (bB (by (with_reducible repeat first | apply bN | apply bD | apply bA); exact BK201.out) hb); have n4_ := aM (lT (by repeat (first | (with_reducible first | exact HB.out | apply lA | apply lN | apply lD | refine lS ?_ GE198.out | refine lS ?_ GE199.out | refine lS ?_ GE200.out | refine lS ?_ GE201.out) | exact HB.out)) hb); clear BK198; clear BK199; clear BK200; clear BK201; clear HB; have BK198 := n0_; have BK199 := n1_; have BK200 := n2_; have BK201 := n3_; have HB := n4_; clear n0_ n1_ n2_ n3_ n4_; (try clear hb); (try clear hb2); (try clear hk); (try clear hi)))
    go_ret
    exact ⟨by first | rfl | (simp [errW_none, errW_some] <;> rfl) | (simp [*, errW_none, errW_some] <;> rfl), by repeat (first | (with_reducible first | exact HB.out | apply lA | apply lN | apply lD | refine lS ?_ GE198.out | refine lS ?_ GE199.out | refine lS ?_ GE200.out | refine lS ?_ GE201.out) | exact HB.out)⟩
   ·replace c52 := Bool.eq_false_iff.mpr c52
    subst c52
    have H1 : ((billiardref16_Right.f kj4 a0_0 a0_1 a0_2 a0_3 a0_4 a1_0 a1_1 a1_2 a1_3 a1_4 a1_5 a1_6 a1_7 (wrap32 (a1_8 + a3_0)) (wrap32 (a1_9 + a3_1)) a2_0 a2_1 a2_2 a2_3 a2_4 a2_5 a2_6 a2_7 (wrap32 (a2_8 + a3_0)) (wrap32 (a2_9 + a3_1))).bind fun t209 => (if t209 = true then ((impulse_Approach.f a0_0 a0_1 a0_2 a0_3 a0_4 a1_0 a1_1 a1_2 a1_3 a1_4 a1_5 a1_6 a1_7 (wrap32 (a1_8 + a3_0)) (wrap32 (a1_9 + a3_1)) a2_0 a2_1 a2_2 a2_3 a2_4 a2_5 a2_6 a2_7 (wrap32 (a2_8 + a3_0)) (wrap32 (a2_9 + a3_1))).bind fun t210 => ((impulse_Approach.f a0_0 a0_1 a0_2 a0_3 a0_4 a1_0 a1_1 a1_2 a1_3 a1_4 a1_5 a1_6 a1_7 a1_8 a1_9 a2_0 a2_1 a2_2 a2_3 a2_4 a2_5 a2_6 a2_7 a2_8 a2_9).bind fun t211 => (if t210 = t211 then ((impulse_Strength.f kj4 a0_0 a0_1 a0_2 a0_3 a0_4 a1_0 a1_1 a1_2 a1_3 a1_4 a1_5 a1_6 a1_7 (wrap32 (a1_8 + a3_0)) (wrap32 (a1_9 + a3_1)) a2_0 a2_1 a2_2 a2_3 a2_4 a2_5 a2_6 a2_7 (wrap32 (a2_8 + a3_0)) (wrap32 (a2_9 + a3_1))).bind fun t212 => ((impulse_Strength.f kj4 a0_0 a0_1 a0_2 a0_3 a0_4 a1_0 a1_1 a1_2 a1_3 a1_4 a1_5 a1_6 a1_7 a1_8 a1_9 a2_0 a2_1 a2_2 a2_3 a2_4 a2_5 a2_6 a2_7 a2_8 a2_9).bind fun t213 => (some (t212 == t213)))) else (some false)))) else (some true))) = some r := by rw [if_neg (show ¬ (false = true) by decide)] at H; exact H
    clear H
    have H := H1
    clear H1
    replace H := Option.bind_eq_some_iff.mp H
    obtain ⟨t209, A550, H⟩ := H
    replace H : (if t209 = true then ((impulse_Approach.f a0_0 a0_1 a0_2 a0_3 a0_4 a1_0 a1_1 a1_2 a1_3 a1_4 a1_5 a1_6 a1_7 (wrap32 (a1_8 + a3_0)) (wrap32 (a1_9 + a3_1)) a2_0 a2_1 a2_2 a2_3 a2_4 a2_5 a2_6 a2_7 (wrap32 (a2_8 + a3_0)) (wrap32 (a2_9 + a3_1))).bind fun t210 => ((impulse_Approach.f a0_0 a0_1 a0_2 a0_3 a0_4 a1_0 a1_1 a1_2 a1_3 a1_4 a1_5 a1_6 a1_7 a1_8 a1_9 a2_0 a2_1 a2_2 a2_3 a2_4 a2_5 a2_6 a2_7 a2_8 a2_9).bind fun t211 => (if t210 = t211 then ((impulse_Strength.f kj4 a0_0 a0_1 a0_2 a0_3 a0_4 a1_0 a1_1 a1_2 a1_3 a1_4 a1_5 a1_6 a1_7 (wrap32 (a1_8 + a3_0)) (wrap32 (a1_9 + a3_1)) a2_0 a2_1 a2_2 a2_3 a2_4 a2_5 a2_6 a2_7 (wrap32 (a2_8 + a3_0)) (wrap32 (a2_9 + a3_1))).bind fun t212 => ((impulse_Strength.f kj4 a0_0 a0_1 a0_2 a0_3 a0_4 a1_0 a1_1 a1_2 a1_3 a1_4 a1_5 a1_6 a1_7 a1_8 a1_9 a2_0 a2_1 a2_2 a2_3 a2_4 a2_5 a2_6 a2_7 a2_8 a2_9).bind fun t213 => (some (t212 == t213)))) else (some false)))) else (some true)) = some r := H
    have A55 := aM A550
    clear A550
    by_cases c56 : t209 = true
    ·subst c56
     have H1 : ((impulse_Approach.f a0_0 a0_1 a0_2 a0_3 a0_4 a1_0 a1_1 a1_2 a1_3 a1_4 a1_5 a1_6 a1_7 (wrap32 (a1_8 + a3_0)) (wrap32 (a1_9 + a3_1)) a2_0 a2_1 a2_2 a2_3 a2_4 a2_5 a2_6 a2_7 (wrap32 (a2_8 + a3_0)) (wrap32 (a2_9 + a3_1))).bind fun t210 => ((impulse_Approach.f a0_0 a0_1 a0_2 a0_3 a0_4 a1_0 a1_1 a1_2 a1_3 a1_4 a1_5 a1_6 a1_7 a1_8 a1_9 a2_0 a2_1 a2_2 a2_3 a2_4 a2_5 a2_6 a2_7 a2_8 a2_9).bind fun t211 => (if t210 = t211 then ((impulse_Strength.f kj4 a0_0 a0_1 a0_2 a0_3 a0_4 a1_0 a1_1 a1_2 a1_3 a1_4 a1_5 a1_6 a1_7 (wrap32 (a1_8 + a3_0)) (wrap32 (a1_9 + a3_1)) a2_0 a2_1 a2_2 a2_3 a2_4 a2_5 a2_6 a2_7 (wrap32 (a2_8 + a3_0)) (wrap32 (a2_9 + a3_1))).bind fun t212 => ((impulse_Strength.f kj4 a0_0 a0_1 a0_2 a0_3 a0_4 a1_0 a1_1 a1_2 a1_3 a1_4 a1_5 a1_6 a1_7 a1_8 a1_9 a2_0 a2_1 a2_2 a2_3 a2_4 a2_5 a2_6 a2_7 a2_8 a2_9).bind fun t213 => (some (t212 == t213)))) else (some false)))) = some r := by rw [if_pos rfl] at H; exact H
     clear H
     have H := H1
     clear H1
     replace H := Option.bind_eq_some_iff.mp H
     obtain ⟨t210, A570, H⟩ := H
     replace H : ((impulse_Approach.f a0_0 a0_1 a0_2 a0_3 a0_4 a1_0 a1_1 a1_2 a1_3 a1_4 a1_5 a1_6 a1_7 a1_8 a1_9 a2_0 a2_1 a2_2 a2_3 a2_4 a2_5 a2_6 a2_7 a2_8 a2_9).bind fun t211 => (if t210 = t211 then ((impulse_Strength.f kj4 a0_0 a0_1 a0_2 a0_3 a0_4 a1_0 a1_1 a1_2 a1_3 a1_4 a1_5 a1_6 a1_7 (wrap32 (a1_8 + a3_0)) (wrap32 (a1_9 + a3_1)) a2_0 a2_1 a2_2 a2_3 a2_4 a2_5 a2_6 a2_7 (wrap32 (a2_8 + a3_0)) (wrap32 (a2_9 + a3_1))).bind fun t212 => ((impulse_Strength.f kj4 a0_0 a0_1 a0_2 a0_3 a0_4 a1_0 a1_1 a1_2 a1_3 a1_4 a1_5 a1_6 a1_7 a1_8 a1_9 a2_0 a2_1 a2_2 a2_3 a2_4 a2_5 a2_6 a2_7 a2_8 a2_9).bind fun t213 => (some (t212 == t213)))) else (some false))) = some r := H
     have A57 := aM A570
     clear A570
     replace H := Option.bind_eq_some_iff.mp H
     obtain ⟨t211, A580, H⟩ := H
     replace H : (if t210 = t211 then ((impulse_Strength.f kj4 a0_0 a0_1 a0_2 a0_3 a0_4 a1_0 a1_1 a1_2 a1_3 a1_4 a1_5 a1_6 a1_7 (wrap32 (a1_8 + a3_0)) (wrap32 (a1_9 + a3_1)) a2_0 a2_1 a2_2 a2_3 a2_4 a2_5 a2_6 a2_7 (wrap32 (a2_8 + a3_0)) (wrap32 (a2_9 + a3_1))).bind fun t212 => ((impulse_Strength.f kj4 a0_0 a0_1 a0_2 a0_3 a0_4 a1_0 a1_1 a1_2 a1_3 a1_4 a1_5 a1_6 a1_7 a1_8 a1_9 a2_0 a2_1 a2_2 a2_3 a2_4 a2_5 a2_6 a2_7 a2_8 a2_9).bind fun t213 => (some (t212 == t213)))) else (some false)) = some r := H
     have A58 := aM A580
     clear A580
     by_cases c59 : t210 = t211
     ·rw [if_pos c59] at H
      have c59b0 : (t210 == t211) = true := beq_iff_eq.mpr c59
      have c59b1 : (t210 != t211) = false := bne_eq_false_iff_eq.mpr c59
      clear c59
      replace H := Option.bind_eq_some_iff.mp H
      obtain ⟨t212, A600, H⟩ := H
      replace H : ((impulse_Strength.f kj4 a0_0 a0_1 a0_2 a0_3 a0_4 a1_0 a1_1 a1_2 a1_3 a1_4 a1_5 a1_6 a1_7 a1_8 a1_9 a2_0 a2_1 a2_2 a2_3 a2_4 a2_5 a2_6 a2_7 a2_8 a2_9).bind fun t213 => (some (t212 == t213))) = some r := H
      have A60 := aM A600
      clear A600
      replace H := Option.bind_eq_some_iff.mp H
      obtain ⟨t213, A610, H⟩ := H
      replace H : (some (t212 == t213)) = some r := H
      have A61 := aM A610
      clear A610
      obtain rfl := Option.some.inj H
      try go_wp2
      have n0_ := aM (bD BK198.out)
      have n1_ := aM (bD BK199.out)
      have n2_ := aM (bD BK200.out)
      have n3_ := aM (bD BK201.out)
      have n4_ := aM (lD HB.out)
      clear BK198
      clear BK199
      clear BK200
      clear BK201
      clear HB
      have BK198 := n0_
      have BK199 := n1_
      have BK200 := n2_
      have BK201 := n3_
      have HB := n4_
      clear n0_ n1_ n2_ n3_ n4_
      refine start_ (n := 6) (S := fun w' => w'.cell? ⟨b199, 0, none⟩ = some (.int .u32 a1_0) ∧ w'.cell? ⟨b199, 1, none⟩ = some (.int .i32 a1_1) ∧ w'.cell? ⟨b199, 2, none⟩ = some (.int .i32 a1_2) ∧ w'.cell? ⟨b199, 3, none⟩ = some (.int .i32 a1_3) ∧ w'.cell? ⟨b199, 4, none⟩ = some (.int .i32 a1_4) ∧ w'.cell? ⟨b199, 5, none⟩ = some (.int .i32 a1_5) ∧ w'.cell? ⟨b199, 6, none⟩ = some (.int .i32 a1_6) ∧ w'.cell? ⟨b199, 7, none⟩ = some (.int .i32 a1_7) ∧ w'.cell? ⟨b199, 8, none⟩ = some (.int .i32 a1_8) ∧ w'.cell? ⟨b199, 9, none⟩ = some (.int .i32 a1_9) ∧ w'.cell? ⟨b200, 0, none⟩ = some (.int .u32 a2_0) ∧ w'.cell? ⟨b200, 1, none⟩ = some (.int .i32 a2_1) ∧ w'.cell? ⟨b200, 2, none⟩ = some (.int .i32 a2_2) ∧ w'.cell? ⟨b200, 3, none⟩ = some (.int .i32 a2_3) ∧ w'.cell? ⟨b200, 4, none⟩ = some (.int .i32 a2_4) ∧ w'.cell? ⟨b200, 5, none⟩ = some (.int .i32 a2_5) ∧ w'.cell? ⟨b200, 6, none⟩ = some (.int .i32 a2_6) ∧ w'.cell? ⟨b200, 7, none⟩ = some (.int .i32 a2_7) ∧ w'.cell? ⟨b200, 8, none⟩ = some (.int .i32 a2_8) ∧ w'.cell? ⟨b200, 9, none⟩ = some (.int .i32 a2_9)) (ds := []) #[F,F,F,F,F,F] (by kernel_rfl) rfl rfl ⟨(bC BK199.out 0).trans rfl, (bC BK199.out 1).trans rfl, (bC BK199.out 2).trans rfl, (bC BK199.out 3).trans rfl, (bC BK199.out 4).trans rfl, (bC BK199.out 5).trans rfl, (bC BK199.out 6).trans rfl, (bC BK199.out 7).trans rfl, (bC BK199.out 8).trans rfl, (bC BK199.out 9).trans rfl, (bC BK200.out 0).trans rfl, (bC BK200.out 1).trans rfl, (bC BK200.out 2).trans rfl, (bC BK200.out 3).trans rfl, (bC BK200.out 4).trans rfl, (bC BK200.out 5).trans rfl, (bC BK200.out 6).trans rfl, (bC BK200.out 7).trans rfl, (bC BK200.out 8).trans rfl, (bC BK200.out 9).trans rfl⟩ (fun hHeld => ?_)
      generalize wc.drew = w62 at BK198 BK199 BK200 BK201 HB hHeld ⊢
      refine take_ (i := 0) (N := some 33) (v := ?_) (a' := ?_) #[T,F,F,F,F,F] rfl rfl (by kernel_rfl) (fun _ _ _ h => h) (Or.inl ⟨by rfl, ?_⟩) hHeld ?_ ?_
      rotate_left
      ·rintro w' ⟨s0, s1, s2, s3, s4, s5, s6, s7, s8, s9, s10, s11, s12, s13, s14, s15, s16, s17, s18, s19⟩
       go_simp
       with_reducible rfl
      rotate_left
      ·simp only [Act.put, sA, sB, sC, i64_w, i32_w]
       rfl
      refine take_ (i := 1) (N := some 34) (v := ?_) (a' := ?_) #[T,T,F,F,F,F] rfl rfl (by kernel_rfl) (fun _ _ _ h => h) (Or.inl ⟨by rfl, ?_⟩) hHeld ?_ ?_
      rotate_left
      ·rintro w' ⟨s0, s1, s2, s3, s4, s5, s6, s7, s8, s9, s10, s11, s12, s13, s14, s15, s16, s17, s18, s19⟩
       go_simp
       with_reducible rfl
      rotate_left
      ·simp only [Act.put, sA, sB, sC, i64_w, i32_w]
       rfl
      refine join_ (σ := Nat × Nat) 2 #[T,T,T,T,F,F] (fun s_ => [(9, .pointer (some ⟨s_.1, 0, none⟩)), (10, .pointer (some ⟨s_.2, 0, none⟩))]) (fun s_ w' => (w'.cell? ⟨b199, 0, none⟩ = some (.int .u32 a1_0) ∧ w'.cell? ⟨b199, 1, none⟩ = some (.int .i32 a1_1) ∧ w'.cell? ⟨b199, 2, none⟩ = some (.int .i32 a1_2) ∧ w'.cell? ⟨b199, 3, none⟩ = some (.int .i32 a1_3) ∧ w'.cell? ⟨b199, 4, none⟩ = some (.int .i32 a1_4) ∧ w'.cell? ⟨b199, 5, none⟩ = some (.int .i32 a1_5) ∧ w'.cell? ⟨b199, 6, none⟩ = some (.int .i32 a1_6) ∧ w'.cell? ⟨b199, 7, none⟩ = some (.int .i32 a1_7) ∧ w'.cell? ⟨b199, 8, none⟩ = some (.int .i32 a1_8) ∧ w'.cell? ⟨b199, 9, none⟩ = some (.int .i32 a1_9) ∧ w'.cell? ⟨b200, 0, none⟩ = some (.int .u32 a2_0) ∧ w'.cell? ⟨b200, 1, none⟩ = some (.int .i32 a2_1) ∧ w'.cell? ⟨b200, 2, none⟩ = some (.int .i32 a2_2) ∧ w'.cell? ⟨b200, 3, none⟩ = some (.int .i32 a2_3) ∧ w'.cell? ⟨b200, 4, none⟩ = some (.int .i32 a2_4) ∧ w'.cell? ⟨b200, 5, none⟩ = some (.int .i32 a2_5) ∧ w'.cell? ⟨b200, 6, none⟩ = some (.int .i32 a2_6) ∧ w'.cell? ⟨b200, 7, none⟩ = some (.int .i32 a2_7) ∧ w'.cell? ⟨b200, 8, none⟩ = some (.int .i32 a2_8) ∧ w'.cell? ⟨b200, 9, none⟩ = some (.int .i32 a2_9)) ∧ (w'.heap[b198]? = some (.cells #[.int .u32 a0_0, .int .u32 a0_1, .int .i32 a0_2, .int .i32 a0_3, .int .i32 a0_4] 28 (0, 0))) ∧ (w'.heap[b199]? = some (.cells #[.int .u32 a1_0, .int .i32 a1_1, .int .i32 a1_2, .int .i32 a1_3, .int .i32 a1_4, .int .i32 a1_5, .int .i32 a1_6, .int .i32 a1_7, .int .i32 a1_8, .int .i32 a1_9] 30 (0, 0))) ∧ (w'.heap[b200]? = some (.cells #[.int .u32 a2_0, .int .i32 a2_1, .int .i32 a2_2, .int .i32 a2_3, .int .i32 a2_4, .int .i32 a2_5, .int .i32 a2_6, .int .i32 a2_7, .int .i32 a2_8, .int .i32 a2_9] 30 (0, 0))) ∧ (w'.heap[b201]? = some (.cells #[.int .i32 a3_0, .int .i32 a3_1] 26 (0, 0))) ∧ (w'.heap[s_.1]? = some (.cells #[.int .u32 0, .int .i32 0, .int .i32 0, .int .i32 0, .int .i32 0, .int .i32 0, .int .i32 0, .int .i32 0, .int .i32 0, .int .i32 0] 30 (0, 0))) ∧ (w'.heap[s_.2]? = some (.cells #[.int .u32 0, .int .i32 0, .int .i32 0, .int .i32 0, .int .i32 0, .int .i32 0, .int .i32 0, .int .i32 0, .int .i32 0, .int .i32 0] 30 (0, 0))) ∧ (w.heap.size ≤ s_.1) ∧ (w.heap.size ≤ s_.1) ∧ (b198 ≠ s_.1) ∧ (s_.1 ≠ b198) ∧ (b199 ≠ s_.1) ∧ (s_.1 ≠ b199) ∧ (b200 ≠ s_.1) ∧ (s_.1 ≠ b200) ∧ (b201 ≠ s_.1) ∧ (s_.1 ≠ b201) ∧ (s_.2 ≠ s_.1) ∧ (s_.1 ≠ s_.2) ∧ (w.heap.size ≤ s_.2) ∧ (w.heap.size ≤ s_.2) ∧ (b198 ≠ s_.2) ∧ (s_.2 ≠ b198) ∧ (b199 ≠ s_.2) ∧ (s_.2 ≠ b199) ∧ (b200 ≠ s_.2) ∧ (s_.2 ≠ b200) ∧ (b201 ≠ s_.2) ∧ (s_.2 ≠ b201) ∧ (Below w.heap.size w w')) ?_ ?_
      rotate_left
      ·intro hCont
       refine two_ (i := 2) (j := 3) (Ni := some 9) (Nj := some 10) #[T,T,T,F,F,F] #[T,T,F,T,F,F] rfl rfl rfl rfl (by kernel_rfl) (by decide) (by decide) (fun K hK => ?_) (fun K hK => ?_)
       ·skip
        refine box_step ?hg (N := 9) ?hd (cs := #[.int .u32 0, .int .i32 0, .int .i32 0, .int .i32 0, .int .i32 0, .int .i32 0, .int .i32 0, .int .i32 0, .int .i32 0, .int .i32 0]) (t := 30) ?hr ?_; (case hd => rfl); (case hg => rfl); (case hr => first | (go_simp; done) | (go_simp; rfl))
        intro b207 hg w63 hbox hb
        have n0_ := aM (bB (by (with_reducible repeat first | apply bN | apply bD | apply bA); exact BK198.out) hb)
        have n1_ := aM (bB (by (with_reducible repeat first | apply bN | apply bD | apply bA); exact BK199.out) hb)
        have n2_ := aM (bB (by (with_reducible repeat first | apply bN | apply bD | apply bA); exact BK200.out) hb)
        have n3_ := aM (bB (by (with_reducible repeat first | apply bN | apply bD | apply bA); exact BK201.out) hb)
        have n4_ := aM (lT (by repeat (first | (with_reducible first | exact HB.out | apply lA | apply lN | apply lD | refine lS ?_ GE198.out | refine lS ?_ GE199.out | refine lS ?_ GE200.out | refine lS ?_ GE201.out) | exact HB.out)) hb)
        have n5_ := aM (hbox)
        have n6_ := aM ((by rw [hg]; exact (lZ (by repeat (first | (with_reducible first | exact HB.out | apply lA | apply lN | apply lD | refine lS ?_ GE198.out | refine lS ?_ GE199.out | refine lS ?_ GE200.out | refine lS ?_ GE201.out) | exact HB.out))) : w.heap.size ≤ b207))
        have n7_ := aM ((by rw [hg]; exact (lZ (by repeat (first | (with_reducible first | exact HB.out | apply lA | apply lN | apply lD | refine lS ?_ GE198.out | refine lS ?_ GE199.out | refine lS ?_ GE200.out | refine lS ?_ GE201.out) | exact HB.out))) : w.heap.size ≤ b207))
        have n8_ := aM ((by rw [hg]; exact Nat.ne_of_lt (bL (g := b198) (by (with_reducible repeat first | apply bN | apply bD | apply bA); exact BK198.out)) : b198 ≠ b207))
        have n9_ := aM ((by rw [hg]; exact Nat.ne_of_gt (bL (g := b198) (by (with_reducible repeat first | apply bN | apply bD | apply bA); exact BK198.out)) : b207 ≠ b198))
        have n10_ := aM ((by rw [hg]; exact Nat.ne_of_lt (bL (g := b199) (by (with_reducible repeat first | apply bN | apply bD | apply bA); exact BK199.out)) : b199 ≠ b207))
        have n11_ := aM ((by rw [hg]; exact Nat.ne_of_gt (bL (g := b199) (by (with_reducible repeat first | apply bN | apply bD | apply bA); exact BK199.out)) : b207 ≠ b199))
        have n12_ := aM ((by rw [hg]; exact Nat.ne_of_lt (bL (g := b200) (by (with_reducible repeat first | apply bN | apply bD | apply bA); exact BK200.out)) : b200 ≠ b207))
        have n13_ := aM ((by rw [hg]; exact Nat.ne_of_gt (bL (g := b200) (by (with_reducible repeat first | apply bN | apply bD | apply bA); exact BK200.out)) : b207 ≠ b200))
        have n14_ := aM ((by rw [hg]; exact Nat.ne_of_lt (bL (g := b201) (by (with_reducible repeat first | apply bN | apply bD | apply bA); exact BK201.out)) : b201 ≠ b207))
        have n15_ := aM ((by rw [hg]; exact Nat.ne_of_gt (bL (g := b201) (by (with_reducible repeat first | apply bN | apply bD | apply bA); exact BK201.out)) : b207 ≠ b201))
        clear BK198
        clear BK199
        clear BK200
        clear BK201
        clear HB
        have BK198 := n0_
        have BK199 := n1_
        have BK200 := n2_
        have BK201 := n3_
        have HB := n4_
        have BK207 := n5_
        have GW207 := n6_
        have GE207 := n7_
        have N12_ := n8_
        have N13_ := n9_
        have N14_ := n10_
        have N15_ := n11_
        have N16_ := n12_
        have N17_ := n13_
        have N18_ := n14_
        have N19_ := n15_
        clear n0_ n1_ n2_ n3_ n4_ n5_ n6_ n7_ n8_ n9_ n10_ n11_ n12_ n13_ n14_ n15_
        clear hb hbox hg
        refine hK.out _ _ ⟨(bC BK199.out 0).trans rfl, (bC BK199.out 1).trans rfl, (bC BK199.out 2).trans rfl, (bC BK199.out 3).trans rfl, (bC BK199.out 4).trans rfl, (bC BK199.out 5).trans rfl, (bC BK199.out 6).trans rfl, (bC BK199.out 7).trans rfl, (bC BK199.out 8).trans rfl, (bC BK199.out 9).trans rfl, (bC BK200.out 0).trans rfl, (bC BK200.out 1).trans rfl, (bC BK200.out 2).trans rfl, (bC BK200.out 3).trans rfl, (bC BK200.out 4).trans rfl, (bC BK200.out 5).trans rfl, (bC BK200.out 6).trans rfl, (bC BK200.out 7).trans rfl, (bC BK200.out 8).trans rfl, (bC BK200.out 9).trans rfl⟩ (fun hHeld => ?_)
        clear hK K
        refine norm_ (a' := ?_) ?_ ?_
        rotate_left
        ·show Act.put _ (some 9) _ = _
         simp only [Act.put, sA, sB, sC, i64_w, i32_w]
         rfl
        refine one_ (i := 3) (N := some 10) #[T,T,T,T,F,F] rfl rfl (by kernel_rfl) (by decide) (fun K hK => ?_)
        refine box_step ?hg (N := 10) ?hd (cs := #[.int .u32 0, .int .i32 0, .int .i32 0, .int .i32 0, .int .i32 0, .int .i32 0, .int .i32 0, .int .i32 0, .int .i32 0, .int .i32 0]) (t := 30) ?hr ?_; (case hd => rfl); (case hg => rfl); (case hr => first | (go_simp; done) | (go_simp; rfl))
        intro b208 hg w64 hbox hb
        have n0_ := aM (bB (by (with_reducible repeat first | apply bN | apply bD | apply bA); exact BK198.out) hb)
        have n1_ := aM (bB (by (with_reducible repeat first | apply bN | apply bD | apply bA); exact BK199.out) hb)
        have n2_ := aM (bB (by (with_reducible repeat first | apply bN | apply bD | apply bA); exact BK200.out) hb)
        have n3_ := aM (bB (by (with_reducible repeat first | apply bN | apply bD | apply bA); exact BK201.out) hb)
        have n4_ := aM (bB (by (with_reducible repeat first | apply bN | apply bD | apply bA); exact BK207.out) hb)
        have n5_ := aM (lT (by repeat (first | (with_reducible first | exact HB.out | apply lA | apply lN | apply lD | refine lS ?_ GE198.out | refine lS ?_ GE199.out | refine lS ?_ GE200.out | refine lS ?_ GE201.out | refine lS ?_ GE207.out) | exact HB.out)) hb)
        have n6_ := aM (hbox)
        have n7_ := aM ((by rw [hg]; exact (lZ (by repeat (first | (with_reducible first | exact HB.out | apply lA | apply lN | apply lD | refine lS ?_ GE198.out | refine lS ?_ GE199.out | refine lS ?_ GE200.out | refine lS ?_ GE201.out | refine lS ?_ GE207.out) | exact HB.out))) : w.heap.size ≤ b208))
        have n8_ := aM ((by rw [hg]; exact (lZ (by repeat (first | (with_reducible first | exact HB.out | apply lA | apply lN | apply lD | refine lS ?_ GE198.out | refine lS ?_ GE199.out | refine lS ?_ GE200.out | refine lS ?_ GE201.out | refine lS ?_ GE207.out) | exact HB.out))) : w.heap.size ≤ b208))
        have n9_ := aM ((by rw [hg]; exact Nat.ne_of_lt (bL (g := b198) (by (with_reducible repeat first | apply bN | apply bD | apply bA); exact BK198.out)) : b198 ≠ b208))
        have n10_ := aM ((by rw [hg]; exact Nat.ne_of_gt (bL (g := b198) (by (with_reducible repeat first | apply bN | apply bD | apply bA); exact BK198.out)) : b208 ≠ b198))
        have n11_ := aM ((by rw [hg]; exact Nat.ne_of_lt (bL (g := b199) (by (with_reducible repeat first | apply bN | apply bD | apply bA); exact BK199.out)) : b199 ≠ b208))
        have n12_ := aM ((by rw [hg]; exact Nat.ne_of_gt (bL (g := b199) (by (with_reducible repeat first | apply bN | apply bD | apply bA); exact BK199.out)) : b208 ≠ b199))
        have n13_ := aM ((by rw [hg]; exact Nat.ne_of_lt (bL (g := b200) (by (with_reducible repeat first | apply bN | apply bD | apply bA); exact BK200.out)) : b200 ≠ b208))
        have n14_ := aM ((by rw [hg]; exact Nat.ne_of_gt (bL (g := b200) (by (with_reducible repeat first | apply bN | apply bD | apply bA); exact BK200.out)) : b208 ≠ b200))
        have n15_ := aM ((by rw [hg]; exact Nat.ne_of_lt (bL (g := b201) (by (with_reducible repeat first | apply bN | apply bD | apply bA); exact BK201.out)) : b201 ≠ b208))
        have n16_ := aM ((by rw [hg]; exact Nat.ne_of_gt (bL (g := b201) (by (with_reducible repeat first | apply bN | apply bD | apply bA); exact BK201.out)) : b208 ≠ b201))
        have n17_ := aM ((by rw [hg]; exact Nat.ne_of_lt (bL (g := b207) (by (with_reducible repeat first | apply bN | apply bD | apply bA); exact BK207.out)) : b207 ≠ b208))
        have n18_ := aM ((by rw [hg]; exact Nat.ne_of_gt (bL (g := b207) (by (with_reducible repeat first | apply bN | apply bD | apply bA); exact BK207.out)) : b208 ≠ b207))
        clear BK198
        clear BK199
        clear BK200
        clear BK201
        clear BK207
        clear HB
        have BK198 := n0_
        have BK199 := n1_
        have BK200 := n2_
        have BK201 := n3_
        have BK207 := n4_
        have HB := n5_
        have BK208 := n6_
        have GW208 := n7_
        have GE208 := n8_
        have N20_ := n9_
        have N21_ := n10_
        have N22_ := n11_
        have N23_ := n12_
        have N24_ := n13_
        have N25_ := n14_
        have N26_ := n15_
        have N27_ := n16_
        have N28_ := n17_
        have N29_ := n18_
        clear n0_ n1_ n2_ n3_ n4_ n5_ n6_ n7_ n8_ n9_ n10_ n11_ n12_ n13_ n14_ n15_ n16_ n17_ n18_
        clear hb hbox hg
        refine hK.out _ _ ⟨(bC BK199.out 0).trans rfl, (bC BK199.out 1).trans rfl, (bC BK199.out 2).trans rfl, (bC BK199.out 3).trans rfl, (bC BK199.out 4).trans rfl, (bC BK199.out 5).trans rfl, (bC BK199.out 6).trans rfl, (bC BK199.out 7).trans rfl, (bC BK199.out 8).trans rfl, (bC BK199.out 9).trans rfl, (bC BK200.out 0).trans rfl, (bC BK200.out 1).trans rfl, (bC BK200.out 2).trans rfl, (bC BK200.out 3).trans rfl, (bC BK200.out 4).trans rfl, (bC BK200.out 5).trans rfl, (bC BK200.out 6).trans rfl, (bC BK200.out 7).trans rfl, (bC BK200.out 8).trans rfl, (bC BK200.out 9).trans rfl⟩ (fun hHeld => ?_)
        clear hK K
        refine norm_ (a' := ?_) ?_ ?_
        rotate_left
        ·show Act.put _ (some 10) _ = _
         simp only [Act.put, sA, sB, sC, i64_w, i32_w]
         rfl
        exact norm_ (by simp only [putAll, Act.put, sA, sB, sC]) (hCont (b207, b208) _ ⟨hHeld, (by (with_reducible repeat first | apply bN | apply bD | apply bA); exact BK198.out), (by (with_reducible repeat first | apply bN | apply bD | apply bA); exact BK199.out), (by (with_reducible repeat first | apply bN | apply bD | apply bA); exact BK200.out), (by (with_reducible repeat first | apply bN | apply bD | apply bA); exact BK201.out), (by (with_reducible repeat first | apply bN | apply bD | apply bA); exact BK207.out), (by (with_reducible repeat first | apply bN | apply bD | apply bA); exact BK208.out), GW207.out, GE207.out, N12_.out, N13_.out, N14_.out, N15_.out, N16_.out, N17_.out, N18_.out, N19_.out, N29_.out, N28_.out, GW208.out, GE208.out, N20_.out, N21_.out, N22_.out, N23_.out, N24_.out, N25_.out, N26_.out, N27_.out, (by repeat (first | (with_reducible first | exact HB.out | apply lA | apply lN | apply lD | refine lS ?_ GE198.out | refine lS ?_ GE199.out | refine lS ?_ GE200.out | refine lS ?_ GE201.out | refine lS ?_ GE207.out | refine lS ?_ GE208.out) | exact HB.out))⟩)
       ·skip
        refine box_step ?hg (N := 10) ?hd (cs := #[.int .u32 0, .int .i32 0, .int .i32 0, .int .i32 0, .int .i32 0, .int .i32 0, .int .i32 0, .int .i32 0, .int .i32 0, .int .i32 0]) (t := 30) ?hr ?_; (case hd => rfl); (case hg => rfl); (case hr => first | (go_simp; done) | (go_simp; rfl))
        intro b208 hg w63 hbox hb
        have n0_ := aM (bB (by (with_reducible repeat first | apply bN | apply bD | apply bA); exact BK198.out) hb)
        have n1_ := aM (bB (by (with_reducible repeat first | apply bN | apply bD | apply bA); exact BK199.out) hb)
        have n2_ := aM (bB (by (with_reducible repeat first | apply bN | apply bD | apply bA); exact BK200.out) hb)
        have n3_ := aM (bB (by (with_reducible repeat first | apply bN | apply bD | apply bA); exact BK201.out) hb)
        have n4_ := aM (lT (by repeat (first | (with_reducible first | exact HB.out | apply lA | apply lN | apply lD | refine lS ?_ GE198.out | refine lS ?_ GE199.out | refine lS ?_ GE200.out | refine lS ?_ GE201.out) | exact HB.out)) hb)
        have n5_ := aM (hbox)
        have n6_ := aM ((by rw [hg]; exact (lZ (by repeat (first | (with_reducible first | exact HB.out | apply lA | apply lN | apply lD | refine lS ?_ GE198.out | refine lS ?_ GE199.out | refine lS ?_ GE200.out | refine lS ?_ GE201.out) | exact HB.out))) : w.heap.size ≤ b208))
        have n7_ := aM ((by rw [hg]; exact (lZ (by repeat (first | (with_reducible first | exact HB.out | apply lA | apply lN | apply lD | refine lS ?_ GE198.out | refine lS ?_ GE199.out | refine lS ?_ GE200.out | refine lS ?_ GE201.out) | exact HB.out))) : w.heap.size ≤ b208))
        have n8_ := aM ((by rw [hg]; exact Nat.ne_of_lt (bL (g := b198) (by (with_reducible repeat first | apply bN | apply bD | apply bA); exact BK198.out)) : b198 ≠ b208))
        have n9_ := aM ((by rw [hg]; exact Nat.ne_of_gt (bL (g := b198) (by (with_reducible repeat first | apply bN | apply bD | apply bA); exact BK198.out)) : b208 ≠ b198))
        have n10_ := aM ((by rw [hg]; exact Nat.ne_of_lt (bL (g := b199) (by (with_reducible repeat first | apply bN | apply bD | apply bA); exact BK199.out)) : b199 ≠ b208))
        have n11_ := aM ((by rw [hg]; exact Nat.ne_of_gt (bL (g := b199) (by (with_reducible repeat first | apply bN | apply bD | apply bA); exact BK199.out)) : b208 ≠ b199))
        have n12_ := aM ((by rw [hg]; exact Nat.ne_of_lt (bL (g := b200) (by (with_reducible repeat first | apply bN | apply bD | apply bA); exact BK200.out)) : b200 ≠ b208))
        have n13_ := aM ((by rw [hg]; exact Nat.ne_of_gt (bL (g := b200) (by (with_reducible repeat first | apply bN | apply bD | apply bA); exact BK200.out)) : b208 ≠ b200))
        have n14_ := aM ((by rw [hg]; exact Nat.ne_of_lt (bL (g := b201) (by (with_reducible repeat first | apply bN | apply bD | apply bA); exact BK201.out)) : b201 ≠ b208))
        have n15_ := aM ((by rw [hg]; exact Nat.ne_of_gt (bL (g := b201) (by (with_reducible repeat first | apply bN | apply bD | apply bA); exact BK201.out)) : b208 ≠ b201))
        clear BK198
        clear BK199
        clear BK200
        clear BK201
        clear HB
        have BK198 := n0_
        have BK199 := n1_
        have BK200 := n2_
        have BK201 := n3_
        have HB := n4_
        have BK208 := n5_
        have GW208 := n6_
        have GE208 := n7_
        have N20_ := n8_
        have N21_ := n9_
        have N22_ := n10_
        have N23_ := n11_
        have N24_ := n12_
        have N25_ := n13_
        have N26_ := n14_
        have N27_ := n15_
        clear n0_ n1_ n2_ n3_ n4_ n5_ n6_ n7_ n8_ n9_ n10_ n11_ n12_ n13_ n14_ n15_
        clear hb hbox hg
        refine hK.out _ _ ⟨(bC BK199.out 0).trans rfl, (bC BK199.out 1).trans rfl, (bC BK199.out 2).trans rfl, (bC BK199.out 3).trans rfl, (bC BK199.out 4).trans rfl, (bC BK199.out 5).trans rfl, (bC BK199.out 6).trans rfl, (bC BK199.out 7).trans rfl, (bC BK199.out 8).trans rfl, (bC BK199.out 9).trans rfl, (bC BK200.out 0).trans rfl, (bC BK200.out 1).trans rfl, (bC BK200.out 2).trans rfl, (bC BK200.out 3).trans rfl, (bC BK200.out 4).trans rfl, (bC BK200.out 5).trans rfl, (bC BK200.out 6).trans rfl, (bC BK200.out 7).trans rfl, (bC BK200.out 8).trans rfl, (bC BK200.out 9).trans rfl⟩ (fun hHeld => ?_)
        clear hK K
        refine norm_ (a' := ?_) ?_ ?_
        rotate_left
        ·show Act.put _ (some 10) _ = _
         simp only [Act.put, sA, sB, sC, i64_w, i32_w]
         rfl
        refine one_ (i := 2) (N := some 9) #[T,T,T,T,F,F] rfl rfl (by kernel_rfl) (by decide) (fun K hK => ?_)
        refine box_step ?hg (N := 9) ?hd (cs := #[.int .u32 0, .int .i32 0, .int .i32 0, .int .i32 0, .int .i32 0, .int .i32 0, .int .i32 0, .int .i32 0, .int .i32 0, .int .i32 0]) (t := 30) ?hr ?_; (case hd => rfl); (case hg => rfl); (case hr => first | (go_simp; done) | (go_simp; rfl))
        intro b207 hg w64 hbox hb
        have n0_ := aM (bB (by (with_reducible repeat first | apply bN | apply bD | apply bA); exact BK198.out) hb)
        have n1_ := aM (bB (by (with_reducible repeat first | apply bN | apply bD | apply bA); exact BK199.out) hb)
        have n2_ := aM (bB (by (with_reducible repeat first | apply bN | apply bD | apply bA); exact BK200.out) hb)
        have n3_ := aM (bB (by (with_reducible repeat first | apply bN | apply bD | apply bA); exact BK201.out) hb)
        have n4_ := aM (bB (by (with_reducible repeat first | apply bN | apply bD | apply bA); exact BK208.out) hb)
        have n5_ := aM (lT (by repeat (first | (with_reducible first | exact HB.out | apply lA | apply lN | apply lD | refine lS ?_ GE198.out | refine lS ?_ GE199.out | refine lS ?_ GE200.out | refine lS ?_ GE201.out | refine lS ?_ GE208.out) | exact HB.out)) hb)
        have n6_ := aM (hbox)
        have n7_ := aM ((by rw [hg]; exact (lZ (by repeat (first | (with_reducible first | exact HB.out | apply lA | apply lN | apply lD | refine lS ?_ GE198.out | refine lS ?_ GE199.out | refine lS ?_ GE200.out | refine lS ?_ GE201.out | refine lS ?_ GE208.out) | exact HB.out))) : w.heap.size ≤ b207))
        have n8_ := aM ((by rw [hg]; exact (lZ (by repeat (first | (with_reducible first | exact HB.out | apply lA | apply lN | apply lD | refine lS ?_ GE198.out | refine lS ?_ GE199.out | refine lS ?_ GE200.out | refine lS ?_ GE201.out | refine lS ?_ GE208.out) | exact HB.out))) : w.heap.size ≤ b207))
        have n9_ := aM ((by rw [hg]; exact Nat.ne_of_lt (bL (g := b198) (by (with_reducible repeat first | apply bN | apply bD | apply bA); exact BK198.out)) : b198 ≠ b207))
        have n10_ := aM ((by rw [hg]; exact Nat.ne_of_gt (bL (g := b198) (by (with_reducible repeat first | apply bN | apply bD | apply bA); exact BK198.out)) : b207 ≠ b198))
        have n11_ := aM ((by rw [hg]; exact Nat.ne_of_lt (bL (g := b199) (by (with_reducible repeat first | apply bN | apply bD | apply bA); exact BK199.out)) : b199 ≠ b207))
        have n12_ := aM ((by rw [hg]; exact Nat.ne_of_gt (bL (g := b199) (by (with_reducible repeat first | apply bN | apply bD | apply bA); exact BK199.out)) : b207 ≠ b199))
        have n13_ := aM ((by rw [hg]; exact Nat.ne_of_lt (bL (g := b200) (by (with_reducible repeat first | apply bN | apply bD | apply bA); exact BK200.out)) : b200 ≠ b207))
        have n14_ := aM ((by rw [hg]; exact Nat.ne_of_gt (bL (g := b200) (by (with_reducible repeat first | apply bN | apply bD | apply bA); exact BK200.out)) : b207 ≠ b200))
        have n15_ := aM ((by rw [hg]; exact Nat.ne_of_lt (bL (g := b201) (by (with_reducible repeat first | apply bN | apply bD | apply bA); exact BK201.out)) : b201 ≠ b207))
        have n16_ := aM ((by rw [hg]; exact Nat.ne_of_gt (bL (g := b201) (by (with_reducible repeat first | apply bN | apply bD | apply bA); exact BK201.out)) : b207 ≠ b201))
        have n17_ := aM ((by rw [hg]; exact Nat.ne_of_lt (bL (g := b208) (by (with_reducible repeat first | apply bN | apply bD | apply bA); exact BK208.out)) : b208 ≠ b207))
        have n18_ := aM ((by rw [hg]; exact Nat.ne_of_gt (bL (g := b208) (by (with_reducible repeat first | apply bN | apply bD | apply bA); exact BK208.out)) : b207 ≠ b208))
        clear BK198
        clear BK199
        clear BK200
        clear BK201
        clear BK208
        clear HB
        have BK198 := n0_
        have BK199 := n1_
        have BK200 := n2_
        have BK201 := n3_
        have BK208 := n4_
        have HB := n5_
        have BK207 := n6_
        have GW207 := n7_
        have GE207 := n8_
        have N12_ := n9_
        have N13_ := n10_
        have N14_ := n11_
        have N15_ := n12_
        have N16_ := n13_
        have N17_ := n14_
        have N18_ := n15_
        have N19_ := n16_
        have N29_ := n17_
        have N28_ := n18_
        clear n0_ n1_ n2_ n3_ n4_ n5_ n6_ n7_ n8_ n9_ n10_ n11_ n12_ n13_ n14_ n15_ n16_ n17_ n18_
        clear hb hbox hg
        refine hK.out _ _ ⟨(bC BK199.out 0).trans rfl, (bC BK199.out 1).trans rfl, (bC BK199.out 2).trans rfl, (bC BK199.out 3).trans rfl, (bC BK199.out 4).trans rfl, (bC BK199.out 5).trans rfl, (bC BK199.out 6).trans rfl, (bC BK199.out 7).trans rfl, (bC BK199.out 8).trans rfl, (bC BK199.out 9).trans rfl, (bC BK200.out 0).trans rfl, (bC BK200.out 1).trans rfl, (bC BK200.out 2).trans rfl, (bC BK200.out 3).trans rfl, (bC BK200.out 4).trans rfl, (bC BK200.out 5).trans rfl, (bC BK200.out 6).trans rfl, (bC BK200.out 7).trans rfl, (bC BK200.out 8).trans rfl, (bC BK200.out 9).trans rfl⟩ (fun hHeld => ?_)
        clear hK K
        refine norm_ (a' := ?_) ?_ ?_
        rotate_left
        ·show Act.put _ (some 9) _ = _
         simp only [Act.put, sA, sB, sC, i64_w, i32_w]
         rfl
        exact norm_ (by simp only [putAll, Act.put, sA, sB, sC]) (hCont (b207, b208) _ ⟨hHeld, (by (with_reducible repeat first | apply bN | apply bD | apply bA); exact BK198.out), (by (with_reducible repeat first | apply bN | apply bD | apply bA); exact BK199.out), (by (with_reducible repeat first | apply bN | apply bD | apply bA); exact BK200.out), (by (with_reducible repeat first | apply bN | apply bD | apply bA); exact BK201.out), (by (with_reducible repeat first | apply bN | apply bD | apply bA); exact BK207.out), (by (with_reducible repeat first | apply bN | apply bD | apply bA); exact BK208.out), GW207.out, GE207.out, N12_.out, N13_.out, N14_.out, N15_.out, N16_.out, N17_.out, N18_.out, N19_.out, N29_.out, N28_.out, GW208.out, GE208.out, N20_.out, N21_.out, N22_.out, N23_.out, N24_.out, N25_.out, N26_.out, N27_.out, (by repeat (first | (with_reducible first | exact HB.out | apply lA | apply lN | apply lD | refine lS ?_ GE198.out | refine lS ?_ GE199.out | refine lS ?_ GE200.out | refine lS ?_ GE201.out | refine lS ?_ GE208.out | refine lS ?_ GE207.out) | exact HB.out))⟩)
      rintro ⟨b207, b208⟩ w65 ⟨hS_, h0_, h1_, h2_, h3_, h4_, h5_, h6_, h7_, h8_, h9_, h10_, h11_, h12_, h13_, h14_, h15_, h16_, h17_, h18_, h19_, h20_, h21_, h22_, h23_, h24_, h25_, h26_, h27_, h28_⟩
      have n0_ : Aside0 (w65.heap[b198]? = some (.cells #[.int .u32 a0_0, .int .u32 a0_1, .int .i32 a0_2, .int .i32 a0_3, .int .i32 a0_4] 28 (0, 0))) := ⟨h0_⟩
      have n1_ : Aside0 (w65.heap[b199]? = some (.cells #[.int .u32 a1_0, .int .i32 a1_1, .int .i32 a1_2, .int .i32 a1_3, .int .i32 a1_4, .int .i32 a1_5, .int .i32 a1_6, .int .i32 a1_7, .int .i32 a1_8, .int .i32 a1_9] 30 (0, 0))) := ⟨h1_⟩
      have n2_ : Aside0 (w65.heap[b200]? = some (.cells #[.int .u32 a2_0, .int .i32 a2_1, .int .i32 a2_2, .int .i32 a2_3, .int .i32 a2_4, .int .i32 a2_5, .int .i32 a2_6, .int .i32 a2_7, .int .i32 a2_8, .int .i32 a2_9] 30 (0, 0))) := ⟨h2_⟩
      have n3_ : Aside0 (w65.heap[b201]? = some (.cells #[.int .i32 a3_0, .int .i32 a3_1] 26 (0, 0))) := ⟨h3_⟩
      have n4_ : Aside0 (w65.heap[b207]? = some (.cells #[.int .u32 0, .int .i32 0, .int .i32 0, .int .i32 0, .int .i32 0, .int .i32 0, .int .i32 0, .int .i32 0, .int .i32 0, .int .i32 0] 30 (0, 0))) := ⟨h4_⟩
      have n5_ : Aside0 (w65.heap[b208]? = some (.cells #[.int .u32 0, .int .i32 0, .int .i32 0, .int .i32 0, .int .i32 0, .int .i32 0, .int .i32 0, .int .i32 0, .int .i32 0, .int .i32 0] 30 (0, 0))) := ⟨h5_⟩
      have n6_ : Aside0 (w.heap.size ≤ b207) := ⟨h6_⟩
      have n7_ : Aside0 (w.heap.size ≤ b207) := ⟨h7_⟩
      have n8_ : Aside0 (b198 ≠ b207) := ⟨h8_⟩
      have n9_ : Aside0 (b207 ≠ b198) := ⟨h9_⟩
      have n10_ : Aside0 (b199 ≠ b207) := ⟨h10_⟩
      have n11_ : Aside0 (b207 ≠ b199) := ⟨h11_⟩
      have n12_ : Aside0 (b200 ≠ b207) := ⟨h12_⟩
      have n13_ : Aside0 (b207 ≠ b200) := ⟨h13_⟩
      have n14_ : Aside0 (b201 ≠ b207) := ⟨h14_⟩
      have n15_ : Aside0 (b207 ≠ b201) := ⟨h15_⟩
      have n16_ : Aside0 (b208 ≠ b207) := ⟨h16_⟩
      have n17_ : Aside0 (b207 ≠ b208) := ⟨h17_⟩
      have n18_ : Aside0 (w.heap.size ≤ b208) := ⟨h18_⟩
      have n19_ : Aside0 (w.heap.size ≤ b208) := ⟨h19_⟩
      have n20_ : Aside0 (b198 ≠ b208) := ⟨h20_⟩
      have n21_ : Aside0 (b208 ≠ b198) := ⟨h21_⟩
      have n22_ : Aside0 (b199 ≠ b208) := ⟨h22_⟩
      have n23_ : Aside0 (b208 ≠ b199) := ⟨h23_⟩
      have n24_ : Aside0 (b200 ≠ b208) := ⟨h24_⟩
      have n25_ : Aside0 (b208 ≠ b200) := ⟨h25_⟩
      have n26_ : Aside0 (b201 ≠ b208) := ⟨h26_⟩
      have n27_ : Aside0 (b208 ≠ b201) := ⟨h27_⟩
      have n28_ : Aside0 (Below w.heap.size w w65) := ⟨h28_⟩
      clear BK198
      clear BK199
      clear BK200
      clear BK201
      clear HB
      clear h0_ h1_ h2_ h3_ h4_ h5_ h6_ h7_ h8_ h9_ h10_ h11_ h12_ h13_ h14_ h15_ h16_ h17_ h18_ h19_ h20_ h21_ h22_ h23_ h24_ h25_ h26_ h27_ h28_
      have BK198 := n0_
      have BK199 := n1_
      have BK200 := n2_
      have BK201 := n3_
      have BK207 := n4_
      have BK208 := n5_
      have GW207 := n6_
      have GE207 := n7_
      have N12_ := n8_
      have N13_ := n9_
      have N14_ := n10_
      have N15_ := n11_
      have N16_ := n12_
      have N17_ := n13_
      have N18_ := n14_
      have N19_ := n15_
      have N29_ := n16_
      have N28_ := n17_
      have GW208 := n18_
      have GE208 := n19_
      have N20_ := n20_
      have N21_ := n21_
      have N22_ := n22_
      have N23_ := n23_
      have N24_ := n24_
      have N25_ := n25_
      have N26_ := n26_
      have N27_ := n27_
      have HB := n28_
      clear n0_ n1_ n2_ n3_ n4_ n5_ n6_ n7_ n8_ n9_ n10_ n11_ n12_ n13_ n14_ n15_ n16_ n17_ n18_ n19_ n20_ n21_ n22_ n23_ n24_ n25_ n26_ n27_ n28_
      have hHeld : w65.cell? ⟨b199, 0, none⟩ = some (.int .u32 a1_0) ∧ w65.cell? ⟨b199, 1, none⟩ = some (.int .i32 a1_1) ∧ w65.cell? ⟨b199, 2, none⟩ = some (.int .i32 a1_2) ∧ w65.cell? ⟨b199, 3, none⟩ = some (.int .i32 a1_3) ∧ w65.cell? ⟨b199, 4, none⟩ = some (.int .i32 a1_4) ∧ w65.cell? ⟨b199, 5, none⟩ = some (.int .i32 a1_5) ∧ w65.cell? ⟨b199, 6, none⟩ = some (.int .i32 a1_6) ∧ w65.cell? ⟨b199, 7, none⟩ = some (.int .i32 a1_7) ∧ w65.cell? ⟨b199, 8, none⟩ = some (.int .i32 a1_8) ∧ w65.cell? ⟨b199, 9, none⟩ = some (.int .i32 a1_9) ∧ w65.cell? ⟨b200, 0, none⟩ = some (.int .u32 a2_0) ∧ w65.cell? ⟨b200, 1, none⟩ = some (.int .i32 a2_1) ∧ w65.cell? ⟨b200, 2, none⟩ = some (.int .i32 a2_2) ∧ w65.cell? ⟨b200, 3, none⟩ = some (.int .i32 a2_3) ∧ w65.cell? ⟨b200, 4, none⟩ = some (.int .i32 a2_4) ∧ w65.cell? ⟨b200, 5, none⟩ = some (.int .i32 a2_5) ∧ w65.cell? ⟨b200, 6, none⟩ = some (.int .i32 a2_6) ∧ w65.cell? ⟨b200, 7, none⟩ = some (.int .i32 a2_7) ∧ w65.cell? ⟨b200, 8, none⟩ = some (.int .i32 a2_8) ∧ w65.cell? ⟨b200, 9, none⟩ = some (.int .i32 a2_9) := hS_
      refine norm_ (a' := ?_) ?_ ?_
      rotate_left
      ·simp only [putAll, Act.put, sA, sB, sC]
       rfl
      refine one_ (i := 4) (N := none) #[T,T,T,T,T,F] rfl rfl (by kernel_rfl) (by decide) (fun K hK => ?_)
      refine skip_store10 (by rfl) rfl rfl rfl rfl BK207.out rfl (by kernel_rfl) rfl ?_
      refine hK.out _ _ ⟨(fc10 N14_.out (hHeld.1)), (fc10 N14_.out (hHeld.2.1)), (fc10 N14_.out (hHeld.2.2.1)), (fc10 N14_.out (hHeld.2.2.2.1)), (fc10 N14_.out (hHeld.2.2.2.2.1)), (fc10 N14_.out (hHeld.2.2.2.2.2.1)), (fc10 N14_.out (hHeld.2.2.2.2.2.2.1)), (fc10 N14_.out (hHeld.2.2.2.2.2.2.2.1)), (fc10 N14_.out (hHeld.2.2.2.2.2.2.2.2.1)), (fc10 N14_.out (hHeld.2.2.2.2.2.2.2.2.2.1)), (fc10 N16_.out (hHeld.2.2.2.2.2.2.2.2.2.2.1)), (fc10 N16_.out (hHeld.2.2.2.2.2.2.2.2.2.2.2.1)), (fc10 N16_.out (hHeld.2.2.2.2.2.2.2.2.2.2.2.2.1)), (fc10 N16_.out (hHeld.2.2.2.2.2.2.2.2.2.2.2.2.2.1)), (fc10 N16_.out (hHeld.2.2.2.2.2.2.2.2.2.2.2.2.2.2.1)), (fc10 N16_.out (hHeld.2.2.2.2.2.2.2.2.2.2.2.2.2.2.2.1)), (fc10 N16_.out (hHeld.2.2.2.2.2.2.2.2.2.2.2.2.2.2.2.2.1)), (fc10 N16_.out (hHeld.2.2.2.2.2.2.2.2.2.2.2.2.2.2.2.2.2.1)), (fc10 N16_.out (hHeld.2.2.2.2.2.2.2.2.2.2.2.2.2.2.2.2.2.2.1)), (fc10 N16_.out (hHeld.2.2.2.2.2.2.2.2.2.2.2.2.2.2.2.2.2.2.2))⟩ (fun hHeld => ?_)
      clear hK K
      refine one_ (i := 5) (N := none) #[T,T,T,T,T,T] rfl rfl (by kernel_rfl) (by decide) (fun K hK => ?_)
      generalize hC_ : World.setCell _ _ _ = W_
      refine skip_store10 (by rfl) rfl rfl rfl rfl (show W_.heap[b208]? = _ from hC_ ▸ (far10 BK208.out N29_.out)) rfl (by kernel_rfl) rfl ?_
      subst hC_
      refine hK.out _ _ ⟨(fc10 N22_.out (hHeld.1)), (fc10 N22_.out (hHeld.2.1)), (fc10 N22_.out (hHeld.2.2.1)), (fc10 N22_.out (hHeld.2.2.2.1)), (fc10 N22_.out (hHeld.2.2.2.2.1)), (fc10 N22_.out (hHeld.2.2.2.2.2.1)), (fc10 N22_.out (hHeld.2.2.2.2.2.2.1)), (fc10 N22_.out (hHeld.2.2.2.2.2.2.2.1)), (fc10 N22_.out (hHeld.2.2.2.2.2.2.2.2.1)), (fc10 N22_.out (hHeld.2.2.2.2.2.2.2.2.2.1)), (fc10 N24_.out (hHeld.2.2.2.2.2.2.2.2.2.2.1)), (fc10 N24_.out (hHeld.2.2.2.2.2.2.2.2.2.2.2.1)), (fc10 N24_.out (hHeld.2.2.2.2.2.2.2.2.2.2.2.2.1)), (fc10 N24_.out (hHeld.2.2.2.2.2.2.2.2.2.2.2.2.2.1)), (fc10 N24_.out (hHeld.2.2.2.2.2.2.2.2.2.2.2.2.2.2.1)), (fc10 N24_.out (hHeld.2.2.2.2.2.2.2.2.2.2.2.2.2.2.2.1)), (fc10 N24_.out (hHeld.2.2.2.2.2.2.2.2.2.2.2.2.2.2.2.2.1)), (fc10 N24_.out (hHeld.2.2.2.2.2.2.2.2.2.2.2.2.2.2.2.2.2.1)), (fc10 N24_.out (hHeld.2.2.2.2.2.2.2.2.2.2.2.2.2.2.2.2.2.2.1)), (fc10 N24_.out (hHeld.2.2.2.2.2.2.2.2.2.2.2.2.2.2.2.2.2.2.2))⟩ (fun hHeld => ?_)
      clear hK K
      refine done_ (by kernel_rfl) ?_
      generalize hV_ : World.setCell _ _ _ = V_
      have n0_ := aM ((congrArg (fun W_ : World => W_.heap[b198]?) hV_).symm.trans (far10 (far10 BK198.out N12_.out) N20_.out))
      have n1_ := aM ((congrArg (fun W_ : World => W_.heap[b199]?) hV_).symm.trans (far10 (far10 BK199.out N14_.out) N22_.out))
      have n2_ := aM ((congrArg (fun W_ : World => W_.heap[b200]?) hV_).symm.trans (far10 (far10 BK200.out N16_.out) N24_.out))
      have n3_ := aM ((congrArg (fun W_ : World => W_.heap[b201]?) hV_).symm.trans (far10 (far10 BK201.out N18_.out) N26_.out))
      have n4_ := aM ((congrArg (fun W_ : World => W_.heap[b207]?) hV_).symm.trans (far10 (own10 BK207.out) N28_.out))
      have n5_ := aM ((congrArg (fun W_ : World => W_.heap[b208]?) hV_).symm.trans (own10 (far10 BK208.out N29_.out)))
      have n6_ := aM (show Below w.heap.size w V_ from by rw [← hV_]; repeat (first | (with_reducible exact HB.out) | (with_reducible refine lS ?_ GE207.out) | (with_reducible refine lS ?_ GE208.out)))
      clear hHeld
      clear hV_ BK198 BK199 BK200 BK201 BK207 BK208 HB
      have BK198 := n0_
      have BK199 := n1_
      have BK200 := n2_
      have BK201 := n3_
      have BK207 := n4_
      have BK208 := n5_
      have HB := n6_
      clear n0_ n1_ n2_ n3_ n4_ n5_ n6_
      have hnb86 := N1_.out
      have hnc86 := N0_.out
      have hnb87 := N4_.out
      have hnc87 := N5_.out
      have hnb88 := N8_.out
      have hnc88 := N9_.out
      have hnb89 := N14_.out
      have hnc89 := N15_.out
      have hnb90 := N22_.out
      have hnc90 := N23_.out
      have hcz91_0 : V_.cell? ⟨b199, 0, none⟩ = some (.int .u32 a1_0) := (bC BK199.out 0).trans rfl
      have hcz91_1 : V_.cell? ⟨b199, 1, none⟩ = some (.int .i32 a1_1) := (bC BK199.out 1).trans rfl
      have hcz91_2 : V_.cell? ⟨b199, 2, none⟩ = some (.int .i32 a1_2) := (bC BK199.out 2).trans rfl
      have hcz91_3 : V_.cell? ⟨b199, 3, none⟩ = some (.int .i32 a1_3) := (bC BK199.out 3).trans rfl
      have hcz91_4 : V_.cell? ⟨b199, 4, none⟩ = some (.int .i32 a1_4) := (bC BK199.out 4).trans rfl
      have hcz91_5 : V_.cell? ⟨b199, 5, none⟩ = some (.int .i32 a1_5) := (bC BK199.out 5).trans rfl
      have hcz91_6 : V_.cell? ⟨b199, 6, none⟩ = some (.int .i32 a1_6) := (bC BK199.out 6).trans rfl
      have hcz91_7 : V_.cell? ⟨b199, 7, none⟩ = some (.int .i32 a1_7) := (bC BK199.out 7).trans rfl
      have hcz91_8 : V_.cell? ⟨b199, 8, none⟩ = some (.int .i32 a1_8) := (bC BK199.out 8).trans rfl
      have hcz91_9 : V_.cell? ⟨b199, 9, none⟩ = some (.int .i32 a1_9) := (bC BK199.out 9).trans rfl
      have hfz91_0 := bF BK199.out 0
      have hfz91_1 := bF BK199.out 1
      have hfz91_2 := bF BK199.out 2
      have hfz91_3 := bF BK199.out 3
      have hfz91_4 := bF BK199.out 4
      have hfz91_5 := bF BK199.out 5
      have hfz91_6 := bF BK199.out 6
      have hfz91_7 := bF BK199.out 7
      have hfz91_8 := bF BK199.out 8
      have hfz91_9 := bF BK199.out 9
      have hnb92 := N7_.out
      have hnc92 := N6_.out
      have hnb93 := N11_.out
      have hnc93 := N10_.out
      have hnb94 := N18_.out
      have hnc94 := N19_.out
      have hnb95 := N26_.out
      have hnc95 := N27_.out
      have hcz96_0 : V_.cell? ⟨b201, 0, none⟩ = some (.int .i32 a3_0) := (bC BK201.out 0).trans rfl
      have hcz96_1 : V_.cell? ⟨b201, 1, none⟩ = some (.int .i32 a3_1) := (bC BK201.out 1).trans rfl
      have hfz96_0 := bF BK201.out 0
      have hfz96_1 := bF BK201.out 1
      have hnb97 := N13_.out
      have hnc97 := N12_.out
      have hnb98 := N17_.out
      have hnc98 := N16_.out
      have hnb99 := N28_.out
      have hnc99 := N29_.out
      have hcz100_0 : V_.cell? ⟨b207, 0, none⟩ = some (.int .u32 a1_0) := (bC BK207.out 0).trans rfl
      have hcz100_1 : V_.cell? ⟨b207, 1, none⟩ = some (.int .i32 a1_1) := (bC BK207.out 1).trans rfl
      have hcz100_2 : V_.cell? ⟨b207, 2, none⟩ = some (.int .i32 a1_2) := (bC BK207.out 2).trans rfl
      have hcz100_3 : V_.cell? ⟨b207, 3, none⟩ = some (.int .i32 a1_3) := (bC BK207.out 3).trans rfl
      have hcz100_4 : V_.cell? ⟨b207, 4, none⟩ = some (.int .i32 a1_4) := (bC BK207.out 4).trans rfl
      have hcz100_5 : V_.cell? ⟨b207, 5, none⟩ = some (.int .i32 a1_5) := (bC BK207.out 5).trans rfl
      have hcz100_6 : V_.cell? ⟨b207, 6, none⟩ = some (.int .i32 a1_6) := (bC BK207.out 6).trans rfl
      have hcz100_7 : V_.cell? ⟨b207, 7, none⟩ = some (.int .i32 a1_7) := (bC BK207.out 7).trans rfl
      have hcz100_8 : V_.cell? ⟨b207, 8, none⟩ = some (.int .i32 a1_8) := (bC BK207.out 8).trans rfl
      have hcz100_9 : V_.cell? ⟨b207, 9, none⟩ = some (.int .i32 a1_9) := (bC BK207.out 9).trans rfl
      have hfz100_0 := bF BK207.out 0
      have hfz100_1 := bF BK207.out 1
      have hfz100_2 := bF BK207.out 2
      have hfz100_3 := bF BK207.out 3
      have hfz100_4 := bF BK207.out 4
      have hfz100_5 := bF BK207.out 5
      have hfz100_6 := bF BK207.out 6
      have hfz100_7 := bF BK207.out 7
      have hfz100_8 := bF BK207.out 8
      have hfz100_9 := bF BK207.out 9
      have hnb101 := N3_.out
      have hnc101 := N2_.out
      have hnb102 := N24_.out
      have hnc102 := N25_.out
      have hcz103_0 : V_.cell? ⟨b200, 0, none⟩ = some (.int .u32 a2_0) := (bC BK200.out 0).trans rfl
      have hcz103_1 : V_.cell? ⟨b200, 1, none⟩ = some (.int .i32 a2_1) := (bC BK200.out 1).trans rfl
      have hcz103_2 : V_.cell? ⟨b200, 2, none⟩ = some (.int .i32 a2_2) := (bC BK200.out 2).trans rfl
      have hcz103_3 : V_.cell? ⟨b200, 3, none⟩ = some (.int .i32 a2_3) := (bC BK200.out 3).trans rfl
      have hcz103_4 : V_.cell? ⟨b200, 4, none⟩ = some (.int .i32 a2_4) := (bC BK200.out 4).trans rfl
      have hcz103_5 : V_.cell? ⟨b200, 5, none⟩ = some (.int .i32 a2_5) := (bC BK200.out 5).trans rfl
      have hcz103_6 : V_.cell? ⟨b200, 6, none⟩ = some (.int .i32 a2_6) := (bC BK200.out 6).trans rfl
      have hcz103_7 : V_.cell? ⟨b200, 7, none⟩ = some (.int .i32 a2_7) := (bC BK200.out 7).trans rfl
      have hcz103_8 : V_.cell? ⟨b200, 8, none⟩ = some (.int .i32 a2_8) := (bC BK200.out 8).trans rfl
      have hcz103_9 : V_.cell? ⟨b200, 9, none⟩ = some (.int .i32 a2_9) := (bC BK200.out 9).trans rfl
      have hfz103_0 := bF BK200.out 0
      have hfz103_1 := bF BK200.out 1
      have hfz103_2 := bF BK200.out 2
      have hfz103_3 := bF BK200.out 3
      have hfz103_4 := bF BK200.out 4
      have hfz103_5 := bF BK200.out 5
      have hfz103_6 := bF BK200.out 6
      have hfz103_7 := bF BK200.out 7
      have hfz103_8 := bF BK200.out 8
      have hfz103_9 := bF BK200.out 9
      have hnb104 := N21_.out
      have hnc104 := N20_.out
      have hcz105_0 : V_.cell? ⟨b208, 0, none⟩ = some (.int .u32 a2_0) := (bC BK208.out 0).trans rfl
      have hcz105_1 : V_.cell? ⟨b208, 1, none⟩ = some (.int .i32 a2_1) := (bC BK208.out 1).trans rfl
      have hcz105_2 : V_.cell? ⟨b208, 2, none⟩ = some (.int .i32 a2_2) := (bC BK208.out 2).trans rfl
      have hcz105_3 : V_.cell? ⟨b208, 3, none⟩ = some (.int .i32 a2_3) := (bC BK208.out 3).trans rfl
      have hcz105_4 : V_.cell? ⟨b208, 4, none⟩ = some (.int .i32 a2_4) := (bC BK208.out 4).trans rfl
      have hcz105_5 : V_.cell? ⟨b208, 5, none⟩ = some (.int .i32 a2_5) := (bC BK208.out 5).trans rfl
      have hcz105_6 : V_.cell? ⟨b208, 6, none⟩ = some (.int .i32 a2_6) := (bC BK208.out 6).trans rfl
      have hcz105_7 : V_.cell? ⟨b208, 7, none⟩ = some (.int .i32 a2_7) := (bC BK208.out 7).trans rfl
      have hcz105_8 : V_.cell? ⟨b208, 8, none⟩ = some (.int .i32 a2_8) := (bC BK208.out 8).trans rfl
      have hcz105_9 : V_.cell? ⟨b208, 9, none⟩ = some (.int .i32 a2_9) := (bC BK208.out 9).trans rfl
      have hfz105_0 := bF BK208.out 0
      have hfz105_1 := bF BK208.out 1
      have hfz105_2 := bF BK208.out 2
      have hfz105_3 := bF BK208.out 3
      have hfz105_4 := bF BK208.out 4
      have hfz105_5 := bF BK208.out 5
      have hfz105_6 := bF BK208.out 6
      have hfz105_7 := bF BK208.out 7
      have hfz105_8 := bF BK208.out 8
      have hfz105_9 := bF BK208.out 9
      have hcz106_0 : V_.cell? ⟨b198, 0, none⟩ = some (.int .u32 a0_0) := (bC BK198.out 0).trans rfl
      have hcz106_1 : V_.cell? ⟨b198, 1, none⟩ = some (.int .u32 a0_1) := (bC BK198.out 1).trans rfl
      have hcz106_2 : V_.cell? ⟨b198, 2, none⟩ = some (.int .i32 a0_2) := (bC BK198.out 2).trans rfl
      have hcz106_3 : V_.cell? ⟨b198, 3, none⟩ = some (.int .i32 a0_3) := (bC BK198.out 3).trans rfl
      have hcz106_4 : V_.cell? ⟨b198, 4, none⟩ = some (.int .i32 a0_4) := (bC BK198.out 4).trans rfl
      have hfz106_0 := bF BK198.out 0
      have hfz106_1 := bF BK198.out 1
      have hfz106_2 := bF BK198.out 2
      have hfz106_3 := bF BK198.out 3
      have hfz106_4 := bF BK198.out 4
      try go_wp2_with (first | ((with_reducible refine gate_callee (f := 9) rfl ?_); refine goesL_ (some 66) rfl rfl Try.func9 (by kernel_rfl) rfl #[.agg #[.int .u32 a0_0, .int .u32 a0_1, .int .i32 a0_2, .int .i32 a0_3, .int .i32 a0_4], .agg #[.int .u32 a1_0, .int .i32 a1_1, .int .i32 a1_2, .int .i32 a1_3, .int .i32 a1_4, .int .i32 a1_5, .int .i32 a1_6, .int .i32 a1_7, .int .i32 (wrap32 (a1_8 + a3_0)), .int .i32 (wrap32 (a1_9 + a3_1))], .agg #[.int .u32 a2_0, .int .i32 a2_1, .int .i32 a2_2, .int .i32 a2_3, .int .i32 a2_4, .int .i32 a2_5, .int .i32 a2_6, .int .i32 a2_7, .int .i32 (wrap32 (a2_8 + a3_0)), .int .i32 (wrap32 (a2_9 + a3_1))]] rfl (by (try simp only [List.map_toArray, List.map_cons, List.map_nil]); first | done | rfl | (simp only [List.length_drop, List.length_take]; rfl)) ?_; (with_reducible refine (billiardref16_Right.calls kj4 a0_0 a0_1 a0_2 a0_3 a0_4 a1_0 a1_1 a1_2 a1_3 a1_4 a1_5 a1_6 a1_7 (wrap32 (a1_8 + a3_0)) (wrap32 (a1_9 + a3_1)) a2_0 a2_1 a2_2 a2_3 a2_4 a2_5 a2_6 a2_7 (wrap32 (a2_8 + a3_0)) (wrap32 (a2_9 + a3_1)) true _ A55.out).mono ?_); rintro e w107 ⟨rfl, hb⟩; refine ⟨_, rfl, ?_⟩; have n0_ := aM (bB (g := b198) (o := .cells #[.int .u32 a0_0, .int .u32 a0_1, .int .i32 a0_2, .int .i32 a0_3, .int .i32 a0_4] 28 (0, 0)) (by (with_reducible repeat first | apply bN | apply bD | apply bA); refine bR ?_ N20_.out _; (with_reducible repeat first | apply bN | apply bD | apply bA); refine bR ?_ N20_.out _; (with_reducible repeat first | apply bN | apply bD | apply bA); refine bR ?_ N12_.out _; (with_reducible repeat first | apply bN | apply bD | apply bA); refine bR ?_ N12_.out _; exact BK198.out) hb); have n1_ := aM (bB (g := b199) (o := .cells #[.int .u32 a1_0, .int .i32 a1_1, .int .i32 a1_2, .int .i32 a1_3, .int .i32 a1_4, .int .i32 a1_5, .int .i32 a1_6, .int .i32 a1_7, .int .i32 a1_8, .int .i32 a1_9] 30 (0, 0)) (by (with_reducible repeat first | apply bN | apply bD | apply bA); refine bR ?_ N22_.out _; (with_reducible repeat first | apply bN | apply bD | apply bA); refine bR ?_ N22_.out _; (with_reducible repeat first | apply bN | apply bD | apply bA); refine bR ?_ N14_.out _; (with_reducible repeat first | apply bN | apply bD | apply bA); refine bR ?_ N14_.out _; exact BK199.out) hb); have n2_ := aM (bB (g := b200) (o := .cells #[.int .u32 a2_0, .int .i32 a2_1, .int .i32 a2_2, .int .i32 a2_3, .int .i32 a2_4, .int .i32 a2_5, .int .i32 a2_6, .int .i32 a2_7, .int .i32 a2_8, .int .i32 a2_9] 30 (0, 0)) (by (with_reducible repeat first | apply bN | apply bD | apply bA); refine bR ?_ N24_.out _; (with_reducible repeat first | apply bN | apply bD | apply bA); refine bR ?_ N24_.out _; (with_reducible repeat first | apply bN | apply bD | apply bA); refine bR ?_ N16_.out _; (with_reducible repeat first | apply bN | apply bD | apply bA); refine bR ?_ N16_.out _; exact BK200.out) hb); have n3_ := aM (bB (g := b201) (o := .cells #[.int .i32 a3_0, .int .i32 a3_1] 26 (0, 0)) (by (with_reducible repeat first | apply bN | apply bD | apply bA); refine bR ?_ N26_.out _; (with_reducible repeat first | apply bN | apply bD | apply bA); refine bR ?_ N26_.out _; (with_reducible repeat first | apply bN | apply bD | apply bA); refine bR ?_ N18_.out _; (with_reducible repeat first | apply bN | apply bD | apply bA); refine bR ?_ N18_.out _; exact BK201.out) hb); have n4_ := aM (bB (g := b207) (o := .cells #[.int .u32 a1_0, .int .i32 a1_1, .int .i32 a1_2, .int .i32 a1_3, .int .i32 a1_4, .int .i32 a1_5, .int .i32 a1_6, .int .i32 a1_7, .int .i32 (wrap32 (a1_8 + a3_0)), .int .i32 (wrap32 (a1_9 + a3_1))] 30 (0, 0)) (by (with_reducible repeat first | apply bN | apply bD | apply bA); refine bR ?_ N28_.out _; (with_reducible repeat first | apply bN | apply bD | apply bA); refine bR ?_ N28_.out _; (with_reducible repeat first | apply bN | apply bD | apply bA); refine bP (cs := #[.int .u32 a1_0, .int .i32 a1_1, .int .i32 a1_2, .int .i32 a1_3, .int .i32 a1_4, .int .i32 a1_5, .int .i32 a1_6, .int .i32 a1_7, .int .i32 (wrap32 (a1_8 + a3_0)), .int .i32 a1_9]) ?_ 9 _ rfl; (with_reducible repeat first | apply bN | apply bD | apply bA); refine bP (cs := #[.int .u32 a1_0, .int .i32 a1_1, .int .i32 a1_2, .int .i32 a1_3, .int .i32 a1_4, .int .i32 a1_5, .int .i32 a1_6, .int .i32 a1_7, .int .i32 a1_8, .int .i32 a1_9]) ?_ 8 _ rfl; exact BK207.out) hb); have n5_ := aM (bB (g := b208) (o := .cells #[.int .u32 a2_0, .int .i32 a2_1, .int .i32 a2_2, .int .i32 a2_3, .int .i32 a2_4, .int .i32 a2_5, .int .i32 a2_6, .int .i32 a2_7, .int .i32 (wrap32 (a2_8 + a3_0)), .int .i32 (wrap32 (a2_9 + a3_1))] 30 (0, 0)) (by (with_reducible repeat first | apply bN | apply bD | apply bA); refine bP (cs := #[.int .u32 a2_0, .int .i32 a2_1, .int .i32 a2_2, .int .i32 a2_3, .int .i32 a2_4, .int .i32 a2_5, .int .i32 a2_6, .int .i32 a2_7, .int .i32 (wrap32 (a2_8 + a3_0)), .int .i32 a2_9]) ?_ 9 _ rfl; (with_reducible repeat first | apply bN | apply bD | apply bA); refine bP (cs := #[.int .u32 a2_0, .int .i32 a2_1, .int .i32 a2_2, .int .i32 a2_3, .int .i32 a2_4, .int .i32 a2_5, .int .i32 a2_6, .int .i32 a2_7, .int .i32 a2_8, .int .i32 a2_9]) ?_ 8 _ rfl; (with_reducible repeat first | apply bN | apply bD | apply bA); refine bR ?_ N29_.out _; (with_reducible repeat first | apply bN | apply bD | apply bA); refine bR ?_ N29_.out _; exact BK208.out) hb); have n6_ := aM (lT (by repeat (first | (with_reducible first | exact HB.out | apply lA | apply lN | apply lD | refine lS ?_ GE198.out | refine lS ?_ GE199.out | refine lS ?_ GE200.out | refine lS ?_ GE201.out | refine lS ?_ GE207.out | refine lS ?_ GE208.out) | exact HB.out)) hb); clear BK198; clear BK199; clear BK200; clear BK201; clear BK207; clear BK208; clear HB; have BK198 := n0_; have BK199 := n1_; have BK200 := n2_; have BK201 := n3_; have BK207 := n4_; have BK208 := n5_; have HB := n6_; clear n0_ n1_ n2_ n3_ n4_ n5_ n6_; (try clear hb); (try clear hb2); (try clear hk); (try clear hi)))
      have n0_ := aM (bD BK198.out)
      have n1_ := aM (bD BK199.out)
      have n2_ := aM (bD BK200.out)
      have n3_ := aM (bD BK201.out)
      have n4_ := aM (bD BK207.out)
      have n5_ := aM (bD BK208.out)
      have n6_ := aM (lD HB.out)
      clear BK198
      clear BK199
      clear BK200
      clear BK201
      clear BK207
      clear BK208
      clear HB
      have BK198 := n0_
      have BK199 := n1_
      have BK200 := n2_
      have BK201 := n3_
      have BK207 := n4_
      have BK208 := n5_
      have HB := n6_
      clear n0_ n1_ n2_ n3_ n4_ n5_ n6_
      refine start_ (n := 21) (S := fun w' => w'.cell? ⟨b198, 0, none⟩ = some (.int .u32 a0_0) ∧ w'.cell? ⟨b198, 1, none⟩ = some (.int .u32 a0_1) ∧ w'.cell? ⟨b198, 2, none⟩ = some (.int .i32 a0_2) ∧ w'.cell? ⟨b198, 3, none⟩ = some (.int .i32 a0_3) ∧ w'.cell? ⟨b198, 4, none⟩ = some (.int .i32 a0_4) ∧ w'.cell? ⟨b207, 0, none⟩ = some (.int .u32 a1_0) ∧ w'.cell? ⟨b207, 1, none⟩ = some (.int .i32 a1_1) ∧ w'.cell? ⟨b207, 2, none⟩ = some (.int .i32 a1_2) ∧ w'.cell? ⟨b207, 3, none⟩ = some (.int .i32 a1_3) ∧ w'.cell? ⟨b207, 4, none⟩ = some (.int .i32 a1_4) ∧ w'.cell? ⟨b207, 5, none⟩ = some (.int .i32 a1_5) ∧ w'.cell? ⟨b207, 6, none⟩ = some (.int .i32 a1_6) ∧ w'.cell? ⟨b207, 7, none⟩ = some (.int .i32 a1_7) ∧ w'.cell? ⟨b207, 8, none⟩ = some (.int .i32 (wrap32 (a1_8 + a3_0))) ∧ w'.cell? ⟨b207, 9, none⟩ = some (.int .i32 (wrap32 (a1_9 + a3_1))) ∧ w'.cell? ⟨b208, 0, none⟩ = some (.int .u32 a2_0) ∧ w'.cell? ⟨b208, 1, none⟩ = some (.int .i32 a2_1) ∧ w'.cell? ⟨b208, 2, none⟩ = some (.int .i32 a2_2) ∧ w'.cell? ⟨b208, 3, none⟩ = some (.int .i32 a2_3) ∧ w'.cell? ⟨b208, 4, none⟩ = some (.int .i32 a2_4) ∧ w'.cell? ⟨b208, 5, none⟩ = some (.int .i32 a2_5) ∧ w'.cell? ⟨b208, 6, none⟩ = some (.int .i32 a2_6) ∧ w'.cell? ⟨b208, 7, none⟩ = some (.int .i32 a2_7) ∧ w'.cell? ⟨b208, 8, none⟩ = some (.int .i32 (wrap32 (a2_8 + a3_0))) ∧ w'.cell? ⟨b208, 9, none⟩ = some (.int .i32 (wrap32 (a2_9 + a3_1))) ∧ w'.cell? ⟨b199, 0, none⟩ = some (.int .u32 a1_0) ∧ w'.cell? ⟨b199, 1, none⟩ = some (.int .i32 a1_1) ∧ w'.cell? ⟨b199, 2, none⟩ = some (.int .i32 a1_2) ∧ w'.cell? ⟨b199, 3, none⟩ = some (.int .i32 a1_3) ∧ w'.cell? ⟨b199, 4, none⟩ = some (.int .i32 a1_4) ∧ w'.cell? ⟨b199, 5, none⟩ = some (.int .i32 a1_5) ∧ w'.cell? ⟨b199, 6, none⟩ = some (.int .i32 a1_6) ∧ w'.cell? ⟨b199, 7, none⟩ = some (.int .i32 a1_7) ∧ w'.cell? ⟨b199, 8, none⟩ = some (.int .i32 a1_8) ∧ w'.cell? ⟨b199, 9, none⟩ = some (.int .i32 a1_9) ∧ w'.cell? ⟨b200, 0, none⟩ = some (.int .u32 a2_0) ∧ w'.cell? ⟨b200, 1, none⟩ = some (.int .i32 a2_1) ∧ w'.cell? ⟨b200, 2, none⟩ = some (.int .i32 a2_2) ∧ w'.cell? ⟨b200, 3, none⟩ = some (.int .i32 a2_3) ∧ w'.cell? ⟨b200, 4, none⟩ = some (.int .i32 a2_4) ∧ w'.cell? ⟨b200, 5, none⟩ = some (.int .i32 a2_5) ∧ w'.cell? ⟨b200, 6, none⟩ = some (.int .i32 a2_6) ∧ w'.cell? ⟨b200, 7, none⟩ = some (.int .i32 a2_7) ∧ w'.cell? ⟨b200, 8, none⟩ = some (.int .i32 a2_8) ∧ w'.cell? ⟨b200, 9, none⟩ = some (.int .i32 a2_9)) (ds := []) #[F,F,F,F,F,F,F,F,F,F,F,F,F,F,F,F,F,F,F,F,F] (by kernel_rfl) rfl rfl ⟨(bC BK198.out 0).trans rfl, (bC BK198.out 1).trans rfl, (bC BK198.out 2).trans rfl, (bC BK198.out 3).trans rfl, (bC BK198.out 4).trans rfl, (bC BK207.out 0).trans rfl, (bC BK207.out 1).trans rfl, (bC BK207.out 2).trans rfl, (bC BK207.out 3).trans rfl, (bC BK207.out 4).trans rfl, (bC BK207.out 5).trans rfl, (bC BK207.out 6).trans rfl, (bC BK207.out 7).trans rfl, (bC BK207.out 8).trans rfl, (bC BK207.out 9).trans rfl, (bC BK208.out 0).trans rfl, (bC BK208.out 1).trans rfl, (bC BK208.out 2).trans rfl, (bC BK208.out 3).trans rfl, (bC BK208.out 4).trans rfl, (bC BK208.out 5).trans rfl, (bC BK208.out 6).trans rfl, (bC BK208.out 7).trans rfl, (bC BK208.out 8).trans rfl, (bC BK208.out 9).trans rfl, (bC BK199.out 0).trans rfl, (bC BK199.out 1).trans rfl, (bC BK199.out 2).trans rfl, (bC BK199.out 3).trans rfl, (bC BK199.out 4).trans rfl, (bC BK199.out 5).trans rfl, (bC BK199.out 6).trans rfl, (bC BK199.out 7).trans rfl, (bC BK199.out 8).trans rfl, (bC BK199.out 9).trans rfl, (bC BK200.out 0).trans rfl, (bC BK200.out 1).trans rfl, (bC BK200.out 2).trans rfl, (bC BK200.out 3).trans rfl, (bC BK200.out 4).trans rfl, (bC BK200.out 5).trans rfl, (bC BK200.out 6).trans rfl, (bC BK200.out 7).trans rfl, (bC BK200.out 8).trans rfl, (bC BK200.out 9).trans rfl⟩ (fun hHeld => ?_); refine with_tabW billiardlaw16_ImpulseFrames.tab8 billiardlaw16_ImpulseFrames.bits8 (fun HT_ HW_ => ?_)
      generalize w107.drew = w108 at BK198 BK199 BK200 BK201 BK207 BK208 HB hHeld ⊢
      refine take_ (i := 0) (N := some 68) (v := ?_) (a' := ?_) #[T,F,F,F,F,F,F,F,F,F,F,F,F,F,F,F,F,F,F,F,F] rfl rfl (take_ofW HT_.out HW_.out (by kernel_rfl)) (fun _ _ _ h => h) (Or.inl ⟨by rfl, ?_⟩) hHeld ?_ ?_
      rotate_left
      ·rintro w' ⟨s0, s1, s2, s3, s4, s5, s6, s7, s8, s9, s10, s11, s12, s13, s14, s15, s16, s17, s18, s19, s20, s21, s22, s23, s24, s25, s26, s27, s28, s29, s30, s31, s32, s33, s34, s35, s36, s37, s38, s39, s40, s41, s42, s43, s44⟩
       go_simp
       with_reducible rfl
      rotate_left
      ·simp only [Act.put, sA, sB, sC, i64_w, i32_w]
       rfl
      refine take_ (i := 1) (N := some 69) (v := ?_) (a' := ?_) #[T,T,F,F,F,F,F,F,F,F,F,F,F,F,F,F,F,F,F,F,F] rfl rfl (take_ofW HT_.out HW_.out (by kernel_rfl)) (fun _ _ _ h => h) (Or.inl ⟨by rfl, ?_⟩) hHeld ?_ ?_
      rotate_left
      ·rintro w' ⟨s0, s1, s2, s3, s4, s5, s6, s7, s8, s9, s10, s11, s12, s13, s14, s15, s16, s17, s18, s19, s20, s21, s22, s23, s24, s25, s26, s27, s28, s29, s30, s31, s32, s33, s34, s35, s36, s37, s38, s39, s40, s41, s42, s43, s44⟩
       go_simp
       with_reducible rfl
      rotate_left
      ·simp only [Act.put, sA, sB, sC, i64_w, i32_w]
       rfl
      refine take_ (i := 2) (N := some 70) (v := ?_) (a' := ?_) #[T,T,T,F,F,F,F,F,F,F,F,F,F,F,F,F,F,F,F,F,F] rfl rfl (take_ofW HT_.out HW_.out (by kernel_rfl)) (fun _ _ _ h => h) (Or.inl ⟨by rfl, ?_⟩) hHeld ?_ ?_
      rotate_left
      ·rintro w' ⟨s0, s1, s2, s3, s4, s5, s6, s7, s8, s9, s10, s11, s12, s13, s14, s15, s16, s17, s18, s19, s20, s21, s22, s23, s24, s25, s26, s27, s28, s29, s30, s31, s32, s33, s34, s35, s36, s37, s38, s39, s40, s41, s42, s43, s44⟩
       go_simp
       with_reducible rfl
      rotate_left
      ·simp only [Act.put, sA, sB, sC, i64_w, i32_w]
       rfl
      refine take_ (i := 4) (N := some 72) (v := ?_) (a' := ?_) #[T,T,T,F,T,F,F,F,F,F,F,F,F,F,F,F,F,F,F,F,F] rfl rfl (take_ofW HT_.out HW_.out (by kernel_rfl)) (fun _ _ _ h => h) (Or.inl ⟨by rfl, ?_⟩) hHeld ?_ ?_
      rotate_left
      ·rintro w' ⟨s0, s1, s2, s3, s4, s5, s6, s7, s8, s9, s10, s11, s12, s13, s14, s15, s16, s17, s18, s19, s20, s21, s22, s23, s24, s25, s26, s27, s28, s29, s30, s31, s32, s33, s34, s35, s36, s37, s38, s39, s40, s41, s42, s43, s44⟩
       go_simp
       with_reducible rfl
      rotate_left
      ·simp only [Act.put, sA, sB, sC, i64_w, i32_w]
       rfl
      refine take_ (i := 5) (N := some 73) (v := ?_) (a' := ?_) #[T,T,T,F,T,T,F,F,F,F,F,F,F,F,F,F,F,F,F,F,F] rfl rfl (take_ofW HT_.out HW_.out (by kernel_rfl)) (fun _ _ _ h => h) (Or.inl ⟨by rfl, ?_⟩) hHeld ?_ ?_
      rotate_left
      ·rintro w' ⟨s0, s1, s2, s3, s4, s5, s6, s7, s8, s9, s10, s11, s12, s13, s14, s15, s16, s17, s18, s19, s20, s21, s22, s23, s24, s25, s26, s27, s28, s29, s30, s31, s32, s33, s34, s35, s36, s37, s38, s39, s40, s41, s42, s43, s44⟩
       go_simp
       with_reducible rfl
      rotate_left
      ·simp only [Act.put, sA, sB, sC, i64_w, i32_w]
       rfl
      refine take_ (i := 6) (N := some 74) (v := ?_) (a' := ?_) #[T,T,T,F,T,T,T,F,F,F,F,F,F,F,F,F,F,F,F,F,F] rfl rfl (take_ofW HT_.out HW_.out (by kernel_rfl)) (fun _ _ _ h => h) (Or.inl ⟨by rfl, ?_⟩) hHeld ?_ ?_
      rotate_left
      ·rintro w' ⟨s0, s1, s2, s3, s4, s5, s6, s7, s8, s9, s10, s11, s12, s13, s14, s15, s16, s17, s18, s19, s20, s21, s22, s23, s24, s25, s26, s27, s28, s29, s30, s31, s32, s33, s34, s35, s36, s37, s38, s39, s40, s41, s42, s43, s44⟩
       go_simp
       with_reducible rfl
      rotate_left
      ·simp only [Act.put, sA, sB, sC, i64_w, i32_w]
       rfl
      refine one_ (i := 3) (N := some 71) #[T,T,T,T,T,T,T,F,F,F,F,F,F,F,F,F,F,F,F,F,F] rfl rfl (one_of HT_.out (by kernel_rfl)) (by decide) (fun K hK => ?_)
      refine goes_ Try.func10 (by kernel_rfl) rfl #[.agg #[.int .u32 a0_0, .int .u32 a0_1, .int .i32 a0_2, .int .i32 a0_3, .int .i32 a0_4], .agg #[.int .u32 a1_0, .int .i32 a1_1, .int .i32 a1_2, .int .i32 a1_3, .int .i32 a1_4, .int .i32 a1_5, .int .i32 a1_6, .int .i32 a1_7, .int .i32 (wrap32 (a1_8 + a3_0)), .int .i32 (wrap32 (a1_9 + a3_1))], .agg #[.int .u32 a2_0, .int .i32 a2_1, .int .i32 a2_2, .int .i32 a2_3, .int .i32 a2_4, .int .i32 a2_5, .int .i32 a2_6, .int .i32 a2_7, .int .i32 (wrap32 (a2_8 + a3_0)), .int .i32 (wrap32 (a2_9 + a3_1))]] (by rfl) rfl rfl (by (try simp only [List.map_toArray, List.map_cons, List.map_nil]); first | done | rfl | (simp only [List.length_drop, List.length_take]; rfl)) ?_
      with_reducible refine (impulse_Approach.calls a0_0 a0_1 a0_2 a0_3 a0_4 a1_0 a1_1 a1_2 a1_3 a1_4 a1_5 a1_6 a1_7 (wrap32 (a1_8 + a3_0)) (wrap32 (a1_9 + a3_1)) a2_0 a2_1 a2_2 a2_3 a2_4 a2_5 a2_6 a2_7 (wrap32 (a2_8 + a3_0)) (wrap32 (a2_9 + a3_1)) t210 _ A57.out).mono ?_
      rintro e w109 ⟨rfl, hb⟩
      refine ⟨_, rfl, ?_⟩
      have n0_ := aM (bB (by (with_reducible repeat first | apply bN | apply bD | apply bA); exact BK198.out) hb)
      have n1_ := aM (bB (by (with_reducible repeat first | apply bN | apply bD | apply bA); exact BK199.out) hb)
      have n2_ := aM (bB (by (with_reducible repeat first | apply bN | apply bD | apply bA); exact BK200.out) hb)
      have n3_ := aM (bB (by (with_reducible repeat first | apply bN | apply bD | apply bA); exact BK201.out) hb)
      have n4_ := aM (bB (by (with_reducible repeat first | apply bN | apply bD | apply bA); exact BK207.out) hb)
      have n5_ := aM (bB (by (with_reducible repeat first | apply bN | apply bD | apply bA); exact BK208.out) hb)
      have n6_ := aM (lT (by repeat (first | (with_reducible first | exact HB.out | apply lA | apply lN | apply lD | refine lS ?_ GE198.out | refine lS ?_ GE199.out | refine lS ?_ GE200.out | refine lS ?_ GE201.out | refine lS ?_ GE207.out | refine lS ?_ GE208.out) | exact HB.out)) hb)
      clear BK198
      clear BK199
      clear BK200
      clear BK201
      clear BK207
      clear BK208
      clear HB
      have BK198 := n0_
      have BK199 := n1_
      have BK200 := n2_
      have BK201 := n3_
      have BK207 := n4_
      have BK208 := n5_
      have HB := n6_
      clear n0_ n1_ n2_ n3_ n4_ n5_ n6_
      (try clear hb)
      (try clear hb2)
      (try clear hk)
      (try clear hi)
      refine hK.out _ _ ⟨(bC BK198.out 0).trans rfl, (bC BK198.out 1).trans rfl, (bC BK198.out 2).trans rfl, (bC BK198.out 3).trans rfl, (bC BK198.out 4).trans rfl, (bC BK207.out 0).trans rfl, (bC BK207.out 1).trans rfl, (bC BK207.out 2).trans rfl, (bC BK207.out 3).trans rfl, (bC BK207.out 4).trans rfl, (bC BK207.out 5).trans rfl, (bC BK207.out 6).trans rfl, (bC BK207.out 7).trans rfl, (bC BK207.out 8).trans rfl, (bC BK207.out 9).trans rfl, (bC BK208.out 0).trans rfl, (bC BK208.out 1).trans rfl, (bC BK208.out 2).trans rfl, (bC BK208.out 3).trans rfl, (bC BK208.out 4).trans rfl, (bC BK208.out 5).trans rfl, (bC BK208.out 6).trans rfl, (bC BK208.out 7).trans rfl, (bC BK208.out 8).trans rfl, (bC BK208.out 9).trans rfl, (bC BK199.out 0).trans rfl, (bC BK199.out 1).trans rfl, (bC BK199.out 2).trans rfl, (bC BK199.out 3).trans rfl, (bC BK199.out 4).trans rfl, (bC BK199.out 5).trans rfl, (bC BK199.out 6).trans rfl, (bC BK199.out 7).trans rfl, (bC BK199.out 8).trans rfl, (bC BK199.out 9).trans rfl, (bC BK200.out 0).trans rfl, (bC BK200.out 1).trans rfl, (bC BK200.out 2).trans rfl, (bC BK200.out 3).trans rfl, (bC BK200.out 4).trans rfl, (bC BK200.out 5).trans rfl, (bC BK200.out 6).trans rfl, (bC BK200.out 7).trans rfl, (bC BK200.out 8).trans rfl, (bC BK200.out 9).trans rfl⟩ (fun hHeld => ?_)
      clear hK K
      refine norm_ (a' := ?_) ?_ ?_
      rotate_left
      ·show Act.put _ (some 71) _ = _
       simp only [Act.put, sA, sB, sC, i64_w, i32_w]
       rfl
      refine one_ (i := 7) (N := some 75) #[T,T,T,T,T,T,T,T,F,F,F,F,F,F,F,F,F,F,F,F,F] rfl rfl (one_of HT_.out (by kernel_rfl)) (by decide) (fun K hK => ?_)
      refine goes_ Try.func10 (by kernel_rfl) rfl #[.agg #[.int .u32 a0_0, .int .u32 a0_1, .int .i32 a0_2, .int .i32 a0_3, .int .i32 a0_4], .agg #[.int .u32 a1_0, .int .i32 a1_1, .int .i32 a1_2, .int .i32 a1_3, .int .i32 a1_4, .int .i32 a1_5, .int .i32 a1_6, .int .i32 a1_7, .int .i32 a1_8, .int .i32 a1_9], .agg #[.int .u32 a2_0, .int .i32 a2_1, .int .i32 a2_2, .int .i32 a2_3, .int .i32 a2_4, .int .i32 a2_5, .int .i32 a2_6, .int .i32 a2_7, .int .i32 a2_8, .int .i32 a2_9]] (by rfl) rfl rfl (by (try simp only [List.map_toArray, List.map_cons, List.map_nil]); first | done | rfl | (simp only [List.length_drop, List.length_take]; rfl)) ?_
      with_reducible refine (impulse_Approach.calls a0_0 a0_1 a0_2 a0_3 a0_4 a1_0 a1_1 a1_2 a1_3 a1_4 a1_5 a1_6 a1_7 a1_8 a1_9 a2_0 a2_1 a2_2 a2_3 a2_4 a2_5 a2_6 a2_7 a2_8 a2_9 t211 _ A58.out).mono ?_
      rintro e w110 ⟨rfl, hb⟩
      refine ⟨_, rfl, ?_⟩
      have n0_ := aM (bB (by (with_reducible repeat first | apply bN | apply bD | apply bA); exact BK198.out) hb)
      have n1_ := aM (bB (by (with_reducible repeat first | apply bN | apply bD | apply bA); exact BK199.out) hb)
      have n2_ := aM (bB (by (with_reducible repeat first | apply bN | apply bD | apply bA); exact BK200.out) hb)
      have n3_ := aM (bB (by (with_reducible repeat first | apply bN | apply bD | apply bA); exact BK201.out) hb)
      have n4_ := aM (bB (by (with_reducible repeat first | apply bN | apply bD | apply bA); exact BK207.out) hb)
      have n5_ := aM (bB (by (with_reducible repeat first | apply bN | apply bD | apply bA); exact BK208.out) hb)
      have n6_ := aM (lT (by repeat (first | (with_reducible first | exact HB.out | apply lA | apply lN | apply lD | refine lS ?_ GE198.out | refine lS ?_ GE199.out | refine lS ?_ GE200.out | refine lS ?_ GE201.out | refine lS ?_ GE207.out | refine lS ?_ GE208.out) | exact HB.out)) hb)
      clear BK198
      clear BK199
      clear BK200
      clear BK201
      clear BK207
      clear BK208
      clear HB
      have BK198 := n0_
      have BK199 := n1_
      have BK200 := n2_
      have BK201 := n3_
      have BK207 := n4_
      have BK208 := n5_
      have HB := n6_
      clear n0_ n1_ n2_ n3_ n4_ n5_ n6_
      (try clear hb)
      (try clear hb2)
      (try clear hk)
      (try clear hi)
      refine hK.out _ _ ⟨(bC BK198.out 0).trans rfl, (bC BK198.out 1).trans rfl, (bC BK198.out 2).trans rfl, (bC BK198.out 3).trans rfl, (bC BK198.out 4).trans rfl, (bC BK207.out 0).trans rfl, (bC BK207.out 1).trans rfl, (bC BK207.out 2).trans rfl, (bC BK207.out 3).trans rfl, (bC BK207.out 4).trans rfl, (bC BK207.out 5).trans rfl, (bC BK207.out 6).trans rfl, (bC BK207.out 7).trans rfl, (bC BK207.out 8).trans rfl, (bC BK207.out 9).trans rfl, (bC BK208.out 0).trans rfl, (bC BK208.out 1).trans rfl, (bC BK208.out 2).trans rfl, (bC BK208.out 3).trans rfl, (bC BK208.out 4).trans rfl, (bC BK208.out 5).trans rfl, (bC BK208.out 6).trans rfl, (bC BK208.out 7).trans rfl, (bC BK208.out 8).trans rfl, (bC BK208.out 9).trans rfl, (bC BK199.out 0).trans rfl, (bC BK199.out 1).trans rfl, (bC BK199.out 2).trans rfl, (bC BK199.out 3).trans rfl, (bC BK199.out 4).trans rfl, (bC BK199.out 5).trans rfl, (bC BK199.out 6).trans rfl, (bC BK199.out 7).trans rfl, (bC BK199.out 8).trans rfl, (bC BK199.out 9).trans rfl, (bC BK200.out 0).trans rfl, (bC BK200.out 1).trans rfl, (bC BK200.out 2).trans rfl, (bC BK200.out 3).trans rfl, (bC BK200.out 4).trans rfl, (bC BK200.out 5).trans rfl, (bC BK200.out 6).trans rfl, (bC BK200.out 7).trans rfl, (bC BK200.out 8).trans rfl, (bC BK200.out 9).trans rfl⟩ (fun hHeld => ?_)
      clear hK K
      refine norm_ (a' := ?_) ?_ ?_
      rotate_left
      ·show Act.put _ (some 75) _ = _
       simp only [Act.put, sA, sB, sC, i64_w, i32_w]
       rfl
      refine pure_ (i := 8) (N := some 76) (v := ?_) (a' := ?_) #[T,T,T,T,T,T,T,T,T,F,F,F,F,F,F,F,F,F,F,F,F] rfl rfl (any_of HT_.out (by kernel_rfl)) (fun _ _ _ h => h) (Or.inl ⟨by rfl, ?_⟩) ?_ ?_
      rotate_left
      ·intro w'
       go_simp
       with_reducible rfl
      rotate_left
      ·simp only [Act.put, sA, sB, sC, i64_w, i32_w]
       rfl
      refine pure_ (i := 9) (N := some 77) (v := ?_) (a' := ?_) #[T,T,T,T,T,T,T,T,T,T,F,F,F,F,F,F,F,F,F,F,F] rfl rfl (any_of HT_.out (by kernel_rfl)) (fun _ _ _ h => h) (Or.inl ⟨by rfl, ?_⟩) ?_ ?_
      rotate_left
      ·intro w'
       go_simp
       with_reducible rfl
      rotate_left
      ·simp only [Act.put, sA, sB, sC, i64_w, i32_w]
       rfl
      refine take_ (i := 10) (N := some 78) (v := ?_) (a' := ?_) #[T,T,T,T,T,T,T,T,T,T,T,F,F,F,F,F,F,F,F,F,F] rfl rfl (take_ofW HT_.out HW_.out (by kernel_rfl)) (fun _ _ _ h => h) (Or.inl ⟨by rfl, ?_⟩) hHeld ?_ ?_
      rotate_left
      ·rintro w' ⟨s0, s1, s2, s3, s4, s5, s6, s7, s8, s9, s10, s11, s12, s13, s14, s15, s16, s17, s18, s19, s20, s21, s22, s23, s24, s25, s26, s27, s28, s29, s30, s31, s32, s33, s34, s35, s36, s37, s38, s39, s40, s41, s42, s43, s44⟩
       go_simp
       with_reducible rfl
      rotate_left
      ·simp only [Act.put, sA, sB, sC, i64_w, i32_w]
       rfl
      refine take_ (i := 11) (N := some 79) (v := ?_) (a' := ?_) #[T,T,T,T,T,T,T,T,T,T,T,T,F,F,F,F,F,F,F,F,F] rfl rfl (take_ofW HT_.out HW_.out (by kernel_rfl)) (fun _ _ _ h => h) (Or.inl ⟨by rfl, ?_⟩) hHeld ?_ ?_
      rotate_left
      ·rintro w' ⟨s0, s1, s2, s3, s4, s5, s6, s7, s8, s9, s10, s11, s12, s13, s14, s15, s16, s17, s18, s19, s20, s21, s22, s23, s24, s25, s26, s27, s28, s29, s30, s31, s32, s33, s34, s35, s36, s37, s38, s39, s40, s41, s42, s43, s44⟩
       go_simp
       with_reducible rfl
      rotate_left
      ·simp only [Act.put, sA, sB, sC, i64_w, i32_w]
       rfl
      refine take_ (i := 12) (N := some 80) (v := ?_) (a' := ?_) #[T,T,T,T,T,T,T,T,T,T,T,T,T,F,F,F,F,F,F,F,F] rfl rfl (take_ofW HT_.out HW_.out (by kernel_rfl)) (fun _ _ _ h => h) (Or.inl ⟨by rfl, ?_⟩) hHeld ?_ ?_
      rotate_left
      ·rintro w' ⟨s0, s1, s2, s3, s4, s5, s6, s7, s8, s9, s10, s11, s12, s13, s14, s15, s16, s17, s18, s19, s20, s21, s22, s23, s24, s25, s26, s27, s28, s29, s30, s31, s32, s33, s34, s35, s36, s37, s38, s39, s40, s41, s42, s43, s44⟩
       go_simp
       with_reducible rfl
      rotate_left
      ·simp only [Act.put, sA, sB, sC, i64_w, i32_w]
       rfl
      refine take_ (i := 14) (N := some 82) (v := ?_) (a' := ?_) #[T,T,T,T,T,T,T,T,T,T,T,T,T,F,T,F,F,F,F,F,F] rfl rfl (take_ofW HT_.out HW_.out (by kernel_rfl)) (fun _ _ _ h => h) (Or.inl ⟨by rfl, ?_⟩) hHeld ?_ ?_
      rotate_left
      ·rintro w' ⟨s0, s1, s2, s3, s4, s5, s6, s7, s8, s9, s10, s11, s12, s13, s14, s15, s16, s17, s18, s19, s20, s21, s22, s23, s24, s25, s26, s27, s28, s29, s30, s31, s32, s33, s34, s35, s36, s37, s38, s39, s40, s41, s42, s43, s44⟩
       go_simp
       with_reducible rfl
      rotate_left
      ·simp only [Act.put, sA, sB, sC, i64_w, i32_w]
       rfl
      refine take_ (i := 15) (N := some 83) (v := ?_) (a' := ?_) #[T,T,T,T,T,T,T,T,T,T,T,T,T,F,T,T,F,F,F,F,F] rfl rfl (take_ofW HT_.out HW_.out (by kernel_rfl)) (fun _ _ _ h => h) (Or.inl ⟨by rfl, ?_⟩) hHeld ?_ ?_
      rotate_left
      ·rintro w' ⟨s0, s1, s2, s3, s4, s5, s6, s7, s8, s9, s10, s11, s12, s13, s14, s15, s16, s17, s18, s19, s20, s21, s22, s23, s24, s25, s26, s27, s28, s29, s30, s31, s32, s33, s34, s35, s36, s37, s38, s39, s40, s41, s42, s43, s44⟩
       go_simp
       with_reducible rfl
      rotate_left
      ·simp only [Act.put, sA, sB, sC, i64_w, i32_w]
       rfl
      refine take_ (i := 16) (N := some 84) (v := ?_) (a' := ?_) #[T,T,T,T,T,T,T,T,T,T,T,T,T,F,T,T,T,F,F,F,F] rfl rfl (take_ofW HT_.out HW_.out (by kernel_rfl)) (fun _ _ _ h => h) (Or.inl ⟨by rfl, ?_⟩) hHeld ?_ ?_
      rotate_left
      ·rintro w' ⟨s0, s1, s2, s3, s4, s5, s6, s7, s8, s9, s10, s11, s12, s13, s14, s15, s16, s17, s18, s19, s20, s21, s22, s23, s24, s25, s26, s27, s28, s29, s30, s31, s32, s33, s34, s35, s36, s37, s38, s39, s40, s41, s42, s43, s44⟩
       go_simp
       with_reducible rfl
      rotate_left
      ·simp only [Act.put, sA, sB, sC, i64_w, i32_w]
       rfl
      refine one_ (i := 13) (N := some 81) #[T,T,T,T,T,T,T,T,T,T,T,T,T,T,T,T,T,F,F,F,F] rfl rfl (one_of HT_.out (by kernel_rfl)) (by decide) (fun K hK => ?_)
      refine goes_ Try.func13 (by kernel_rfl) rfl #[.agg #[.int .u32 a0_0, .int .u32 a0_1, .int .i32 a0_2, .int .i32 a0_3, .int .i32 a0_4], .agg #[.int .u32 a1_0, .int .i32 a1_1, .int .i32 a1_2, .int .i32 a1_3, .int .i32 a1_4, .int .i32 a1_5, .int .i32 a1_6, .int .i32 a1_7, .int .i32 (wrap32 (a1_8 + a3_0)), .int .i32 (wrap32 (a1_9 + a3_1))], .agg #[.int .u32 a2_0, .int .i32 a2_1, .int .i32 a2_2, .int .i32 a2_3, .int .i32 a2_4, .int .i32 a2_5, .int .i32 a2_6, .int .i32 a2_7, .int .i32 (wrap32 (a2_8 + a3_0)), .int .i32 (wrap32 (a2_9 + a3_1))]] (by rfl) rfl rfl (by (try simp only [List.map_toArray, List.map_cons, List.map_nil]); first | done | rfl | (simp only [List.length_drop, List.length_take]; rfl)) ?_
      with_reducible refine (impulse_Strength.calls kj4 a0_0 a0_1 a0_2 a0_3 a0_4 a1_0 a1_1 a1_2 a1_3 a1_4 a1_5 a1_6 a1_7 (wrap32 (a1_8 + a3_0)) (wrap32 (a1_9 + a3_1)) a2_0 a2_1 a2_2 a2_3 a2_4 a2_5 a2_6 a2_7 (wrap32 (a2_8 + a3_0)) (wrap32 (a2_9 + a3_1)) t212 _ A60.out).mono ?_
      rintro e w111 ⟨rfl, hb⟩
      refine ⟨_, rfl, ?_⟩
      have n0_ := aM (bB (by (with_reducible repeat first | apply bN | apply bD | apply bA); exact BK198.out) hb)
      have n1_ := aM (bB (by (with_reducible repeat first | apply bN | apply bD | apply bA); exact BK199.out) hb)
      have n2_ := aM (bB (by (with_reducible repeat first | apply bN | apply bD | apply bA); exact BK200.out) hb)
      have n3_ := aM (bB (by (with_reducible repeat first | apply bN | apply bD | apply bA); exact BK201.out) hb)
      have n4_ := aM (bB (by (with_reducible repeat first | apply bN | apply bD | apply bA); exact BK207.out) hb)
      have n5_ := aM (bB (by (with_reducible repeat first | apply bN | apply bD | apply bA); exact BK208.out) hb)
      have n6_ := aM (lT (by repeat (first | (with_reducible first | exact HB.out | apply lA | apply lN | apply lD | refine lS ?_ GE198.out | refine lS ?_ GE199.out | refine lS ?_ GE200.out | refine lS ?_ GE201.out | refine lS ?_ GE207.out | refine lS ?_ GE208.out) | exact HB.out)) hb)
      clear BK198
      clear BK199
      clear BK200
      clear BK201
      clear BK207
      clear BK208
      clear HB
      have BK198 := n0_
      have BK199 := n1_
      have BK200 := n2_
      have BK201 := n3_
      have BK207 := n4_
      have BK208 := n5_
      have HB := n6_
      clear n0_ n1_ n2_ n3_ n4_ n5_ n6_
      (try clear hb)
      (try clear hb2)
      (try clear hk)
      (try clear hi)
      refine hK.out _ _ ⟨(bC BK198.out 0).trans rfl, (bC BK198.out 1).trans rfl, (bC BK198.out 2).trans rfl, (bC BK198.out 3).trans rfl, (bC BK198.out 4).trans rfl, (bC BK207.out 0).trans rfl, (bC BK207.out 1).trans rfl, (bC BK207.out 2).trans rfl, (bC BK207.out 3).trans rfl, (bC BK207.out 4).trans rfl, (bC BK207.out 5).trans rfl, (bC BK207.out 6).trans rfl, (bC BK207.out 7).trans rfl, (bC BK207.out 8).trans rfl, (bC BK207.out 9).trans rfl, (bC BK208.out 0).trans rfl, (bC BK208.out 1).trans rfl, (bC BK208.out 2).trans rfl, (bC BK208.out 3).trans rfl, (bC BK208.out 4).trans rfl, (bC BK208.out 5).trans rfl, (bC BK208.out 6).trans rfl, (bC BK208.out 7).trans rfl, (bC BK208.out 8).trans rfl, (bC BK208.out 9).trans rfl, (bC BK199.out 0).trans rfl, (bC BK199.out 1).trans rfl, (bC BK199.out 2).trans rfl, (bC BK199.out 3).trans rfl, (bC BK199.out 4).trans rfl, (bC BK199.out 5).trans rfl, (bC BK199.out 6).trans rfl, (bC BK199.out 7).trans rfl, (bC BK199.out 8).trans rfl, (bC BK199.out 9).trans rfl, (bC BK200.out 0).trans rfl, (bC BK200.out 1).trans rfl, (bC BK200.out 2).trans rfl, (bC BK200.out 3).trans rfl, (bC BK200.out 4).trans rfl, (bC BK200.out 5).trans rfl, (bC BK200.out 6).trans rfl, (bC BK200.out 7).trans rfl, (bC BK200.out 8).trans rfl, (bC BK200.out 9).trans rfl⟩ (fun hHeld => ?_)
      clear hK K
      refine norm_ (a' := ?_) ?_ ?_
      rotate_left
      ·show Act.put _ (some 81) _ = _
       simp only [Act.put, sA, sB, sC, i64_w, i32_w]
       rfl
      refine one_ (i := 17) (N := some 85) #[T,T,T,T,T,T,T,T,T,T,T,T,T,T,T,T,T,T,F,F,F] rfl rfl (one_of HT_.out (by kernel_rfl)) (by decide) (fun K hK => ?_)
      refine goes_ Try.func13 (by kernel_rfl) rfl #[.agg #[.int .u32 a0_0, .int .u32 a0_1, .int .i32 a0_2, .int .i32 a0_3, .int .i32 a0_4], .agg #[.int .u32 a1_0, .int .i32 a1_1, .int .i32 a1_2, .int .i32 a1_3, .int .i32 a1_4, .int .i32 a1_5, .int .i32 a1_6, .int .i32 a1_7, .int .i32 a1_8, .int .i32 a1_9], .agg #[.int .u32 a2_0, .int .i32 a2_1, .int .i32 a2_2, .int .i32 a2_3, .int .i32 a2_4, .int .i32 a2_5, .int .i32 a2_6, .int .i32 a2_7, .int .i32 a2_8, .int .i32 a2_9]] (by rfl) rfl rfl (by (try simp only [List.map_toArray, List.map_cons, List.map_nil]); first | done | rfl | (simp only [List.length_drop, List.length_take]; rfl)) ?_
      with_reducible refine (impulse_Strength.calls kj4 a0_0 a0_1 a0_2 a0_3 a0_4 a1_0 a1_1 a1_2 a1_3 a1_4 a1_5 a1_6 a1_7 a1_8 a1_9 a2_0 a2_1 a2_2 a2_3 a2_4 a2_5 a2_6 a2_7 a2_8 a2_9 t213 _ A61.out).mono ?_
      rintro e w112 ⟨rfl, hb⟩
      refine ⟨_, rfl, ?_⟩
      have n0_ := aM (bB (by (with_reducible repeat first | apply bN | apply bD | apply bA); exact BK198.out) hb)
      have n1_ := aM (bB (by (with_reducible repeat first | apply bN | apply bD | apply bA); exact BK199.out) hb)
      have n2_ := aM (bB (by (with_reducible repeat first | apply bN | apply bD | apply bA); exact BK200.out) hb)
      have n3_ := aM (bB (by (with_reducible repeat first | apply bN | apply bD | apply bA); exact BK201.out) hb)
      have n4_ := aM (bB (by (with_reducible repeat first | apply bN | apply bD | apply bA); exact BK207.out) hb)
      have n5_ := aM (bB (by (with_reducible repeat first | apply bN | apply bD | apply bA); exact BK208.out) hb)
      have n6_ := aM (lT (by repeat (first | (with_reducible first | exact HB.out | apply lA | apply lN | apply lD | refine lS ?_ GE198.out | refine lS ?_ GE199.out | refine lS ?_ GE200.out | refine lS ?_ GE201.out | refine lS ?_ GE207.out | refine lS ?_ GE208.out) | exact HB.out)) hb)
      clear BK198
      clear BK199
      clear BK200
      clear BK201
      clear BK207
      clear BK208
      clear HB
      have BK198 := n0_
      have BK199 := n1_
      have BK200 := n2_
      have BK201 := n3_
      have BK207 := n4_
      have BK208 := n5_
      have HB := n6_
      clear n0_ n1_ n2_ n3_ n4_ n5_ n6_
      (try clear hb)
      (try clear hb2)
      (try clear hk)
      (try clear hi)
      refine hK.out _ _ ⟨(bC BK198.out 0).trans rfl, (bC BK198.out 1).trans rfl, (bC BK198.out 2).trans rfl, (bC BK198.out 3).trans rfl, (bC BK198.out 4).trans rfl, (bC BK207.out 0).trans rfl, (bC BK207.out 1).trans rfl, (bC BK207.out 2).trans rfl, (bC BK207.out 3).trans rfl, (bC BK207.out 4).trans rfl, (bC BK207.out 5).trans rfl, (bC BK207.out 6).trans rfl, (bC BK207.out 7).trans rfl, (bC BK207.out 8).trans rfl, (bC BK207.out 9).trans rfl, (bC BK208.out 0).trans rfl, (bC BK208.out 1).trans rfl, (bC BK208.out 2).trans rfl, (bC BK208.out 3).trans rfl, (bC BK208.out 4).trans rfl, (bC BK208.out 5).trans rfl, (bC BK208.out 6).trans rfl, (bC BK208.out 7).trans rfl, (bC BK208.out 8).trans rfl, (bC BK208.out 9).trans rfl, (bC BK199.out 0).trans rfl, (bC BK199.out 1).trans rfl, (bC BK199.out 2).trans rfl, (bC BK199.out 3).trans rfl, (bC BK199.out 4).trans rfl, (bC BK199.out 5).trans rfl, (bC BK199.out 6).trans rfl, (bC BK199.out 7).trans rfl, (bC BK199.out 8).trans rfl, (bC BK199.out 9).trans rfl, (bC BK200.out 0).trans rfl, (bC BK200.out 1).trans rfl, (bC BK200.out 2).trans rfl, (bC BK200.out 3).trans rfl, (bC BK200.out 4).trans rfl, (bC BK200.out 5).trans rfl, (bC BK200.out 6).trans rfl, (bC BK200.out 7).trans rfl, (bC BK200.out 8).trans rfl, (bC BK200.out 9).trans rfl⟩ (fun hHeld => ?_)
      clear hK K
      refine norm_ (a' := ?_) ?_ ?_
      rotate_left
      ·show Act.put _ (some 85) _ = _
       simp only [Act.put, sA, sB, sC, i64_w, i32_w]
       rfl
      refine pure_ (i := 18) (N := some 86) (v := ?_) (a' := ?_) #[T,T,T,T,T,T,T,T,T,T,T,T,T,T,T,T,T,T,T,F,F] rfl rfl (any_of HT_.out (by kernel_rfl)) (fun _ _ _ h => h) (Or.inl ⟨by rfl, ?_⟩) ?_ ?_
      rotate_left
      ·intro w'
       go_simp
       with_reducible rfl
      rotate_left
      ·simp only [Act.put, sA, sB, sC, i64_w, i32_w]
       rfl
      refine pure_ (i := 19) (N := some 87) (v := ?_) (a' := ?_) #[T,T,T,T,T,T,T,T,T,T,T,T,T,T,T,T,T,T,T,T,F] rfl rfl (any_of HT_.out (by kernel_rfl)) (fun _ _ _ h => h) (Or.inl ⟨by rfl, ?_⟩) ?_ ?_
      rotate_left
      ·intro w'
       go_simp
       with_reducible rfl
      rotate_left
      ·simp only [Act.put, sA, sB, sC, i64_w, i32_w]
       rfl
      refine pure_ (i := 20) (N := some 8) (v := ?_) (a' := ?_) #[T,T,T,T,T,T,T,T,T,T,T,T,T,T,T,T,T,T,T,T,T] rfl rfl (any_of HT_.out (by kernel_rfl)) (fun _ _ _ h => h) (Or.inl ⟨by rfl, ?_⟩) ?_ ?_
      rotate_left
      ·intro w'
       go_simp
       with_reducible rfl
      rotate_left
      ·simp only [Act.put, sA, sB, sC, i64_w, i32_w]
       rfl
      refine done_ (done_of HT_.out (by kernel_rfl)) ?_
      try go_wp2
      go_ret
      exact ⟨by first | rfl | (simp [errW_none, errW_some] <;> rfl) | (simp [*, errW_none, errW_some] <;> rfl), by repeat (first | (with_reducible first | exact HB.out | apply lA | apply lN | apply lD | refine lS ?_ GE198.out | refine lS ?_ GE199.out | refine lS ?_ GE200.out | refine lS ?_ GE201.out | refine lS ?_ GE207.out | refine lS ?_ GE208.out) | exact HB.out)⟩
     ·rw [if_neg c59] at H
      have c59b0 : (t210 == t211) = false := beq_eq_false_iff_ne.mpr c59
      have c59b1 : (t210 != t211) = true := bne_iff_ne.mpr c59
      exact absurd ((Option.some.inj H).trans HR.out) (by decide)
    ·replace c56 := Bool.eq_false_iff.mpr c56
     subst c56
     have H1 : (some true) = some r := by rw [if_neg (show ¬ (false = true) by decide)] at H; exact H
     clear H
     have H := H1
     clear H1
     obtain rfl := Option.some.inj H
     try go_wp2
     have n0_ := aM (bD BK198.out)
     have n1_ := aM (bD BK199.out)
     have n2_ := aM (bD BK200.out)
     have n3_ := aM (bD BK201.out)
     have n4_ := aM (lD HB.out)
     clear BK198
     clear BK199
     clear BK200
     clear BK201
     clear HB
     have BK198 := n0_
     have BK199 := n1_
     have BK200 := n2_
     have BK201 := n3_
     have HB := n4_
     clear n0_ n1_ n2_ n3_ n4_
     refine start_ (n := 6) (S := fun w' => w'.cell? ⟨b199, 0, none⟩ = some (.int .u32 a1_0) ∧ w'.cell? ⟨b199, 1, none⟩ = some (.int .i32 a1_1) ∧ w'.cell? ⟨b199, 2, none⟩ = some (.int .i32 a1_2) ∧ w'.cell? ⟨b199, 3, none⟩ = some (.int .i32 a1_3) ∧ w'.cell? ⟨b199, 4, none⟩ = some (.int .i32 a1_4) ∧ w'.cell? ⟨b199, 5, none⟩ = some (.int .i32 a1_5) ∧ w'.cell? ⟨b199, 6, none⟩ = some (.int .i32 a1_6) ∧ w'.cell? ⟨b199, 7, none⟩ = some (.int .i32 a1_7) ∧ w'.cell? ⟨b199, 8, none⟩ = some (.int .i32 a1_8) ∧ w'.cell? ⟨b199, 9, none⟩ = some (.int .i32 a1_9) ∧ w'.cell? ⟨b200, 0, none⟩ = some (.int .u32 a2_0) ∧ w'.cell? ⟨b200, 1, none⟩ = some (.int .i32 a2_1) ∧ w'.cell? ⟨b200, 2, none⟩ = some (.int .i32 a2_2) ∧ w'.cell? ⟨b200, 3, none⟩ = some (.int .i32 a2_3) ∧ w'.cell? ⟨b200, 4, none⟩ = some (.int .i32 a2_4) ∧ w'.cell? ⟨b200, 5, none⟩ = some (.int .i32 a2_5) ∧ w'.cell? ⟨b200, 6, none⟩ = some (.int .i32 a2_6) ∧ w'.cell? ⟨b200, 7, none⟩ = some (.int .i32 a2_7) ∧ w'.cell? ⟨b200, 8, none⟩ = some (.int .i32 a2_8) ∧ w'.cell? ⟨b200, 9, none⟩ = some (.int .i32 a2_9)) (ds := []) #[F,F,F,F,F,F] (by kernel_rfl) rfl rfl ⟨(bC BK199.out 0).trans rfl, (bC BK199.out 1).trans rfl, (bC BK199.out 2).trans rfl, (bC BK199.out 3).trans rfl, (bC BK199.out 4).trans rfl, (bC BK199.out 5).trans rfl, (bC BK199.out 6).trans rfl, (bC BK199.out 7).trans rfl, (bC BK199.out 8).trans rfl, (bC BK199.out 9).trans rfl, (bC BK200.out 0).trans rfl, (bC BK200.out 1).trans rfl, (bC BK200.out 2).trans rfl, (bC BK200.out 3).trans rfl, (bC BK200.out 4).trans rfl, (bC BK200.out 5).trans rfl, (bC BK200.out 6).trans rfl, (bC BK200.out 7).trans rfl, (bC BK200.out 8).trans rfl, (bC BK200.out 9).trans rfl⟩ (fun hHeld => ?_)
     generalize wc.drew = w113 at BK198 BK199 BK200 BK201 HB hHeld ⊢
     refine take_ (i := 0) (N := some 33) (v := ?_) (a' := ?_) #[T,F,F,F,F,F] rfl rfl (by kernel_rfl) (fun _ _ _ h => h) (Or.inl ⟨by rfl, ?_⟩) hHeld ?_ ?_
     rotate_left
     ·rintro w' ⟨s0, s1, s2, s3, s4, s5, s6, s7, s8, s9, s10, s11, s12, s13, s14, s15, s16, s17, s18, s19⟩
      go_simp
      with_reducible rfl
     rotate_left
     ·simp only [Act.put, sA, sB, sC, i64_w, i32_w]
      rfl
     refine take_ (i := 1) (N := some 34) (v := ?_) (a' := ?_) #[T,T,F,F,F,F] rfl rfl (by kernel_rfl) (fun _ _ _ h => h) (Or.inl ⟨by rfl, ?_⟩) hHeld ?_ ?_
     rotate_left
     ·rintro w' ⟨s0, s1, s2, s3, s4, s5, s6, s7, s8, s9, s10, s11, s12, s13, s14, s15, s16, s17, s18, s19⟩
      go_simp
      with_reducible rfl
     rotate_left
     ·simp only [Act.put, sA, sB, sC, i64_w, i32_w]
      rfl
     refine join_ (σ := Nat × Nat) 2 #[T,T,T,T,F,F] (fun s_ => [(9, .pointer (some ⟨s_.1, 0, none⟩)), (10, .pointer (some ⟨s_.2, 0, none⟩))]) (fun s_ w' => (w'.cell? ⟨b199, 0, none⟩ = some (.int .u32 a1_0) ∧ w'.cell? ⟨b199, 1, none⟩ = some (.int .i32 a1_1) ∧ w'.cell? ⟨b199, 2, none⟩ = some (.int .i32 a1_2) ∧ w'.cell? ⟨b199, 3, none⟩ = some (.int .i32 a1_3) ∧ w'.cell? ⟨b199, 4, none⟩ = some (.int .i32 a1_4) ∧ w'.cell? ⟨b199, 5, none⟩ = some (.int .i32 a1_5) ∧ w'.cell? ⟨b199, 6, none⟩ = some (.int .i32 a1_6) ∧ w'.cell? ⟨b199, 7, none⟩ = some (.int .i32 a1_7) ∧ w'.cell? ⟨b199, 8, none⟩ = some (.int .i32 a1_8) ∧ w'.cell? ⟨b199, 9, none⟩ = some (.int .i32 a1_9) ∧ w'.cell? ⟨b200, 0, none⟩ = some (.int .u32 a2_0) ∧ w'.cell? ⟨b200, 1, none⟩ = some (.int .i32 a2_1) ∧ w'.cell? ⟨b200, 2, none⟩ = some (.int .i32 a2_2) ∧ w'.cell? ⟨b200, 3, none⟩ = some (.int .i32 a2_3) ∧ w'.cell? ⟨b200, 4, none⟩ = some (.int .i32 a2_4) ∧ w'.cell? ⟨b200, 5, none⟩ = some (.int .i32 a2_5) ∧ w'.cell? ⟨b200, 6, none⟩ = some (.int .i32 a2_6) ∧ w'.cell? ⟨b200, 7, none⟩ = some (.int .i32 a2_7) ∧ w'.cell? ⟨b200, 8, none⟩ = some (.int .i32 a2_8) ∧ w'.cell? ⟨b200, 9, none⟩ = some (.int .i32 a2_9)) ∧ (w'.heap[b198]? = some (.cells #[.int .u32 a0_0, .int .u32 a0_1, .int .i32 a0_2, .int .i32 a0_3, .int .i32 a0_4] 28 (0, 0))) ∧ (w'.heap[b199]? = some (.cells #[.int .u32 a1_0, .int .i32 a1_1, .int .i32 a1_2, .int .i32 a1_3, .int .i32 a1_4, .int .i32 a1_5, .int .i32 a1_6, .int .i32 a1_7, .int .i32 a1_8, .int .i32 a1_9] 30 (0, 0))) ∧ (w'.heap[b200]? = some (.cells #[.int .u32 a2_0, .int .i32 a2_1, .int .i32 a2_2, .int .i32 a2_3, .int .i32 a2_4, .int .i32 a2_5, .int .i32 a2_6, .int .i32 a2_7, .int .i32 a2_8, .int .i32 a2_9] 30 (0, 0))) ∧ (w'.heap[b201]? = some (.cells #[.int .i32 a3_0, .int .i32 a3_1] 26 (0, 0))) ∧ (w'.heap[s_.1]? = some (.cells #[.int .u32 0, .int .i32 0, .int .i32 0, .int .i32 0, .int .i32 0, .int .i32 0, .int .i32 0, .int .i32 0, .int .i32 0, .int .i32 0] 30 (0, 0))) ∧ (w'.heap[s_.2]? = some (.cells #[.int .u32 0, .int .i32 0, .int .i32 0, .int .i32 0, .int .i32 0, .int .i32 0, .int .i32 0, .int .i32 0, .int .i32 0, .int .i32 0] 30 (0, 0))) ∧ (w.heap.size ≤ s_.1) ∧ (w.heap.size ≤ s_.1) ∧ (b198 ≠ s_.1) ∧ (s_.1 ≠ b198) ∧ (b199 ≠ s_.1) ∧ (s_.1 ≠ b199) ∧ (b200 ≠ s_.1) ∧ (s_.1 ≠ b200) ∧ (b201 ≠ s_.1) ∧ (s_.1 ≠ b201) ∧ (s_.2 ≠ s_.1) ∧ (s_.1 ≠ s_.2) ∧ (w.heap.size ≤ s_.2) ∧ (w.heap.size ≤ s_.2) ∧ (b198 ≠ s_.2) ∧ (s_.2 ≠ b198) ∧ (b199 ≠ s_.2) ∧ (s_.2 ≠ b199) ∧ (b200 ≠ s_.2) ∧ (s_.2 ≠ b200) ∧ (b201 ≠ s_.2) ∧ (s_.2 ≠ b201) ∧ (Below w.heap.size w w')) ?_ ?_
     rotate_left
     ·intro hCont
      refine two_ (i := 2) (j := 3) (Ni := some 9) (Nj := some 10) #[T,T,T,F,F,F] #[T,T,F,T,F,F] rfl rfl rfl rfl (by kernel_rfl) (by decide) (by decide) (fun K hK => ?_) (fun K hK => ?_)
      ·skip
       refine box_step ?hg (N := 9) ?hd (cs := #[.int .u32 0, .int .i32 0, .int .i32 0, .int .i32 0, .int .i32 0, .int .i32 0, .int .i32 0, .int .i32 0, .int .i32 0, .int .i32 0]) (t := 30) ?hr ?_; (case hd => rfl); (case hg => rfl); (case hr => first | (go_simp; done) | (go_simp; rfl))
       intro b207 hg w114 hbox hb
       have n0_ := aM (bB (by (with_reducible repeat first | apply bN | apply bD | apply bA); exact BK198.out) hb)
       have n1_ := aM (bB (by (with_reducible repeat first | apply bN | apply bD | apply bA); exact BK199.out) hb)
       have n2_ := aM (bB (by (with_reducible repeat first | apply bN | apply bD | apply bA); exact BK200.out) hb)
       have n3_ := aM (bB (by (with_reducible repeat first | apply bN | apply bD | apply bA); exact BK201.out) hb)
       have n4_ := aM (lT (by repeat (first | (with_reducible first | exact HB.out | apply lA | apply lN | apply lD | refine lS ?_ GE198.out | refine lS ?_ GE199.out | refine lS ?_ GE200.out | refine lS ?_ GE201.out) | exact HB.out)) hb)
       have n5_ := aM (hbox)
       have n6_ := aM ((by rw [hg]; exact (lZ (by repeat (first | (with_reducible first | exact HB.out | apply lA | apply lN | apply lD | refine lS ?_ GE198.out | refine lS ?_ GE199.out | refine lS ?_ GE200.out | refine lS ?_ GE201.out) | exact HB.out))) : w.heap.size ≤ b207))
       have n7_ := aM ((by rw [hg]; exact (lZ (by repeat (first | (with_reducible first | exact HB.out | apply lA | apply lN | apply lD | refine lS ?_ GE198.out | refine lS ?_ GE199.out | refine lS ?_ GE200.out | refine lS ?_ GE201.out) | exact HB.out))) : w.heap.size ≤ b207))
       have n8_ := aM ((by rw [hg]; exact Nat.ne_of_lt (bL (g := b198) (by (with_reducible repeat first | apply bN | apply bD | apply bA); exact BK198.out)) : b198 ≠ b207))
       have n9_ := aM ((by rw [hg]; exact Nat.ne_of_gt (bL (g := b198) (by (with_reducible repeat first | apply bN | apply bD | apply bA); exact BK198.out)) : b207 ≠ b198))
       have n10_ := aM ((by rw [hg]; exact Nat.ne_of_lt (bL (g := b199) (by (with_reducible repeat first | apply bN | apply bD | apply bA); exact BK199.out)) : b199 ≠ b207))
       have n11_ := aM ((by rw [hg]; exact Nat.ne_of_gt (bL (g := b199) (by (with_reducible repeat first | apply bN | apply bD | apply bA); exact BK199.out)) : b207 ≠ b199))
       have n12_ := aM ((by rw [hg]; exact Nat.ne_of_lt (bL (g := b200) (by (with_reducible repeat first | apply bN | apply bD | apply bA); exact BK200.out)) : b200 ≠ b207))
       have n13_ := aM ((by rw [hg]; exact Nat.ne_of_gt (bL (g := b200) (by (with_reducible repeat first | apply bN | apply bD | apply bA); exact BK200.out)) : b207 ≠ b200))
       have n14_ := aM ((by rw [hg]; exact Nat.ne_of_lt (bL (g := b201) (by (with_reducible repeat first | apply bN | apply bD | apply bA); exact BK201.out)) : b201 ≠ b207))
       have n15_ := aM ((by rw [hg]; exact Nat.ne_of_gt (bL (g := b201) (by (with_reducible repeat first | apply bN | apply bD | apply bA); exact BK201.out)) : b207 ≠ b201))
       clear BK198
       clear BK199
       clear BK200
       clear BK201
       clear HB
       have BK198 := n0_
       have BK199 := n1_
       have BK200 := n2_
       have BK201 := n3_
       have HB := n4_
       have BK207 := n5_
       have GW207 := n6_
       have GE207 := n7_
       have N12_ := n8_
       have N13_ := n9_
       have N14_ := n10_
       have N15_ := n11_
       have N16_ := n12_
       have N17_ := n13_
       have N18_ := n14_
       have N19_ := n15_
       clear n0_ n1_ n2_ n3_ n4_ n5_ n6_ n7_ n8_ n9_ n10_ n11_ n12_ n13_ n14_ n15_
       clear hb hbox hg
       refine hK.out _ _ ⟨(bC BK199.out 0).trans rfl, (bC BK199.out 1).trans rfl, (bC BK199.out 2).trans rfl, (bC BK199.out 3).trans rfl, (bC BK199.out 4).trans rfl, (bC BK199.out 5).trans rfl, (bC BK199.out 6).trans rfl, (bC BK199.out 7).trans rfl, (bC BK199.out 8).trans rfl, (bC BK199.out 9).trans rfl, (bC BK200.out 0).trans rfl, (bC BK200.out 1).trans rfl, (bC BK200.out 2).trans rfl, (bC BK200.out 3).trans rfl, (bC BK200.out 4).trans rfl, (bC BK200.out 5).trans rfl, (bC BK200.out 6).trans rfl, (bC BK200.out 7).trans rfl, (bC BK200.out 8).trans rfl, (bC BK200.out 9).trans rfl⟩ (fun hHeld => ?_)
       clear hK K
       refine norm_ (a' := ?_) ?_ ?_
       rotate_left
       ·show Act.put _ (some 9) _ = _
        simp only [Act.put, sA, sB, sC, i64_w, i32_w]
        rfl
       refine one_ (i := 3) (N := some 10) #[T,T,T,T,F,F] rfl rfl (by kernel_rfl) (by decide) (fun K hK => ?_)
       refine box_step ?hg (N := 10) ?hd (cs := #[.int .u32 0, .int .i32 0, .int .i32 0, .int .i32 0, .int .i32 0, .int .i32 0, .int .i32 0, .int .i32 0, .int .i32 0, .int .i32 0]) (t := 30) ?hr ?_; (case hd => rfl); (case hg => rfl); (case hr => first | (go_simp; done) | (go_simp; rfl))
       intro b208 hg w115 hbox hb
       have n0_ := aM (bB (by (with_reducible repeat first | apply bN | apply bD | apply bA); exact BK198.out) hb)
       have n1_ := aM (bB (by (with_reducible repeat first | apply bN | apply bD | apply bA); exact BK199.out) hb)
       have n2_ := aM (bB (by (with_reducible repeat first | apply bN | apply bD | apply bA); exact BK200.out) hb)
       have n3_ := aM (bB (by (with_reducible repeat first | apply bN | apply bD | apply bA); exact BK201.out) hb)
       have n4_ := aM (bB (by (with_reducible repeat first | apply bN | apply bD | apply bA); exact BK207.out) hb)
       have n5_ := aM (lT (by repeat (first | (with_reducible first | exact HB.out | apply lA | apply lN | apply lD | refine lS ?_ GE198.out | refine lS ?_ GE199.out | refine lS ?_ GE200.out | refine lS ?_ GE201.out | refine lS ?_ GE207.out) | exact HB.out)) hb)
       have n6_ := aM (hbox)
       have n7_ := aM ((by rw [hg]; exact (lZ (by repeat (first | (with_reducible first | exact HB.out | apply lA | apply lN | apply lD | refine lS ?_ GE198.out | refine lS ?_ GE199.out | refine lS ?_ GE200.out | refine lS ?_ GE201.out | refine lS ?_ GE207.out) | exact HB.out))) : w.heap.size ≤ b208))
       have n8_ := aM ((by rw [hg]; exact (lZ (by repeat (first | (with_reducible first | exact HB.out | apply lA | apply lN | apply lD | refine lS ?_ GE198.out | refine lS ?_ GE199.out | refine lS ?_ GE200.out | refine lS ?_ GE201.out | refine lS ?_ GE207.out) | exact HB.out))) : w.heap.size ≤ b208))
       have n9_ := aM ((by rw [hg]; exact Nat.ne_of_lt (bL (g := b198) (by (with_reducible repeat first | apply bN | apply bD | apply bA); exact BK198.out)) : b198 ≠ b208))
       have n10_ := aM ((by rw [hg]; exact Nat.ne_of_gt (bL (g := b198) (by (with_reducible repeat first | apply bN | apply bD | apply bA); exact BK198.out)) : b208 ≠ b198))
       have n11_ := aM ((by rw [hg]; exact Nat.ne_of_lt (bL (g := b199) (by (with_reducible repeat first | apply bN | apply bD | apply bA); exact BK199.out)) : b199 ≠ b208))
       have n12_ := aM ((by rw [hg]; exact Nat.ne_of_gt (bL (g := b199) (by (with_reducible repeat first | apply bN | apply bD | apply bA); exact BK199.out)) : b208 ≠ b199))
       have n13_ := aM ((by rw [hg]; exact Nat.ne_of_lt (bL (g := b200) (by (with_reducible repeat first | apply bN | apply bD | apply bA); exact BK200.out)) : b200 ≠ b208))
       have n14_ := aM ((by rw [hg]; exact Nat.ne_of_gt (bL (g := b200) (by (with_reducible repeat first | apply bN | apply bD | apply bA); exact BK200.out)) : b208 ≠ b200))
       have n15_ := aM ((by rw [hg]; exact Nat.ne_of_lt (bL (g := b201) (by (with_reducible repeat first | apply bN | apply bD | apply bA); exact BK201.out)) : b201 ≠ b208))
       have n16_ := aM ((by rw [hg]; exact Nat.ne_of_gt (bL (g := b201) (by (with_reducible repeat first | apply bN | apply bD | apply bA); exact BK201.out)) : b208 ≠ b201))
       have n17_ := aM ((by rw [hg]; exact Nat.ne_of_lt (bL (g := b207) (by (with_reducible repeat first | apply bN | apply bD | apply bA); exact BK207.out)) : b207 ≠ b208))
       have n18_ := aM ((by rw [hg]; exact Nat.ne_of_gt (bL (g := b207) (by (with_reducible repeat first | apply bN | apply bD | apply bA); exact BK207.out)) : b208 ≠ b207))
       clear BK198
       clear BK199
       clear BK200
       clear BK201
       clear BK207
       clear HB
       have BK198 := n0_
       have BK199 := n1_
       have BK200 := n2_
       have BK201 := n3_
       have BK207 := n4_
       have HB := n5_
       have BK208 := n6_
       have GW208 := n7_
       have GE208 := n8_
       have N20_ := n9_
       have N21_ := n10_
       have N22_ := n11_
       have N23_ := n12_
       have N24_ := n13_
       have N25_ := n14_
       have N26_ := n15_
       have N27_ := n16_
       have N28_ := n17_
       have N29_ := n18_
       clear n0_ n1_ n2_ n3_ n4_ n5_ n6_ n7_ n8_ n9_ n10_ n11_ n12_ n13_ n14_ n15_ n16_ n17_ n18_
       clear hb hbox hg
       refine hK.out _ _ ⟨(bC BK199.out 0).trans rfl, (bC BK199.out 1).trans rfl, (bC BK199.out 2).trans rfl, (bC BK199.out 3).trans rfl, (bC BK199.out 4).trans rfl, (bC BK199.out 5).trans rfl, (bC BK199.out 6).trans rfl, (bC BK199.out 7).trans rfl, (bC BK199.out 8).trans rfl, (bC BK199.out 9).trans rfl, (bC BK200.out 0).trans rfl, (bC BK200.out 1).trans rfl, (bC BK200.out 2).trans rfl, (bC BK200.out 3).trans rfl, (bC BK200.out 4).trans rfl, (bC BK200.out 5).trans rfl, (bC BK200.out 6).trans rfl, (bC BK200.out 7).trans rfl, (bC BK200.out 8).trans rfl, (bC BK200.out 9).trans rfl⟩ (fun hHeld => ?_)
       clear hK K
       refine norm_ (a' := ?_) ?_ ?_
       rotate_left
       ·show Act.put _ (some 10) _ = _
        simp only [Act.put, sA, sB, sC, i64_w, i32_w]
        rfl
       exact norm_ (by simp only [putAll, Act.put, sA, sB, sC]) (hCont (b207, b208) _ ⟨hHeld, (by (with_reducible repeat first | apply bN | apply bD | apply bA); exact BK198.out), (by (with_reducible repeat first | apply bN | apply bD | apply bA); exact BK199.out), (by (with_reducible repeat first | apply bN | apply bD | apply bA); exact BK200.out), (by (with_reducible repeat first | apply bN | apply bD | apply bA); exact BK201.out), (by (with_reducible repeat first | apply bN | apply bD | apply bA); exact BK207.out), (by (with_reducible repeat first | apply bN | apply bD | apply bA); exact BK208.out), GW207.out, GE207.out, N12_.out, N13_.out, N14_.out, N15_.out, N16_.out, N17_.out, N18_.out, N19_.out, N29_.out, N28_.out, GW208.out, GE208.out, N20_.out, N21_.out, N22_.out, N23_.out, N24_.out, N25_.out, N26_.out, N27_.out, (by repeat (first | (with_reducible first | exact HB.out | apply lA | apply lN | apply lD | refine lS ?_ GE198.out | refine lS ?_ GE199.out | refine lS ?_ GE200.out | refine lS ?_ GE201.out | refine lS ?_ GE207.out | refine lS ?_ GE208.out) | exact HB.out))⟩)
      ·skip
       refine box_step ?hg (N := 10) ?hd (cs := #[.int .u32 0, .int .i32 0, .int .i32 0, .int .i32 0, .int .i32 0, .int .i32 0, .int .i32 0, .int .i32 0, .int .i32 0, .int .i32 0]) (t := 30) ?hr ?_; (case hd => rfl); (case hg => rfl); (case hr => first | (go_simp; done) | (go_simp; rfl))
       intro b208 hg w114 hbox hb
       have n0_ := aM (bB (by (with_reducible repeat first | apply bN | apply bD | apply bA); exact BK198.out) hb)
       have n1_ := aM (bB (by (with_reducible repeat first | apply bN | apply bD | apply bA); exact BK199.out) hb)
       have n2_ := aM (bB (by (with_reducible repeat first | apply bN | apply bD | apply bA); exact BK200.out) hb)
       have n3_ := aM (bB (by (with_reducible repeat first | apply bN | apply bD | apply bA); exact BK201.out) hb)
       have n4_ := aM (lT (by repeat (first | (with_reducible first | exact HB.out | apply lA | apply lN | apply lD | refine lS ?_ GE198.out | refine lS ?_ GE199.out | refine lS ?_ GE200.out | refine lS ?_ GE201.out) | exact HB.out)) hb)
       have n5_ := aM (hbox)
       have n6_ := aM ((by rw [hg]; exact (lZ (by repeat (first | (with_reducible first | exact HB.out | apply lA | apply lN | apply lD | refine lS ?_ GE198.out | refine lS ?_ GE199.out | refine lS ?_ GE200.out | refine lS ?_ GE201.out) | exact HB.out))) : w.heap.size ≤ b208))
       have n7_ := aM ((by rw [hg]; exact (lZ (by repeat (first | (with_reducible first | exact HB.out | apply lA | apply lN | apply lD | refine lS ?_ GE198.out | refine lS ?_ GE199.out | refine lS ?_ GE200.out | refine lS ?_ GE201.out) | exact HB.out))) : w.heap.size ≤ b208))
       have n8_ := aM ((by rw [hg]; exact Nat.ne_of_lt (bL (g := b198) (by (with_reducible repeat first | apply bN | apply bD | apply bA); exact BK198.out)) : b198 ≠ b208))
       have n9_ := aM ((by rw [hg]; exact Nat.ne_of_gt (bL (g := b198) (by (with_reducible repeat first | apply bN | apply bD | apply bA); exact BK198.out)) : b208 ≠ b198))
       have n10_ := aM ((by rw [hg]; exact Nat.ne_of_lt (bL (g := b199) (by (with_reducible repeat first | apply bN | apply bD | apply bA); exact BK199.out)) : b199 ≠ b208))
       have n11_ := aM ((by rw [hg]; exact Nat.ne_of_gt (bL (g := b199) (by (with_reducible repeat first | apply bN | apply bD | apply bA); exact BK199.out)) : b208 ≠ b199))
       have n12_ := aM ((by rw [hg]; exact Nat.ne_of_lt (bL (g := b200) (by (with_reducible repeat first | apply bN | apply bD | apply bA); exact BK200.out)) : b200 ≠ b208))
       have n13_ := aM ((by rw [hg]; exact Nat.ne_of_gt (bL (g := b200) (by (with_reducible repeat first | apply bN | apply bD | apply bA); exact BK200.out)) : b208 ≠ b200))
       have n14_ := aM ((by rw [hg]; exact Nat.ne_of_lt (bL (g := b201) (by (with_reducible repeat first | apply bN | apply bD | apply bA); exact BK201.out)) : b201 ≠ b208))
       have n15_ := aM ((by rw [hg]; exact Nat.ne_of_gt (bL (g := b201) (by (with_reducible repeat first | apply bN | apply bD | apply bA); exact BK201.out)) : b208 ≠ b201))
       clear BK198
       clear BK199
       clear BK200
       clear BK201
       clear HB
       have BK198 := n0_
       have BK199 := n1_
       have BK200 := n2_
       have BK201 := n3_
       have HB := n4_
       have BK208 := n5_
       have GW208 := n6_
       have GE208 := n7_
       have N20_ := n8_
       have N21_ := n9_
       have N22_ := n10_
       have N23_ := n11_
       have N24_ := n12_
       have N25_ := n13_
       have N26_ := n14_
       have N27_ := n15_
       clear n0_ n1_ n2_ n3_ n4_ n5_ n6_ n7_ n8_ n9_ n10_ n11_ n12_ n13_ n14_ n15_
       clear hb hbox hg
       refine hK.out _ _ ⟨(bC BK199.out 0).trans rfl, (bC BK199.out 1).trans rfl, (bC BK199.out 2).trans rfl, (bC BK199.out 3).trans rfl, (bC BK199.out 4).trans rfl, (bC BK199.out 5).trans rfl, (bC BK199.out 6).trans rfl, (bC BK199.out 7).trans rfl, (bC BK199.out 8).trans rfl, (bC BK199.out 9).trans rfl, (bC BK200.out 0).trans rfl, (bC BK200.out 1).trans rfl, (bC BK200.out 2).trans rfl, (bC BK200.out 3).trans rfl, (bC BK200.out 4).trans rfl, (bC BK200.out 5).trans rfl, (bC BK200.out 6).trans rfl, (bC BK200.out 7).trans rfl, (bC BK200.out 8).trans rfl, (bC BK200.out 9).trans rfl⟩ (fun hHeld => ?_)
       clear hK K
       refine norm_ (a' := ?_) ?_ ?_
       rotate_left
       ·show Act.put _ (some 10) _ = _
        simp only [Act.put, sA, sB, sC, i64_w, i32_w]
        rfl
       refine one_ (i := 2) (N := some 9) #[T,T,T,T,F,F] rfl rfl (by kernel_rfl) (by decide) (fun K hK => ?_)
       refine box_step ?hg (N := 9) ?hd (cs := #[.int .u32 0, .int .i32 0, .int .i32 0, .int .i32 0, .int .i32 0, .int .i32 0, .int .i32 0, .int .i32 0, .int .i32 0, .int .i32 0]) (t := 30) ?hr ?_; (case hd => rfl); (case hg => rfl); (case hr => first | (go_simp; done) | (go_simp; rfl))
       intro b207 hg w115 hbox hb
       have n0_ := aM (bB (by (with_reducible repeat first | apply bN | apply bD | apply bA); exact BK198.out) hb)
       have n1_ := aM (bB (by (with_reducible repeat first | apply bN | apply bD | apply bA); exact BK199.out) hb)
       have n2_ := aM (bB (by (with_reducible repeat first | apply bN | apply bD | apply bA); exact BK200.out) hb)
       have n3_ := aM (bB (by (with_reducible repeat first | apply bN | apply bD | apply bA); exact BK201.out) hb)
       have n4_ := aM (bB (by (with_reducible repeat first | apply bN | apply bD | apply bA); exact BK208.out) hb)
       have n5_ := aM (lT (by repeat (first | (with_reducible first | exact HB.out | apply lA | apply lN | apply lD | refine lS ?_ GE198.out | refine lS ?_ GE199.out | refine lS ?_ GE200.out | refine lS ?_ GE201.out | refine lS ?_ GE208.out) | exact HB.out)) hb)
       have n6_ := aM (hbox)
       have n7_ := aM ((by rw [hg]; exact (lZ (by repeat (first | (with_reducible first | exact HB.out | apply lA | apply lN | apply lD | refine lS ?_ GE198.out | refine lS ?_ GE199.out | refine lS ?_ GE200.out | refine lS ?_ GE201.out | refine lS ?_ GE208.out) | exact HB.out))) : w.heap.size ≤ b207))
       have n8_ := aM ((by rw [hg]; exact (lZ (by repeat (first | (with_reducible first | exact HB.out | apply lA | apply lN | apply lD | refine lS ?_ GE198.out | refine lS ?_ GE199.out | refine lS ?_ GE200.out | refine lS ?_ GE201.out | refine lS ?_ GE208.out) | exact HB.out))) : w.heap.size ≤ b207))
       have n9_ := aM ((by rw [hg]; exact Nat.ne_of_lt (bL (g := b198) (by (with_reducible repeat first | apply bN | apply bD | apply bA); exact BK198.out)) : b198 ≠ b207))
       have n10_ := aM ((by rw [hg]; exact Nat.ne_of_gt (bL (g := b198) (by (with_reducible repeat first | apply bN | apply bD | apply bA); exact BK198.out)) : b207 ≠ b198))
       have n11_ := aM ((by rw [hg]; exact Nat.ne_of_lt (bL (g := b199) (by (with_reducible repeat first | apply bN | apply bD | apply bA); exact BK199.out)) : b199 ≠ b207))
       have n12_ := aM ((by rw [hg]; exact Nat.ne_of_gt (bL (g := b199) (by (with_reducible repeat first | apply bN | apply bD | apply bA); exact BK199.out)) : b207 ≠ b199))
       have n13_ := aM ((by rw [hg]; exact Nat.ne_of_lt (bL (g := b200) (by (with_reducible repeat first | apply bN | apply bD | apply bA); exact BK200.out)) : b200 ≠ b207))
       have n14_ := aM ((by rw [hg]; exact Nat.ne_of_gt (bL (g := b200) (by (with_reducible repeat first | apply bN | apply bD | apply bA); exact BK200.out)) : b207 ≠ b200))
       have n15_ := aM ((by rw [hg]; exact Nat.ne_of_lt (bL (g := b201) (by (with_reducible repeat first | apply bN | apply bD | apply bA); exact BK201.out)) : b201 ≠ b207))
       have n16_ := aM ((by rw [hg]; exact Nat.ne_of_gt (bL (g := b201) (by (with_reducible repeat first | apply bN | apply bD | apply bA); exact BK201.out)) : b207 ≠ b201))
       have n17_ := aM ((by rw [hg]; exact Nat.ne_of_lt (bL (g := b208) (by (with_reducible repeat first | apply bN | apply bD | apply bA); exact BK208.out)) : b208 ≠ b207))
       have n18_ := aM ((by rw [hg]; exact Nat.ne_of_gt (bL (g := b208) (by (with_reducible repeat first | apply bN | apply bD | apply bA); exact BK208.out)) : b207 ≠ b208))
       clear BK198
       clear BK199
       clear BK200
       clear BK201
       clear BK208
       clear HB
       have BK198 := n0_
       have BK199 := n1_
       have BK200 := n2_
       have BK201 := n3_
       have BK208 := n4_
       have HB := n5_
       have BK207 := n6_
       have GW207 := n7_
       have GE207 := n8_
       have N12_ := n9_
       have N13_ := n10_
       have N14_ := n11_
       have N15_ := n12_
       have N16_ := n13_
       have N17_ := n14_
       have N18_ := n15_
       have N19_ := n16_
       have N29_ := n17_
       have N28_ := n18_
       clear n0_ n1_ n2_ n3_ n4_ n5_ n6_ n7_ n8_ n9_ n10_ n11_ n12_ n13_ n14_ n15_ n16_ n17_ n18_
       clear hb hbox hg
       refine hK.out _ _ ⟨(bC BK199.out 0).trans rfl, (bC BK199.out 1).trans rfl, (bC BK199.out 2).trans rfl, (bC BK199.out 3).trans rfl, (bC BK199.out 4).trans rfl, (bC BK199.out 5).trans rfl, (bC BK199.out 6).trans rfl, (bC BK199.out 7).trans rfl, (bC BK199.out 8).trans rfl, (bC BK199.out 9).trans rfl, (bC BK200.out 0).trans rfl, (bC BK200.out 1).trans rfl, (bC BK200.out 2).trans rfl, (bC BK200.out 3).trans rfl, (bC BK200.out 4).trans rfl, (bC BK200.out 5).trans rfl, (bC BK200.out 6).trans rfl, (bC BK200.out 7).trans rfl, (bC BK200.out 8).trans rfl, (bC BK200.out 9).trans rfl⟩ (fun hHeld => ?_)
       clear hK K
       refine norm_ (a' := ?_) ?_ ?_
       rotate_left
       ·show Act.put _ (some 9) _ = _
        simp only [Act.put, sA, sB, sC, i64_w, i32_w]
        rfl
       exact norm_ (by simp only [putAll, Act.put, sA, sB, sC]) (hCont (b207, b208) _ ⟨hHeld, (by (with_reducible repeat first | apply bN | apply bD | apply bA); exact BK198.out), (by (with_reducible repeat first | apply bN | apply bD | apply bA); exact BK199.out), (by (with_reducible repeat first | apply bN | apply bD | apply bA); exact BK200.out), (by (with_reducible repeat first | apply bN | apply bD | apply bA); exact BK201.out), (by (with_reducible repeat first | apply bN | apply bD | apply bA); exact BK207.out), (by (with_reducible repeat first | apply bN | apply bD | apply bA); exact BK208.out), GW207.out, GE207.out, N12_.out, N13_.out, N14_.out, N15_.out, N16_.out, N17_.out, N18_.out, N19_.out, N29_.out, N28_.out, GW208.out, GE208.out, N20_.out, N21_.out, N22_.out, N23_.out, N24_.out, N25_.out, N26_.out, N27_.out, (by repeat (first | (with_reducible first | exact HB.out | apply lA | apply lN | apply lD | refine lS ?_ GE198.out | refine lS ?_ GE199.out | refine lS ?_ GE200.out | refine lS ?_ GE201.out | refine lS ?_ GE208.out | refine lS ?_ GE207.out) | exact HB.out))⟩)
     rintro ⟨b207, b208⟩ w116 ⟨hS_, h0_, h1_, h2_, h3_, h4_, h5_, h6_, h7_, h8_, h9_, h10_, h11_, h12_, h13_, h14_, h15_, h16_, h17_, h18_, h19_, h20_, h21_, h22_, h23_, h24_, h25_, h26_, h27_, h28_⟩
     have n0_ : Aside0 (w116.heap[b198]? = some (.cells #[.int .u32 a0_0, .int .u32 a0_1, .int .i32 a0_2, .int .i32 a0_3, .int .i32 a0_4] 28 (0, 0))) := ⟨h0_⟩
     have n1_ : Aside0 (w116.heap[b199]? = some (.cells #[.int .u32 a1_0, .int .i32 a1_1, .int .i32 a1_2, .int .i32 a1_3, .int .i32 a1_4, .int .i32 a1_5, .int .i32 a1_6, .int .i32 a1_7, .int .i32 a1_8, .int .i32 a1_9] 30 (0, 0))) := ⟨h1_⟩
     have n2_ : Aside0 (w116.heap[b200]? = some (.cells #[.int .u32 a2_0, .int .i32 a2_1, .int .i32 a2_2, .int .i32 a2_3, .int .i32 a2_4, .int .i32 a2_5, .int .i32 a2_6, .int .i32 a2_7, .int .i32 a2_8, .int .i32 a2_9] 30 (0, 0))) := ⟨h2_⟩
     have n3_ : Aside0 (w116.heap[b201]? = some (.cells #[.int .i32 a3_0, .int .i32 a3_1] 26 (0, 0))) := ⟨h3_⟩
     have n4_ : Aside0 (w116.heap[b207]? = some (.cells #[.int .u32 0, .int .i32 0, .int .i32 0, .int .i32 0, .int .i32 0, .int .i32 0, .int .i32 0, .int .i32 0, .int .i32 0, .int .i32 0] 30 (0, 0))) := ⟨h4_⟩
     have n5_ : Aside0 (w116.heap[b208]? = some (.cells #[.int .u32 0, .int .i32 0, .int .i32 0, .int .i32 0, .int .i32 0, .int .i32 0, .int .i32 0, .int .i32 0, .int .i32 0, .int .i32 0] 30 (0, 0))) := ⟨h5_⟩
     have n6_ : Aside0 (w.heap.size ≤ b207) := ⟨h6_⟩
     have n7_ : Aside0 (w.heap.size ≤ b207) := ⟨h7_⟩
     have n8_ : Aside0 (b198 ≠ b207) := ⟨h8_⟩
     have n9_ : Aside0 (b207 ≠ b198) := ⟨h9_⟩
     have n10_ : Aside0 (b199 ≠ b207) := ⟨h10_⟩
     have n11_ : Aside0 (b207 ≠ b199) := ⟨h11_⟩
     have n12_ : Aside0 (b200 ≠ b207) := ⟨h12_⟩
     have n13_ : Aside0 (b207 ≠ b200) := ⟨h13_⟩
     have n14_ : Aside0 (b201 ≠ b207) := ⟨h14_⟩
     have n15_ : Aside0 (b207 ≠ b201) := ⟨h15_⟩
     have n16_ : Aside0 (b208 ≠ b207) := ⟨h16_⟩
     have n17_ : Aside0 (b207 ≠ b208) := ⟨h17_⟩
     have n18_ : Aside0 (w.heap.size ≤ b208) := ⟨h18_⟩
     have n19_ : Aside0 (w.heap.size ≤ b208) := ⟨h19_⟩
     have n20_ : Aside0 (b198 ≠ b208) := ⟨h20_⟩
     have n21_ : Aside0 (b208 ≠ b198) := ⟨h21_⟩
     have n22_ : Aside0 (b199 ≠ b208) := ⟨h22_⟩
     have n23_ : Aside0 (b208 ≠ b199) := ⟨h23_⟩
     have n24_ : Aside0 (b200 ≠ b208) := ⟨h24_⟩
     have n25_ : Aside0 (b208 ≠ b200) := ⟨h25_⟩
     have n26_ : Aside0 (b201 ≠ b208) := ⟨h26_⟩
     have n27_ : Aside0 (b208 ≠ b201) := ⟨h27_⟩
     have n28_ : Aside0 (Below w.heap.size w w116) := ⟨h28_⟩
     clear BK198
     clear BK199
     clear BK200
     clear BK201
     clear HB
     clear h0_ h1_ h2_ h3_ h4_ h5_ h6_ h7_ h8_ h9_ h10_ h11_ h12_ h13_ h14_ h15_ h16_ h17_ h18_ h19_ h20_ h21_ h22_ h23_ h24_ h25_ h26_ h27_ h28_
     have BK198 := n0_
     have BK199 := n1_
     have BK200 := n2_
     have BK201 := n3_
     have BK207 := n4_
     have BK208 := n5_
     have GW207 := n6_
     have GE207 := n7_
     have N12_ := n8_
     have N13_ := n9_
     have N14_ := n10_
     have N15_ := n11_
     have N16_ := n12_
     have N17_ := n13_
     have N18_ := n14_
     have N19_ := n15_
     have N29_ := n16_
     have N28_ := n17_
     have GW208 := n18_
     have GE208 := n19_
     have N20_ := n20_
     have N21_ := n21_
     have N22_ := n22_
     have N23_ := n23_
     have N24_ := n24_
     have N25_ := n25_
     have N26_ := n26_
     have N27_ := n27_
     have HB := n28_
     clear n0_ n1_ n2_ n3_ n4_ n5_ n6_ n7_ n8_ n9_ n10_ n11_ n12_ n13_ n14_ n15_ n16_ n17_ n18_ n19_ n20_ n21_ n22_ n23_ n24_ n25_ n26_ n27_ n28_
     have hHeld : w116.cell? ⟨b199, 0, none⟩ = some (.int .u32 a1_0) ∧ w116.cell? ⟨b199, 1, none⟩ = some (.int .i32 a1_1) ∧ w116.cell? ⟨b199, 2, none⟩ = some (.int .i32 a1_2) ∧ w116.cell? ⟨b199, 3, none⟩ = some (.int .i32 a1_3) ∧ w116.cell? ⟨b199, 4, none⟩ = some (.int .i32 a1_4) ∧ w116.cell? ⟨b199, 5, none⟩ = some (.int .i32 a1_5) ∧ w116.cell? ⟨b199, 6, none⟩ = some (.int .i32 a1_6) ∧ w116.cell? ⟨b199, 7, none⟩ = some (.int .i32 a1_7) ∧ w116.cell? ⟨b199, 8, none⟩ = some (.int .i32 a1_8) ∧ w116.cell? ⟨b199, 9, none⟩ = some (.int .i32 a1_9) ∧ w116.cell? ⟨b200, 0, none⟩ = some (.int .u32 a2_0) ∧ w116.cell? ⟨b200, 1, none⟩ = some (.int .i32 a2_1) ∧ w116.cell? ⟨b200, 2, none⟩ = some (.int .i32 a2_2) ∧ w116.cell? ⟨b200, 3, none⟩ = some (.int .i32 a2_3) ∧ w116.cell? ⟨b200, 4, none⟩ = some (.int .i32 a2_4) ∧ w116.cell? ⟨b200, 5, none⟩ = some (.int .i32 a2_5) ∧ w116.cell? ⟨b200, 6, none⟩ = some (.int .i32 a2_6) ∧ w116.cell? ⟨b200, 7, none⟩ = some (.int .i32 a2_7) ∧ w116.cell? ⟨b200, 8, none⟩ = some (.int .i32 a2_8) ∧ w116.cell? ⟨b200, 9, none⟩ = some (.int .i32 a2_9) := hS_
     refine norm_ (a' := ?_) ?_ ?_
     rotate_left
     ·simp only [putAll, Act.put, sA, sB, sC]
      rfl
     refine one_ (i := 4) (N := none) #[T,T,T,T,T,F] rfl rfl (by kernel_rfl) (by decide) (fun K hK => ?_)
     refine skip_store10 (by rfl) rfl rfl rfl rfl BK207.out rfl (by kernel_rfl) rfl ?_
     refine hK.out _ _ ⟨(fc10 N14_.out (hHeld.1)), (fc10 N14_.out (hHeld.2.1)), (fc10 N14_.out (hHeld.2.2.1)), (fc10 N14_.out (hHeld.2.2.2.1)), (fc10 N14_.out (hHeld.2.2.2.2.1)), (fc10 N14_.out (hHeld.2.2.2.2.2.1)), (fc10 N14_.out (hHeld.2.2.2.2.2.2.1)), (fc10 N14_.out (hHeld.2.2.2.2.2.2.2.1)), (fc10 N14_.out (hHeld.2.2.2.2.2.2.2.2.1)), (fc10 N14_.out (hHeld.2.2.2.2.2.2.2.2.2.1)), (fc10 N16_.out (hHeld.2.2.2.2.2.2.2.2.2.2.1)), (fc10 N16_.out (hHeld.2.2.2.2.2.2.2.2.2.2.2.1)), (fc10 N16_.out (hHeld.2.2.2.2.2.2.2.2.2.2.2.2.1)), (fc10 N16_.out (hHeld.2.2.2.2.2.2.2.2.2.2.2.2.2.1)), (fc10 N16_.out (hHeld.2.2.2.2.2.2.2.2.2.2.2.2.2.2.1)), (fc10 N16_.out (hHeld.2.2.2.2.2.2.2.2.2.2.2.2.2.2.2.1)), (fc10 N16_.out (hHeld.2.2.2.2.2.2.2.2.2.2.2.2.2.2.2.2.1)), (fc10 N16_.out (hHeld.2.2.2.2.2.2.2.2.2.2.2.2.2.2.2.2.2.1)), (fc10 N16_.out (hHeld.2.2.2.2.2.2.2.2.2.2.2.2.2.2.2.2.2.2.1)), (fc10 N16_.out (hHeld.2.2.2.2.2.2.2.2.2.2.2.2.2.2.2.2.2.2.2))⟩ (fun hHeld => ?_)
     clear hK K
     refine one_ (i := 5) (N := none) #[T,T,T,T,T,T] rfl rfl (by kernel_rfl) (by decide) (fun K hK => ?_)
     generalize hC_ : World.setCell _ _ _ = W_
     refine skip_store10 (by rfl) rfl rfl rfl rfl (show W_.heap[b208]? = _ from hC_ ▸ (far10 BK208.out N29_.out)) rfl (by kernel_rfl) rfl ?_
     subst hC_
     refine hK.out _ _ ⟨(fc10 N22_.out (hHeld.1)), (fc10 N22_.out (hHeld.2.1)), (fc10 N22_.out (hHeld.2.2.1)), (fc10 N22_.out (hHeld.2.2.2.1)), (fc10 N22_.out (hHeld.2.2.2.2.1)), (fc10 N22_.out (hHeld.2.2.2.2.2.1)), (fc10 N22_.out (hHeld.2.2.2.2.2.2.1)), (fc10 N22_.out (hHeld.2.2.2.2.2.2.2.1)), (fc10 N22_.out (hHeld.2.2.2.2.2.2.2.2.1)), (fc10 N22_.out (hHeld.2.2.2.2.2.2.2.2.2.1)), (fc10 N24_.out (hHeld.2.2.2.2.2.2.2.2.2.2.1)), (fc10 N24_.out (hHeld.2.2.2.2.2.2.2.2.2.2.2.1)), (fc10 N24_.out (hHeld.2.2.2.2.2.2.2.2.2.2.2.2.1)), (fc10 N24_.out (hHeld.2.2.2.2.2.2.2.2.2.2.2.2.2.1)), (fc10 N24_.out (hHeld.2.2.2.2.2.2.2.2.2.2.2.2.2.2.1)), (fc10 N24_.out (hHeld.2.2.2.2.2.2.2.2.2.2.2.2.2.2.2.1)), (fc10 N24_.out (hHeld.2.2.2.2.2.2.2.2.2.2.2.2.2.2.2.2.1)), (fc10 N24_.out (hHeld.2.2.2.2.2.2.2.2.2.2.2.2.2.2.2.2.2.1)), (fc10 N24_.out (hHeld.2.2.2.2.2.2.2.2.2.2.2.2.2.2.2.2.2.2.1)), (fc10 N24_.out (hHeld.2.2.2.2.2.2.2.2.2.2.2.2.2.2.2.2.2.2.2))⟩ (fun hHeld => ?_)
     clear hK K
     refine done_ (by kernel_rfl) ?_
     generalize hV_ : World.setCell _ _ _ = V_
     have n0_ := aM ((congrArg (fun W_ : World => W_.heap[b198]?) hV_).symm.trans (far10 (far10 BK198.out N12_.out) N20_.out))
     have n1_ := aM ((congrArg (fun W_ : World => W_.heap[b199]?) hV_).symm.trans (far10 (far10 BK199.out N14_.out) N22_.out))
     have n2_ := aM ((congrArg (fun W_ : World => W_.heap[b200]?) hV_).symm.trans (far10 (far10 BK200.out N16_.out) N24_.out))
     have n3_ := aM ((congrArg (fun W_ : World => W_.heap[b201]?) hV_).symm.trans (far10 (far10 BK201.out N18_.out) N26_.out))
     have n4_ := aM ((congrArg (fun W_ : World => W_.heap[b207]?) hV_).symm.trans (far10 (own10 BK207.out) N28_.out))
     have n5_ := aM ((congrArg (fun W_ : World => W_.heap[b208]?) hV_).symm.trans (own10 (far10 BK208.out N29_.out)))
     have n6_ := aM (show Below w.heap.size w V_ from by rw [← hV_]; repeat (first | (with_reducible exact HB.out) | (with_reducible refine lS ?_ GE207.out) | (with_reducible refine lS ?_ GE208.out)))
     clear hHeld
     clear hV_ BK198 BK199 BK200 BK201 BK207 BK208 HB
     have BK198 := n0_
     have BK199 := n1_
     have BK200 := n2_
     have BK201 := n3_
     have BK207 := n4_
     have BK208 := n5_
     have HB := n6_
     clear n0_ n1_ n2_ n3_ n4_ n5_ n6_
     have hnb137 := N1_.out
     have hnc137 := N0_.out
     have hnb138 := N4_.out
     have hnc138 := N5_.out
     have hnb139 := N8_.out
     have hnc139 := N9_.out
     have hnb140 := N14_.out
     have hnc140 := N15_.out
     have hnb141 := N22_.out
     have hnc141 := N23_.out
     have hcz142_0 : V_.cell? ⟨b199, 0, none⟩ = some (.int .u32 a1_0) := (bC BK199.out 0).trans rfl
     have hcz142_1 : V_.cell? ⟨b199, 1, none⟩ = some (.int .i32 a1_1) := (bC BK199.out 1).trans rfl
     have hcz142_2 : V_.cell? ⟨b199, 2, none⟩ = some (.int .i32 a1_2) := (bC BK199.out 2).trans rfl
     have hcz142_3 : V_.cell? ⟨b199, 3, none⟩ = some (.int .i32 a1_3) := (bC BK199.out 3).trans rfl
     have hcz142_4 : V_.cell? ⟨b199, 4, none⟩ = some (.int .i32 a1_4) := (bC BK199.out 4).trans rfl
     have hcz142_5 : V_.cell? ⟨b199, 5, none⟩ = some (.int .i32 a1_5) := (bC BK199.out 5).trans rfl
     have hcz142_6 : V_.cell? ⟨b199, 6, none⟩ = some (.int .i32 a1_6) := (bC BK199.out 6).trans rfl
     have hcz142_7 : V_.cell? ⟨b199, 7, none⟩ = some (.int .i32 a1_7) := (bC BK199.out 7).trans rfl
     have hcz142_8 : V_.cell? ⟨b199, 8, none⟩ = some (.int .i32 a1_8) := (bC BK199.out 8).trans rfl
     have hcz142_9 : V_.cell? ⟨b199, 9, none⟩ = some (.int .i32 a1_9) := (bC BK199.out 9).trans rfl
     have hfz142_0 := bF BK199.out 0
     have hfz142_1 := bF BK199.out 1
     have hfz142_2 := bF BK199.out 2
     have hfz142_3 := bF BK199.out 3
     have hfz142_4 := bF BK199.out 4
     have hfz142_5 := bF BK199.out 5
     have hfz142_6 := bF BK199.out 6
     have hfz142_7 := bF BK199.out 7
     have hfz142_8 := bF BK199.out 8
     have hfz142_9 := bF BK199.out 9
     have hnb143 := N7_.out
     have hnc143 := N6_.out
     have hnb144 := N11_.out
     have hnc144 := N10_.out
     have hnb145 := N18_.out
     have hnc145 := N19_.out
     have hnb146 := N26_.out
     have hnc146 := N27_.out
     have hcz147_0 : V_.cell? ⟨b201, 0, none⟩ = some (.int .i32 a3_0) := (bC BK201.out 0).trans rfl
     have hcz147_1 : V_.cell? ⟨b201, 1, none⟩ = some (.int .i32 a3_1) := (bC BK201.out 1).trans rfl
     have hfz147_0 := bF BK201.out 0
     have hfz147_1 := bF BK201.out 1
     have hnb148 := N13_.out
     have hnc148 := N12_.out
     have hnb149 := N17_.out
     have hnc149 := N16_.out
     have hnb150 := N28_.out
     have hnc150 := N29_.out
     have hcz151_0 : V_.cell? ⟨b207, 0, none⟩ = some (.int .u32 a1_0) := (bC BK207.out 0).trans rfl
     have hcz151_1 : V_.cell? ⟨b207, 1, none⟩ = some (.int .i32 a1_1) := (bC BK207.out 1).trans rfl
     have hcz151_2 : V_.cell? ⟨b207, 2, none⟩ = some (.int .i32 a1_2) := (bC BK207.out 2).trans rfl
     have hcz151_3 : V_.cell? ⟨b207, 3, none⟩ = some (.int .i32 a1_3) := (bC BK207.out 3).trans rfl
     have hcz151_4 : V_.cell? ⟨b207, 4, none⟩ = some (.int .i32 a1_4) := (bC BK207.out 4).trans rfl
     have hcz151_5 : V_.cell? ⟨b207, 5, none⟩ = some (.int .i32 a1_5) := (bC BK207.out 5).trans rfl
     have hcz151_6 : V_.cell? ⟨b207, 6, none⟩ = some (.int .i32 a1_6) := (bC BK207.out 6).trans rfl
     have hcz151_7 : V_.cell? ⟨b207, 7, none⟩ = some (.int .i32 a1_7) := (bC BK207.out 7).trans rfl
     have hcz151_8 : V_.cell? ⟨b207, 8, none⟩ = some (.int .i32 a1_8) := (bC BK207.out 8).trans rfl
     have hcz151_9 : V_.cell? ⟨b207, 9, none⟩ = some (.int .i32 a1_9) := (bC BK207.out 9).trans rfl
     have hfz151_0 := bF BK207.out 0
     have hfz151_1 := bF BK207.out 1
     have hfz151_2 := bF BK207.out 2
     have hfz151_3 := bF BK207.out 3
     have hfz151_4 := bF BK207.out 4
     have hfz151_5 := bF BK207.out 5
     have hfz151_6 := bF BK207.out 6
     have hfz151_7 := bF BK207.out 7
     have hfz151_8 := bF BK207.out 8
     have hfz151_9 := bF BK207.out 9
     have hnb152 := N3_.out
     have hnc152 := N2_.out
     have hnb153 := N24_.out
     have hnc153 := N25_.out
     have hcz154_0 : V_.cell? ⟨b200, 0, none⟩ = some (.int .u32 a2_0) := (bC BK200.out 0).trans rfl
     have hcz154_1 : V_.cell? ⟨b200, 1, none⟩ = some (.int .i32 a2_1) := (bC BK200.out 1).trans rfl
     have hcz154_2 : V_.cell? ⟨b200, 2, none⟩ = some (.int .i32 a2_2) := (bC BK200.out 2).trans rfl
     have hcz154_3 : V_.cell? ⟨b200, 3, none⟩ = some (.int .i32 a2_3) := (bC BK200.out 3).trans rfl
     have hcz154_4 : V_.cell? ⟨b200, 4, none⟩ = some (.int .i32 a2_4) := (bC BK200.out 4).trans rfl
     have hcz154_5 : V_.cell? ⟨b200, 5, none⟩ = some (.int .i32 a2_5) := (bC BK200.out 5).trans rfl
     have hcz154_6 : V_.cell? ⟨b200, 6, none⟩ = some (.int .i32 a2_6) := (bC BK200.out 6).trans rfl
     have hcz154_7 : V_.cell? ⟨b200, 7, none⟩ = some (.int .i32 a2_7) := (bC BK200.out 7).trans rfl
     have hcz154_8 : V_.cell? ⟨b200, 8, none⟩ = some (.int .i32 a2_8) := (bC BK200.out 8).trans rfl
     have hcz154_9 : V_.cell? ⟨b200, 9, none⟩ = some (.int .i32 a2_9) := (bC BK200.out 9).trans rfl
     have hfz154_0 := bF BK200.out 0
     have hfz154_1 := bF BK200.out 1
     have hfz154_2 := bF BK200.out 2
     have hfz154_3 := bF BK200.out 3
     have hfz154_4 := bF BK200.out 4
     have hfz154_5 := bF BK200.out 5
     have hfz154_6 := bF BK200.out 6
     have hfz154_7 := bF BK200.out 7
     have hfz154_8 := bF BK200.out 8
     have hfz154_9 := bF BK200.out 9
     have hnb155 := N21_.out
     have hnc155 := N20_.out
     have hcz156_0 : V_.cell? ⟨b208, 0, none⟩ = some (.int .u32 a2_0) := (bC BK208.out 0).trans rfl
     have hcz156_1 : V_.cell? ⟨b208, 1, none⟩ = some (.int .i32 a2_1) := (bC BK208.out 1).trans rfl
     have hcz156_2 : V_.cell? ⟨b208, 2, none⟩ = some (.int .i32 a2_2) := (bC BK208.out 2).trans rfl
     have hcz156_3 : V_.cell? ⟨b208, 3, none⟩ = some (.int .i32 a2_3) := (bC BK208.out 3).trans rfl
     have hcz156_4 : V_.cell? ⟨b208, 4, none⟩ = some (.int .i32 a2_4) := (bC BK208.out 4).trans rfl
     have hcz156_5 : V_.cell? ⟨b208, 5, none⟩ = some (.int .i32 a2_5) := (bC BK208.out 5).trans rfl
     have hcz156_6 : V_.cell? ⟨b208, 6, none⟩ = some (.int .i32 a2_6) := (bC BK208.out 6).trans rfl
     have hcz156_7 : V_.cell? ⟨b208, 7, none⟩ = some (.int .i32 a2_7) := (bC BK208.out 7).trans rfl
     have hcz156_8 : V_.cell? ⟨b208, 8, none⟩ = some (.int .i32 a2_8) := (bC BK208.out 8).trans rfl
     have hcz156_9 : V_.cell? ⟨b208, 9, none⟩ = some (.int .i32 a2_9) := (bC BK208.out 9).trans rfl
     have hfz156_0 := bF BK208.out 0
     have hfz156_1 := bF BK208.out 1
     have hfz156_2 := bF BK208.out 2
     have hfz156_3 := bF BK208.out 3
     have hfz156_4 := bF BK208.out 4
     have hfz156_5 := bF BK208.out 5
     have hfz156_6 := bF BK208.out 6
     have hfz156_7 := bF BK208.out 7
     have hfz156_8 := bF BK208.out 8
     have hfz156_9 := bF BK208.out 9
     have hcz157_0 : V_.cell? ⟨b198, 0, none⟩ = some (.int .u32 a0_0) := (bC BK198.out 0).trans rfl
     have hcz157_1 : V_.cell? ⟨b198, 1, none⟩ = some (.int .u32 a0_1) := (bC BK198.out 1).trans rfl
     have hcz157_2 : V_.cell? ⟨b198, 2, none⟩ = some (.int .i32 a0_2) := (bC BK198.out 2).trans rfl
     have hcz157_3 : V_.cell? ⟨b198, 3, none⟩ = some (.int .i32 a0_3) := (bC BK198.out 3).trans rfl
     have hcz157_4 : V_.cell? ⟨b198, 4, none⟩ = some (.int .i32 a0_4) := (bC BK198.out 4).trans rfl
     have hfz157_0 := bF BK198.out 0
     have hfz157_1 := bF BK198.out 1
     have hfz157_2 := bF BK198.out 2
     have hfz157_3 := bF BK198.out 3
     have hfz157_4 := bF BK198.out 4
     try go_wp2_with (first | ((with_reducible refine gate_callee (f := 9) rfl ?_); refine goesL_ (some 66) rfl rfl Try.func9 (by kernel_rfl) rfl #[.agg #[.int .u32 a0_0, .int .u32 a0_1, .int .i32 a0_2, .int .i32 a0_3, .int .i32 a0_4], .agg #[.int .u32 a1_0, .int .i32 a1_1, .int .i32 a1_2, .int .i32 a1_3, .int .i32 a1_4, .int .i32 a1_5, .int .i32 a1_6, .int .i32 a1_7, .int .i32 (wrap32 (a1_8 + a3_0)), .int .i32 (wrap32 (a1_9 + a3_1))], .agg #[.int .u32 a2_0, .int .i32 a2_1, .int .i32 a2_2, .int .i32 a2_3, .int .i32 a2_4, .int .i32 a2_5, .int .i32 a2_6, .int .i32 a2_7, .int .i32 (wrap32 (a2_8 + a3_0)), .int .i32 (wrap32 (a2_9 + a3_1))]] rfl (by (try simp only [List.map_toArray, List.map_cons, List.map_nil]); first | done | rfl | (simp only [List.length_drop, List.length_take]; rfl)) ?_; (with_reducible refine (billiardref16_Right.calls kj4 a0_0 a0_1 a0_2 a0_3 a0_4 a1_0 a1_1 a1_2 a1_3 a1_4 a1_5 a1_6 a1_7 (wrap32 (a1_8 + a3_0)) (wrap32 (a1_9 + a3_1)) a2_0 a2_1 a2_2 a2_3 a2_4 a2_5 a2_6 a2_7 (wrap32 (a2_8 + a3_0)) (wrap32 (a2_9 + a3_1)) false _ A55.out).mono ?_); rintro e w158 ⟨rfl, hb⟩; refine ⟨_, rfl, ?_⟩; have n0_ := aM (bB (g := b198) (o := .cells #[.int .u32 a0_0, .int .u32 a0_1, .int .i32 a0_2, .int .i32 a0_3, .int .i32 a0_4] 28 (0, 0)) (by (with_reducible repeat first | apply bN | apply bD | apply bA); refine bR ?_ N20_.out _; (with_reducible repeat first | apply bN | apply bD | apply bA); refine bR ?_ N20_.out _; (with_reducible repeat first | apply bN | apply bD | apply bA); refine bR ?_ N12_.out _; (with_reducible repeat first | apply bN | apply bD | apply bA); refine bR ?_ N12_.out _; exact BK198.out) hb); have n1_ := aM (bB (g := b199) (o := .cells #[.int .u32 a1_0, .int .i32 a1_1, .int .i32 a1_2, .int .i32 a1_3, .int .i32 a1_4, .int .i32 a1_5, .int .i32 a1_6, .int .i32 a1_7, .int .i32 a1_8, .int .i32 a1_9] 30 (0, 0)) (by (with_reducible repeat first | apply bN | apply bD | apply bA); refine bR ?_ N22_.out _; (with_reducible repeat first | apply bN | apply bD | apply bA); refine bR ?_ N22_.out _; (with_reducible repeat first | apply bN | apply bD | apply bA); refine bR ?_ N14_.out _; (with_reducible repeat first | apply bN | apply bD | apply bA); refine bR ?_ N14_.out _; exact BK199.out) hb); have n2_ := aM (bB (g := b200) (o := .cells #[.int .u32 a2_0, .int .i32 a2_1, .int .i32 a2_2, .int .i32 a2_3, .int .i32 a2_4, .int .i32 a2_5, .int .i32 a2_6, .int .i32 a2_7, .int .i32 a2_8, .int .i32 a2_9] 30 (0, 0)) (by (with_reducible repeat first | apply bN | apply bD | apply bA); refine bR ?_ N24_.out _; (with_reducible repeat first | apply bN | apply bD | apply bA); refine bR ?_ N24_.out _; (with_reducible repeat first | apply bN | apply bD | apply bA); refine bR ?_ N16_.out _; (with_reducible repeat first | apply bN | apply bD | apply bA); refine bR ?_ N16_.out _; exact BK200.out) hb); have n3_ := aM (bB (g := b201) (o := .cells #[.int .i32 a3_0, .int .i32 a3_1] 26 (0, 0)) (by (with_reducible repeat first | apply bN | apply bD | apply bA); refine bR ?_ N26_.out _; (with_reducible repeat first | apply bN | apply bD | apply bA); refine bR ?_ N26_.out _; (with_reducible repeat first | apply bN | apply bD | apply bA); refine bR ?_ N18_.out _; (with_reducible repeat first | apply bN | apply bD | apply bA); refine bR ?_ N18_.out _; exact BK201.out) hb); have n4_ := aM (bB (g := b207) (o := .cells #[.int .u32 a1_0, .int .i32 a1_1, .int .i32 a1_2, .int .i32 a1_3, .int .i32 a1_4, .int .i32 a1_5, .int .i32 a1_6, .int .i32 a1_7, .int .i32 (wrap32 (a1_8 + a3_0)), .int .i32 (wrap32 (a1_9 + a3_1))] 30 (0, 0)) (by (with_reducible repeat first | apply bN | apply bD | apply bA); refine bR ?_ N28_.out _; (with_reducible repeat first | apply bN | apply bD | apply bA); refine bR ?_ N28_.out _; (with_reducible repeat first | apply bN | apply bD | apply bA); refine bP (cs := #[.int .u32 a1_0, .int .i32 a1_1, .int .i32 a1_2, .int .i32 a1_3, .int .i32 a1_4, .int .i32 a1_5, .int .i32 a1_6, .int .i32 a1_7, .int .i32 (wrap32 (a1_8 + a3_0)), .int .i32 a1_9]) ?_ 9 _ rfl; (with_reducible repeat first | apply bN | apply bD | apply bA); refine bP (cs := #[.int .u32 a1_0, .int .i32 a1_1, .int .i32 a1_2, .int .i32 a1_3, .int .i32 a1_4, .int .i32 a1_5, .int .i32 a1_6, .int .i32 a1_7, .int .i32 a1_8, .int .i32 a1_9]) ?_ 8 _ rfl; exact BK207.out) hb); have n5_ := aM (bB (g := b208) (o := .cells #[.int .u32 a2_0, .int .i32 a2_1, .int .i32 a2_2, .int .i32 a2_3, .int .i32 a2_4, .int .i32 a2_5, .int .i32 a2_6, .int .i32 a2_7, .int .i32 (wrap32 (a2_8 + a3_0)), .int .i32 (wrap32 (a2_9 + a3_1))] 30 (0, 0)) (by (with_reducible repeat first | apply bN | apply bD | apply bA); refine bP (cs := #[.int .u32 a2_0, .int .i32 a2_1, .int .i32 a2_2, .int .i32 a2_3, .int .i32 a2_4, .int .i32 a2_5, .int .i32 a2_6, .int .i32 a2_7, .int .i32 (wrap32 (a2_8 + a3_0)), .int .i32 a2_9]) ?_ 9 _ rfl; (with_reducible repeat first | apply bN | apply bD | apply bA); refine bP (cs := #[.int .u32 a2_0, .int .i32 a2_1, .int .i32 a2_2, .int .i32 a2_3, .int .i32 a2_4, .int .i32 a2_5, .int .i32 a2_6, .int .i32 a2_7, .int .i32 a2_8, .int .i32 a2_9]) ?_ 8 _ rfl; (with_reducible repeat first | apply bN | apply bD | apply bA); refine bR ?_ N29_.out _; (with_reducible repeat first | apply bN | apply bD | apply bA); refine bR ?_ N29_.out _; exact BK208.out) hb); have n6_ := aM (lT (by repeat (first | (with_reducible first | exact HB.out | apply lA | apply lN | apply lD | refine lS ?_ GE198.out | refine lS ?_ GE199.out | refine lS ?_ GE200.out | refine lS ?_ GE201.out | refine lS ?_ GE207.out | refine lS ?_ GE208.out) | exact HB.out)) hb); clear BK198; clear BK199; clear BK200; clear BK201; clear BK207; clear BK208; clear HB; have BK198 := n0_; have BK199 := n1_; have BK200 := n2_; have BK201 := n3_; have BK207 := n4_; have BK208 := n5_; have HB := n6_; clear n0_ n1_ n2_ n3_ n4_ n5_ n6_; (try clear hb); (try clear hb2); (try clear hk); (try clear hi)))
     go_ret
     exact ⟨by first | rfl | (simp [errW_none, errW_some] <;> rfl) | (simp [*, errW_none, errW_some] <;> rfl), by repeat (first | (with_reducible first | exact HB.out | apply lA | apply lN | apply lD | refine lS ?_ GE198.out | refine lS ?_ GE199.out | refine lS ?_ GE200.out | refine lS ?_ GE201.out | refine lS ?_ GE207.out | refine lS ?_ GE208.out) | exact HB.out)⟩

/-- THE ONE PURE STATEMENT of billiardlaw16_ImpulseFrames: yours. -/
def billiardlaw16_ImpulseFrames.Pure : Prop := ∀ (a0_0 : Int) (a0_1 : Int) (a0_2 : Int) (a0_3 : Int) (a0_4 : Int) (a1_0 : Int) (a1_1 : Int) (a1_2 : Int) (a1_3 : Int) (a1_4 : Int) (a1_5 : Int) (a1_6 : Int) (a1_7 : Int) (a1_8 : Int) (a1_9 : Int) (a2_0 : Int) (a2_1 : Int) (a2_2 : Int) (a2_3 : Int) (a2_4 : Int) (a2_5 : Int) (a2_6 : Int) (a2_7 : Int) (a2_8 : Int) (a2_9 : Int) (a3_0 : Int) (a3_1 : Int), (Lit.int .u32 a0_0).wf = true → (Lit.int .u32 a0_1).wf = true → (Lit.int .i32 a0_2).wf = true → (Lit.int .i32 a0_3).wf = true → (Lit.int .i32 a0_4).wf = true → (Lit.int .u32 a1_0).wf = true → (Lit.int .i32 a1_1).wf = true → (Lit.int .i32 a1_2).wf = true → (Lit.int .i32 a1_3).wf = true → (Lit.int .i32 a1_4).wf = true → (Lit.int .i32 a1_5).wf = true → (Lit.int .i32 a1_6).wf = true → (Lit.int .i32 a1_7).wf = true → (Lit.int .i32 a1_8).wf = true → (Lit.int .i32 a1_9).wf = true → (Lit.int .u32 a2_0).wf = true → (Lit.int .i32 a2_1).wf = true → (Lit.int .i32 a2_2).wf = true → (Lit.int .i32 a2_3).wf = true → (Lit.int .i32 a2_4).wf = true → (Lit.int .i32 a2_5).wf = true → (Lit.int .i32 a2_6).wf = true → (Lit.int .i32 a2_7).wf = true → (Lit.int .i32 a2_8).wf = true → (Lit.int .i32 a2_9).wf = true → (Lit.int .i32 a3_0).wf = true → (Lit.int .i32 a3_1).wf = true → ∃ k, billiardlaw16_ImpulseFrames.f k a0_0 a0_1 a0_2 a0_3 a0_4 a1_0 a1_1 a1_2 a1_3 a1_4 a1_5 a1_6 a1_7 a1_8 a1_9 a2_0 a2_1 a2_2 a2_3 a2_4 a2_5 a2_6 a2_7 a2_8 a2_9 a3_0 a3_1 = some true
theorem billiardlaw16_ImpulseFrames.walk (P : billiardlaw16_ImpulseFrames.Pure) (a0_0 : Int) (a0_1 : Int) (a0_2 : Int) (a0_3 : Int) (a0_4 : Int) (a1_0 : Int) (a1_1 : Int) (a1_2 : Int) (a1_3 : Int) (a1_4 : Int) (a1_5 : Int) (a1_6 : Int) (a1_7 : Int) (a1_8 : Int) (a1_9 : Int) (a2_0 : Int) (a2_1 : Int) (a2_2 : Int) (a2_3 : Int) (a2_4 : Int) (a2_5 : Int) (a2_6 : Int) (a2_7 : Int) (a2_8 : Int) (a2_9 : Int) (a3_0 : Int) (a3_1 : Int) (w : World) (w0_0 : (Lit.int .u32 a0_0).wf = true) (w0_1 : (Lit.int .u32 a0_1).wf = true) (w0_2 : (Lit.int .i32 a0_2).wf = true) (w0_3 : (Lit.int .i32 a0_3).wf = true) (w0_4 : (Lit.int .i32 a0_4).wf = true) (w1_0 : (Lit.int .u32 a1_0).wf = true) (w1_1 : (Lit.int .i32 a1_1).wf = true) (w1_2 : (Lit.int .i32 a1_2).wf = true) (w1_3 : (Lit.int .i32 a1_3).wf = true) (w1_4 : (Lit.int .i32 a1_4).wf = true) (w1_5 : (Lit.int .i32 a1_5).wf = true) (w1_6 : (Lit.int .i32 a1_6).wf = true) (w1_7 : (Lit.int .i32 a1_7).wf = true) (w1_8 : (Lit.int .i32 a1_8).wf = true) (w1_9 : (Lit.int .i32 a1_9).wf = true) (w2_0 : (Lit.int .u32 a2_0).wf = true) (w2_1 : (Lit.int .i32 a2_1).wf = true) (w2_2 : (Lit.int .i32 a2_2).wf = true) (w2_3 : (Lit.int .i32 a2_3).wf = true) (w2_4 : (Lit.int .i32 a2_4).wf = true) (w2_5 : (Lit.int .i32 a2_5).wf = true) (w2_6 : (Lit.int .i32 a2_6).wf = true) (w2_7 : (Lit.int .i32 a2_7).wf = true) (w2_8 : (Lit.int .i32 a2_8).wf = true) (w2_9 : (Lit.int .i32 a2_9).wf = true) (w3_0 : (Lit.int .i32 a3_0).wf = true) (w3_1 : (Lit.int .i32 a3_1).wf = true) :
  Calls Try.prog 6 #[.agg #[.int .u32 a0_0, .int .u32 a0_1, .int .i32 a0_2, .int .i32 a0_3, .int .i32 a0_4], .agg #[.int .u32 a1_0, .int .i32 a1_1, .int .i32 a1_2, .int .i32 a1_3, .int .i32 a1_4, .int .i32 a1_5, .int .i32 a1_6, .int .i32 a1_7, .int .i32 a1_8, .int .i32 a1_9], .agg #[.int .u32 a2_0, .int .i32 a2_1, .int .i32 a2_2, .int .i32 a2_3, .int .i32 a2_4, .int .i32 a2_5, .int .i32 a2_6, .int .i32 a2_7, .int .i32 a2_8, .int .i32 a2_9], .agg #[.int .i32 a3_0, .int .i32 a3_1]] w fun e w' => e = .returned (.bool true) ∧ Below w.heap.size w w' := by
 obtain ⟨k, h⟩ := P a0_0 a0_1 a0_2 a0_3 a0_4 a1_0 a1_1 a1_2 a1_3 a1_4 a1_5 a1_6 a1_7 a1_8 a1_9 a2_0 a2_1 a2_2 a2_3 a2_4 a2_5 a2_6 a2_7 a2_8 a2_9 a3_0 a3_1 w0_0 w0_1 w0_2 w0_3 w0_4 w1_0 w1_1 w1_2 w1_3 w1_4 w1_5 w1_6 w1_7 w1_8 w1_9 w2_0 w2_1 w2_2 w2_3 w2_4 w2_5 w2_6 w2_7 w2_8 w2_9 w3_0 w3_1
 refine (billiardlaw16_ImpulseFrames.calls k a0_0 a0_1 a0_2 a0_3 a0_4 a1_0 a1_1 a1_2 a1_3 a1_4 a1_5 a1_6 a1_7 a1_8 a1_9 a2_0 a2_1 a2_2 a2_3 a2_4 a2_5 a2_6 a2_7 a2_8 a2_9 a3_0 a3_1 true w h rfl).mono ?_
 rintro e w' ⟨rfl, hd⟩
 exact ⟨rfl, hd⟩

end Go.Proofs.Ytihgddcaljaojaa.Q
