-- PRINTED by print.py (a twelfth state) out of the translation. Not trusted: Lean checks it.
import Derived.Test.YtabcnaceffpekaaQ0
import Derived.Test.YtabcnaceffpekaaMspec
import Derived.Test.YtabcnaceffpekaaQapi
import Derived.Test.YtabcnaceffpekaaQbody
import Derived.Test.YtabcnaceffpekaaQbox
import Derived.Test.YtabcnaceffpekaaQpoint
import Derived.Test.YtabcnaceffpekaaQvec
import Derived.Deep.RegionHeld3
import Derived.Deep.RegionWith
import Derived.Lib.Hide
namespace Go.Proofs.Ytabcnaceffpekaa.Q
open Go.RowKit.Below renaming refl → lR
open Go.RowKit Go.Proofs.YtabcnaceffpekaaW.PrintWords Go.Proofs.YtabcnaceffpekaaW.PrintLast Go.Proofs.YtabcnaceffpekaaW.PrintMore
open Go.Proofs.YtabcnaceffpekaaW.PrintWords renaming blk_drewN → bN, blk_drew → bD, blk_alloc → bA, blk_below → bB, blk_cell → bC, blk_frozen → bF, blk_far → bR, blk_lt → bL, blk_put → bP, below_alloc → lA, pw_below_drewN → lN, below_drew1 → lD, below_set → lS, below_step → lT, below_size → lZ, Aside0.mk → aM
open List renaming setIfInBounds_toArray → sA, set_cons_zero → sB, set_cons_succ → sC
attribute [local go_sem] max2_int min2_int max_two min_two max_three min_three max_four min_four   -- for this text's walks alone
set_option linter.unusedVariables false
set_option linter.unusedSimpArgs false

/-! ### query_difference: function 28 (given) -/
-- IMPORT Derived.Test.YtabcnaceffpekaaMspec
-- IMPORT Derived.Lib.Hide
-- IMPORT Derived.Deep.RegionHeld3
-- IMPORT Derived.Deep.RegionWith
-- IMPORT Derived.Test.YtabcnaceffpekaaMtwo
-- NEEDS billiard/body.IsCircle
-- NEEDS billiard/body.Ends
-- NEEDS billiard/point.Nearest
-- NEEDS billiard/vec.Diff
/-- The point of a body's core that is nearest to a point. -/
def coreN (a0 a1 a2 a3 a4 a5 a6 a7 a8 a9 p0 p1 : Int) : Option (Int × Int) :=
 if a2 = 0 ∧ a3 = 0 then some (a6, a7) else (body_Ends.f a0 a1 a2 a3 a4 a5 a6 a7 a8 a9).bind fun e => point_Nearest.f e.1 e.2.1 e.2.2.1 e.2.2.2 p0 p1
def query_difference.f (a0 a1 a2 a3 a4 a5 a6 a7 a8 a9 p0 p1 : Int) : Option (Int × Int) := (coreN a0 a1 a2 a3 a4 a5 a6 a7 a8 a9 p0 p1).bind fun n => vec_Diff.f p0 p1 n.1 n.2
set_option maxHeartbeats 4000000 in
theorem query_center.calls (c0 c1 p0 p1 : Int) (w : World) :
  Calls Try.prog 81 #[.agg #[.int .i32 c0, .int .i32 c1], .agg #[.int .i32 p0, .int .i32 p1]] w fun e w' => e = .returned (.agg #[.int .i32 c0, .int .i32 c1]) ∧ Below w.heap.size w w' := by
 go_enter Try.func81, Try.ntmps81
 go_wp2_with fail
 have hR : (((w.alloc (.cells #[.int .i32 c0, .int .i32 c1] 83 (0, 0))).alloc (.cells #[.int .i32 p0, .int .i32 p1] 24 (0, 0))).alloc (.cells #[.int .i32 c0, .int .i32 c1] 24 (0, 0))).heap[w.heap.size + 1 + 1]? = some (.cells #[.int .i32 c0, .int .i32 c1] 24 (0, 0)) := by
  have := blk_new ((w.alloc (.cells #[.int .i32 c0, .int .i32 c1] 83 (0, 0))).alloc (.cells #[.int .i32 p0, .int .i32 p1] 24 (0, 0))) (.cells #[.int .i32 c0, .int .i32 c1] 24 (0, 0))
  simpa only [World.size_alloc] using this
 have hB := lA (lA (lA (Below.refl w.heap.size w) (.cells #[.int .i32 c0, .int .i32 c1] 83 (0, 0))) (.cells #[.int .i32 p0, .int .i32 p1] 24 (0, 0))) (.cells #[.int .i32 c0, .int .i32 c1] 24 (0, 0))
 generalize (((w.alloc (.cells #[.int .i32 c0, .int .i32 c1] 83 (0, 0))).alloc (.cells #[.int .i32 p0, .int .i32 p1] 24 (0, 0))).alloc (.cells #[.int .i32 c0, .int .i32 c1] 24 (0, 0))) = V at hR hB ⊢
 have d0 : V.cell? ⟨w.heap.size + 1 + 1, 0, none⟩ = some (.int .i32 c0) := (bC hR 0).trans rfl
 have d1 : V.cell? ⟨w.heap.size + 1 + 1, 1, none⟩ = some (.int .i32 c1) := (bC hR 1).trans rfl
 exact bodyPost_ret (v := .agg #[.int .i32 c0, .int .i32 c1]) (by simp [results, Try.results81, go_sem, d0, d1]) rfl ⟨rfl, hB⟩
set_option maxHeartbeats 4000000 in
theorem query_spine.calls (x0 x1 y0 y1 p0 p1 r0 r1 : Int) (w : World) (h : point_Nearest.f x0 x1 y0 y1 p0 p1 = some (r0, r1)) :
  Calls Try.prog 82 #[.agg #[.int .i32 x0, .int .i32 x1, .int .i32 y0, .int .i32 y1], .agg #[.int .i32 p0, .int .i32 p1]] w fun e w' => e = .returned (.agg #[.int .i32 r0, .int .i32 r1]) ∧ Below w.heap.size w w' := by
 have H := Lib.hid (fun w => point_Nearest.calls _ _ _ _ _ _ _ _ w h)
 clear h
 go_enter Try.func82, Try.ntmps82
 go_wp2_with fail
 have hR : (((w.alloc (.cells #[.int .i32 x0, .int .i32 x1, .int .i32 y0, .int .i32 y1] 87 (0, 0))).alloc (.cells #[.int .i32 p0, .int .i32 p1] 24 (0, 0))).alloc (.cells #[.int .i32 0, .int .i32 0] 24 (0, 0))).heap[w.heap.size + 1 + 1]? = some (.cells #[.int .i32 0, .int .i32 0] 24 (0, 0)) := by
  have := blk_new ((w.alloc (.cells #[.int .i32 x0, .int .i32 x1, .int .i32 y0, .int .i32 y1] 87 (0, 0))).alloc (.cells #[.int .i32 p0, .int .i32 p1] 24 (0, 0))) (.cells #[.int .i32 0, .int .i32 0] 24 (0, 0))
  simpa only [World.size_alloc] using this
 have hB : Below w.heap.size w (((w.alloc (.cells #[.int .i32 x0, .int .i32 x1, .int .i32 y0, .int .i32 y1] 87 (0, 0))).alloc (.cells #[.int .i32 p0, .int .i32 p1] 24 (0, 0))).alloc (.cells #[.int .i32 0, .int .i32 0] 24 (0, 0))) := lA (lA (lA (Below.refl w.heap.size w) _) _) _
 generalize (((w.alloc (.cells #[.int .i32 x0, .int .i32 x1, .int .i32 y0, .int .i32 y1] 87 (0, 0))).alloc (.cells #[.int .i32 p0, .int .i32 p1] 24 (0, 0))).alloc (.cells #[.int .i32 0, .int .i32 0] 24 (0, 0))) = V at hR hB ⊢
 refine (H.out _).mono ?_
 rintro e V1 ⟨rfl, hb⟩
 have hR1 := bB hR hb
 have hB1 := lT hB hb
 have d0 : V1.cell? ⟨w.heap.size + 1 + 1, 0, none⟩ = some (.int .i32 0) := (bC hR1 0).trans rfl
 have d1 : V1.cell? ⟨w.heap.size + 1 + 1, 1, none⟩ = some (.int .i32 0) := (bC hR1 1).trans rfl
 have f0 := bF hR1 0
 have f1 := bF hR1 1
 have HP := Lib.hid (bP (bP hR1 0 (.int .i32 r0) rfl) 1 (.int .i32 r1) rfl)
 have HB := Lib.hid (lS (lS hB1 (show w.heap.size ≤ w.heap.size + 1 + 1 by omega) (j := 0) (v := .int .i32 r0)) (show w.heap.size ≤ w.heap.size + 1 + 1 by omega) (j := 1) (v := .int .i32 r1))
 clear hR hR1 hB hB1 hb H
 go_wp2_with fail
 have hR := HP.out
 have hB := HB.out
 generalize (V1.setCell ⟨w.heap.size + 1 + 1, 0, none⟩ (.int .i32 r0)).setCell ⟨w.heap.size + 1 + 1, 1, none⟩ (.int .i32 r1) = V2 at hR hB ⊢
 have d0 : V2.cell? ⟨w.heap.size + 1 + 1, 0, none⟩ = some (.int .i32 r0) := (bC hR 0).trans rfl
 have d1 : V2.cell? ⟨w.heap.size + 1 + 1, 1, none⟩ = some (.int .i32 r1) := (bC hR 1).trans rfl
 exact bodyPost_ret (v := .agg #[.int .i32 r0, .int .i32 r1]) (by simp [results, Try.results82, go_sem, d0, d1]) rfl ⟨rfl, hB⟩
/-- What a body's core is: a point, or two. -/
def coreV (a2 a3 a6 a7 e0 e1 e2 e3 : Int) : Value := if a2 = 0 ∧ a3 = 0 then .iface 83 (.agg #[.int .i32 a6, .int .i32 a7]) else .iface 87 (.agg #[.int .i32 e0, .int .i32 e1, .int .i32 e2, .int .i32 e3])
set_option maxHeartbeats 4000000 in
theorem query_coreOf.circle (a0 a1 a2 a3 a4 a5 a6 a7 a8 a9 : Int) (w : World) (hc : a2 = 0 ∧ a3 = 0) :
  Calls Try.prog 45 #[.agg #[.int .u32 a0, .int .i32 a1, .int .i32 a2, .int .i32 a3, .int .i32 a4, .int .i32 a5, .int .i32 a6, .int .i32 a7, .int .i32 a8, .int .i32 a9]] w fun e w' => e = .returned (.iface 83 (.agg #[.int .i32 a6, .int .i32 a7])) ∧ Below w.heap.size w w' := by
 have H := Lib.hid (fun w => body_IsCircle.calls a0 a1 a2 a3 a4 a5 a6 a7 a8 a9 true w (by unfold body_IsCircle.f; simp [hc.1, hc.2]))
 clear hc
 go_enter Try.func45, Try.ntmps45
 go_wp2_with fail
 have hR : (w.alloc (.cells #[.int .u32 a0, .int .i32 a1, .int .i32 a2, .int .i32 a3, .int .i32 a4, .int .i32 a5, .int .i32 a6, .int .i32 a7, .int .i32 a8, .int .i32 a9] 32 (0, 0))).heap[w.heap.size]? = some (.cells #[.int .u32 a0, .int .i32 a1, .int .i32 a2, .int .i32 a3, .int .i32 a4, .int .i32 a5, .int .i32 a6, .int .i32 a7, .int .i32 a8, .int .i32 a9] 32 (0, 0)) := blk_new _ _
 have hB : Below w.heap.size w (w.alloc (.cells #[.int .u32 a0, .int .i32 a1, .int .i32 a2, .int .i32 a3, .int .i32 a4, .int .i32 a5, .int .i32 a6, .int .i32 a7, .int .i32 a8, .int .i32 a9] 32 (0, 0))) := lA (Below.refl w.heap.size w) _
 generalize w.alloc (.cells #[.int .u32 a0, .int .i32 a1, .int .i32 a2, .int .i32 a3, .int .i32 a4, .int .i32 a5, .int .i32 a6, .int .i32 a7, .int .i32 a8, .int .i32 a9] 32 (0, 0)) = V at hR hB ⊢
 refine (H.out _).mono ?_
 rintro e V1 ⟨rfl, hb⟩
 have hR1 := bB hR hb
 have HB := Lib.hid (lT hB hb)
 have d6 : V1.cell? ⟨w.heap.size, 6, none⟩ = some (.int .i32 a6) := (bC hR1 6).trans rfl
 have d7 : V1.cell? ⟨w.heap.size, 7, none⟩ = some (.int .i32 a7) := (bC hR1 7).trans rfl
 clear hR hR1 hB hb H
 go_wp2_with fail
 go_ret
 exact ⟨rfl, HB.out⟩
set_option maxHeartbeats 4000000 in
theorem query_coreOf.spine (a0 a1 a2 a3 a4 a5 a6 a7 a8 a9 e0 e1 e2 e3 : Int) (w : World) (hc : ¬ (a2 = 0 ∧ a3 = 0)) (he : body_Ends.f a0 a1 a2 a3 a4 a5 a6 a7 a8 a9 = some (e0, e1, e2, e3)) :
  Calls Try.prog 45 #[.agg #[.int .u32 a0, .int .i32 a1, .int .i32 a2, .int .i32 a3, .int .i32 a4, .int .i32 a5, .int .i32 a6, .int .i32 a7, .int .i32 a8, .int .i32 a9]] w fun e w' => e = .returned (.iface 87 (.agg #[.int .i32 e0, .int .i32 e1, .int .i32 e2, .int .i32 e3])) ∧ Below w.heap.size w w' := by
 have H := Lib.hid (fun w => body_IsCircle.calls a0 a1 a2 a3 a4 a5 a6 a7 a8 a9 false w (by
  unfold body_IsCircle.f
  by_cases h2 : a2 = 0
  ·have h3 : a3 ≠ 0 := fun e => hc ⟨h2, e⟩
   simp [h3]
  ·simp [h2]))
 have HE := Lib.hid (fun w => body_Ends.calls a0 a1 a2 a3 a4 a5 a6 a7 a8 a9 _ _ _ _ w he)
 clear hc he
 go_enter Try.func45, Try.ntmps45
 go_wp2_with fail
 have hR : (w.alloc (.cells #[.int .u32 a0, .int .i32 a1, .int .i32 a2, .int .i32 a3, .int .i32 a4, .int .i32 a5, .int .i32 a6, .int .i32 a7, .int .i32 a8, .int .i32 a9] 32 (0, 0))).heap[w.heap.size]? = some (.cells #[.int .u32 a0, .int .i32 a1, .int .i32 a2, .int .i32 a3, .int .i32 a4, .int .i32 a5, .int .i32 a6, .int .i32 a7, .int .i32 a8, .int .i32 a9] 32 (0, 0)) := blk_new _ _
 have hB : Below w.heap.size w (w.alloc (.cells #[.int .u32 a0, .int .i32 a1, .int .i32 a2, .int .i32 a3, .int .i32 a4, .int .i32 a5, .int .i32 a6, .int .i32 a7, .int .i32 a8, .int .i32 a9] 32 (0, 0))) := lA (Below.refl w.heap.size w) _
 generalize w.alloc (.cells #[.int .u32 a0, .int .i32 a1, .int .i32 a2, .int .i32 a3, .int .i32 a4, .int .i32 a5, .int .i32 a6, .int .i32 a7, .int .i32 a8, .int .i32 a9] 32 (0, 0)) = V at hR hB ⊢
 refine (H.out _).mono ?_
 rintro e V1 ⟨rfl, hb⟩
 have hR1 := bB hR hb
 have hB1 := lT hB hb
 have d0 : V1.cell? ⟨w.heap.size, 0, none⟩ = some (.int .u32 a0) := (bC hR1 0).trans rfl
 have d1 : V1.cell? ⟨w.heap.size, 1, none⟩ = some (.int .i32 a1) := (bC hR1 1).trans rfl
 have d2 : V1.cell? ⟨w.heap.size, 2, none⟩ = some (.int .i32 a2) := (bC hR1 2).trans rfl
 have d3 : V1.cell? ⟨w.heap.size, 3, none⟩ = some (.int .i32 a3) := (bC hR1 3).trans rfl
 have d4 : V1.cell? ⟨w.heap.size, 4, none⟩ = some (.int .i32 a4) := (bC hR1 4).trans rfl
 have d5 : V1.cell? ⟨w.heap.size, 5, none⟩ = some (.int .i32 a5) := (bC hR1 5).trans rfl
 have d6 : V1.cell? ⟨w.heap.size, 6, none⟩ = some (.int .i32 a6) := (bC hR1 6).trans rfl
 have d7 : V1.cell? ⟨w.heap.size, 7, none⟩ = some (.int .i32 a7) := (bC hR1 7).trans rfl
 have d8 : V1.cell? ⟨w.heap.size, 8, none⟩ = some (.int .i32 a8) := (bC hR1 8).trans rfl
 have d9 : V1.cell? ⟨w.heap.size, 9, none⟩ = some (.int .i32 a9) := (bC hR1 9).trans rfl
 clear hR hB hb H
 go_wp2_with fail
 refine (HE.out _).mono ?_
 rintro e V2 ⟨rfl, hb2⟩
 have HB := Lib.hid (lT hB1 hb2)
 clear d0 d1 d2 d3 d4 d5 d6 d7 d8 d9 hR1 hB1 hb2 HE
 go_wp2_with fail
 go_ret
 exact ⟨rfl, lA (lA HB.out _) _⟩
set_option maxRecDepth 100000 in
set_option maxHeartbeats 8000000 in
theorem query_difference.circle (a0 a1 a2 a3 a4 a5 a6 a7 a8 a9 p0 p1 r1 r2 : Int) (w : World) (hc : a2 = 0 ∧ a3 = 0) (h : vec_Diff.f p0 p1 a6 a7 = some (r1, r2)) :
  Calls Try.prog 28 #[.agg #[.int .u32 a0, .int .i32 a1, .int .i32 a2, .int .i32 a3, .int .i32 a4, .int .i32 a5, .int .i32 a6, .int .i32 a7, .int .i32 a8, .int .i32 a9], .agg #[.int .i32 p0, .int .i32 p1]] w fun e w' => e = .returned (.tuple #[.int .i64 r1, .int .i64 r2]) ∧ Below w.heap.size w w' := by
 have HC := Lib.hid (fun w => query_coreOf.circle a0 a1 a2 a3 a4 a5 a6 a7 a8 a9 w hc)
 have HN := Lib.hid (fun w => query_center.calls a6 a7 p0 p1 w)
 have HD := Lib.hid (fun w => vec_Diff.calls _ _ _ _ _ _ w h)
 have hm : ∀ w : World, (method 230 83 (.agg #[.int .i32 a6, .int .i32 a7]) "billiard/query.nearest").run Try.prog w = .ok (81, .agg #[.int .i32 a6, .int .i32 a7]) w := fun _ => by kernel_rfl
 clear hc h
 go_enter Try.func28, Try.ntmps28
 go_wp2_with fail
 have hQ : ((w.alloc (.cells #[.int .u32 a0, .int .i32 a1, .int .i32 a2, .int .i32 a3, .int .i32 a4, .int .i32 a5, .int .i32 a6, .int .i32 a7, .int .i32 a8, .int .i32 a9] 32 (0, 0))).alloc (.cells #[.int .i32 p0, .int .i32 p1] 24 (0, 0))).heap[w.heap.size]? = some (.cells #[.int .u32 a0, .int .i32 a1, .int .i32 a2, .int .i32 a3, .int .i32 a4, .int .i32 a5, .int .i32 a6, .int .i32 a7, .int .i32 a8, .int .i32 a9] 32 (0, 0)) := bA (blk_new _ _) _
 have hP : ((w.alloc (.cells #[.int .u32 a0, .int .i32 a1, .int .i32 a2, .int .i32 a3, .int .i32 a4, .int .i32 a5, .int .i32 a6, .int .i32 a7, .int .i32 a8, .int .i32 a9] 32 (0, 0))).alloc (.cells #[.int .i32 p0, .int .i32 p1] 24 (0, 0))).heap[w.heap.size + 1]? = some (.cells #[.int .i32 p0, .int .i32 p1] 24 (0, 0)) := by
  have := blk_new (w.alloc (.cells #[.int .u32 a0, .int .i32 a1, .int .i32 a2, .int .i32 a3, .int .i32 a4, .int .i32 a5, .int .i32 a6, .int .i32 a7, .int .i32 a8, .int .i32 a9] 32 (0, 0))) (.cells #[.int .i32 p0, .int .i32 p1] 24 (0, 0))
  simpa only [World.size_alloc] using this
 have hB : Below w.heap.size w ((w.alloc (.cells #[.int .u32 a0, .int .i32 a1, .int .i32 a2, .int .i32 a3, .int .i32 a4, .int .i32 a5, .int .i32 a6, .int .i32 a7, .int .i32 a8, .int .i32 a9] 32 (0, 0))).alloc (.cells #[.int .i32 p0, .int .i32 p1] 24 (0, 0))) := lA (lA (Below.refl w.heap.size w) _) _
 have hQ0 := bD hQ
 have hP0 := bD hP
 have hB0 := below_drew hB
 clear hQ hP hB
 generalize ((w.alloc (.cells #[.int .u32 a0, .int .i32 a1, .int .i32 a2, .int .i32 a3, .int .i32 a4, .int .i32 a5, .int .i32 a6, .int .i32 a7, .int .i32 a8, .int .i32 a9] 32 (0, 0))).alloc (.cells #[.int .i32 p0, .int .i32 p1] 24 (0, 0))) = V at *
 generalize hq_ : w.heap.size = q at hQ0 hP0 ⊢
 clear hq_
 have K0 := (⟨⟨(bC hQ0 0).trans rfl, (bC hQ0 1).trans rfl, (bC hQ0 2).trans rfl, (bC hQ0 3).trans rfl, (bC hQ0 4).trans rfl, (bC hQ0 5).trans rfl, (bC hQ0 6).trans rfl, (bC hQ0 7).trans rfl, (bC hQ0 8).trans rfl, (bC hQ0 9).trans rfl⟩, (bC hP0 0).trans rfl, (bC hP0 1).trans rfl⟩ : (V.drew.cell? ⟨q, 0, none⟩ = some (.int .u32 a0) ∧ V.drew.cell? ⟨q, 1, none⟩ = some (.int .i32 a1) ∧ V.drew.cell? ⟨q, 2, none⟩ = some (.int .i32 a2) ∧ V.drew.cell? ⟨q, 3, none⟩ = some (.int .i32 a3) ∧ V.drew.cell? ⟨q, 4, none⟩ = some (.int .i32 a4) ∧ V.drew.cell? ⟨q, 5, none⟩ = some (.int .i32 a5) ∧ V.drew.cell? ⟨q, 6, none⟩ = some (.int .i32 a6) ∧ V.drew.cell? ⟨q, 7, none⟩ = some (.int .i32 a7) ∧ V.drew.cell? ⟨q, 8, none⟩ = some (.int .i32 a8) ∧ V.drew.cell? ⟨q, 9, none⟩ = some (.int .i32 a9)) ∧ V.drew.cell? ⟨q + 1, 0, none⟩ = some (.int .i32 p0) ∧ V.drew.cell? ⟨q + 1, 1, none⟩ = some (.int .i32 p1))
 go_region_held3 (fun V => (V.cell? ⟨q, 0, none⟩ = some (.int .u32 a0) ∧ V.cell? ⟨q, 1, none⟩ = some (.int .i32 a1) ∧ V.cell? ⟨q, 2, none⟩ = some (.int .i32 a2) ∧ V.cell? ⟨q, 3, none⟩ = some (.int .i32 a3) ∧ V.cell? ⟨q, 4, none⟩ = some (.int .i32 a4) ∧ V.cell? ⟨q, 5, none⟩ = some (.int .i32 a5) ∧ V.cell? ⟨q, 6, none⟩ = some (.int .i32 a6) ∧ V.cell? ⟨q, 7, none⟩ = some (.int .i32 a7) ∧ V.cell? ⟨q, 8, none⟩ = some (.int .i32 a8) ∧ V.cell? ⟨q, 9, none⟩ = some (.int .i32 a9)) ∧ V.cell? ⟨q + 1, 0, none⟩ = some (.int .i32 p0) ∧ V.cell? ⟨q + 1, 1, none⟩ = some (.int .i32 p1))
  (first | (with_reducible exact K0) | (with_reducible exact K1) | (with_reducible exact K2) | (with_reducible exact K3))
  (first | (go_at_call 45; refine (HC.out _).mono ?_; rintro e V1 ⟨rfl, hb1⟩; have hQ1 := bB hQ0 hb1; have hP1 := bB hP0 hb1; have hB1 := lT hB0 hb1; have K1 := (⟨⟨(bC hQ1 0).trans rfl, (bC hQ1 1).trans rfl, (bC hQ1 2).trans rfl, (bC hQ1 3).trans rfl, (bC hQ1 4).trans rfl, (bC hQ1 5).trans rfl, (bC hQ1 6).trans rfl, (bC hQ1 7).trans rfl, (bC hQ1 8).trans rfl, (bC hQ1 9).trans rfl⟩, (bC hP1 0).trans rfl, (bC hP1 1).trans rfl⟩ : (V1.cell? ⟨q, 0, none⟩ = some (.int .u32 a0) ∧ V1.cell? ⟨q, 1, none⟩ = some (.int .i32 a1) ∧ V1.cell? ⟨q, 2, none⟩ = some (.int .i32 a2) ∧ V1.cell? ⟨q, 3, none⟩ = some (.int .i32 a3) ∧ V1.cell? ⟨q, 4, none⟩ = some (.int .i32 a4) ∧ V1.cell? ⟨q, 5, none⟩ = some (.int .i32 a5) ∧ V1.cell? ⟨q, 6, none⟩ = some (.int .i32 a6) ∧ V1.cell? ⟨q, 7, none⟩ = some (.int .i32 a7) ∧ V1.cell? ⟨q, 8, none⟩ = some (.int .i32 a8) ∧ V1.cell? ⟨q, 9, none⟩ = some (.int .i32 a9)) ∧ V1.cell? ⟨q + 1, 0, none⟩ = some (.int .i32 p0) ∧ V1.cell? ⟨q + 1, 1, none⟩ = some (.int .i32 p1))) | (go_at_call 81; refine (HN.out _).mono ?_; rintro e V2 ⟨rfl, hb2⟩; have hQ2 := bB hQ1 hb2; have hP2 := bB hP1 hb2; have hB2 := lT hB1 hb2; have K2 := (⟨⟨(bC hQ2 0).trans rfl, (bC hQ2 1).trans rfl, (bC hQ2 2).trans rfl, (bC hQ2 3).trans rfl, (bC hQ2 4).trans rfl, (bC hQ2 5).trans rfl, (bC hQ2 6).trans rfl, (bC hQ2 7).trans rfl, (bC hQ2 8).trans rfl, (bC hQ2 9).trans rfl⟩, (bC hP2 0).trans rfl, (bC hP2 1).trans rfl⟩ : (V2.cell? ⟨q, 0, none⟩ = some (.int .u32 a0) ∧ V2.cell? ⟨q, 1, none⟩ = some (.int .i32 a1) ∧ V2.cell? ⟨q, 2, none⟩ = some (.int .i32 a2) ∧ V2.cell? ⟨q, 3, none⟩ = some (.int .i32 a3) ∧ V2.cell? ⟨q, 4, none⟩ = some (.int .i32 a4) ∧ V2.cell? ⟨q, 5, none⟩ = some (.int .i32 a5) ∧ V2.cell? ⟨q, 6, none⟩ = some (.int .i32 a6) ∧ V2.cell? ⟨q, 7, none⟩ = some (.int .i32 a7) ∧ V2.cell? ⟨q, 8, none⟩ = some (.int .i32 a8) ∧ V2.cell? ⟨q, 9, none⟩ = some (.int .i32 a9)) ∧ V2.cell? ⟨q + 1, 0, none⟩ = some (.int .i32 p0) ∧ V2.cell? ⟨q + 1, 1, none⟩ = some (.int .i32 p1))) | (go_at_call 44; refine (HD.out _).mono ?_; rintro e V3 ⟨rfl, hb3⟩; have hQ3 := bB hQ2 hb3; have hP3 := bB hP2 hb3; have hB3 := lT hB2 hb3; have K3 := (⟨⟨(bC hQ3 0).trans rfl, (bC hQ3 1).trans rfl, (bC hQ3 2).trans rfl, (bC hQ3 3).trans rfl, (bC hQ3 4).trans rfl, (bC hQ3 5).trans rfl, (bC hQ3 6).trans rfl, (bC hQ3 7).trans rfl, (bC hQ3 8).trans rfl, (bC hQ3 9).trans rfl⟩, (bC hP3 0).trans rfl, (bC hP3 1).trans rfl⟩ : (V3.cell? ⟨q, 0, none⟩ = some (.int .u32 a0) ∧ V3.cell? ⟨q, 1, none⟩ = some (.int .i32 a1) ∧ V3.cell? ⟨q, 2, none⟩ = some (.int .i32 a2) ∧ V3.cell? ⟨q, 3, none⟩ = some (.int .i32 a3) ∧ V3.cell? ⟨q, 4, none⟩ = some (.int .i32 a4) ∧ V3.cell? ⟨q, 5, none⟩ = some (.int .i32 a5) ∧ V3.cell? ⟨q, 6, none⟩ = some (.int .i32 a6) ∧ V3.cell? ⟨q, 7, none⟩ = some (.int .i32 a7) ∧ V3.cell? ⟨q, 8, none⟩ = some (.int .i32 a8) ∧ V3.cell? ⟨q, 9, none⟩ = some (.int .i32 a9)) ∧ V3.cell? ⟨q + 1, 0, none⟩ = some (.int .i32 p0) ∧ V3.cell? ⟨q + 1, 1, none⟩ = some (.int .i32 p1))))
 rename_i hHeld
 have HB := Lib.hid hB3
 clear hHeld K0 K1 K2 K3 hQ0 hQ1 hQ2 hQ3 hP0 hP1 hP2 hP3 hB0 hB1 hB2 hB3 hb1 hb2 hb3 HC HN HD hm
 go_wp2_with fail
 go_ret2
 exact ⟨rfl, HB.out⟩
set_option maxRecDepth 100000 in
set_option maxHeartbeats 8000000 in
theorem query_difference.spine (a0 a1 a2 a3 a4 a5 a6 a7 a8 a9 p0 p1 e0 e1 e2 e3 n0 n1 r1 r2 : Int) (w : World) (hc : ¬ (a2 = 0 ∧ a3 = 0)) (he : body_Ends.f a0 a1 a2 a3 a4 a5 a6 a7 a8 a9 = some (e0, e1, e2, e3)) (hn : point_Nearest.f e0 e1 e2 e3 p0 p1 = some (n0, n1)) (h : vec_Diff.f p0 p1 n0 n1 = some (r1, r2)) :
  Calls Try.prog 28 #[.agg #[.int .u32 a0, .int .i32 a1, .int .i32 a2, .int .i32 a3, .int .i32 a4, .int .i32 a5, .int .i32 a6, .int .i32 a7, .int .i32 a8, .int .i32 a9], .agg #[.int .i32 p0, .int .i32 p1]] w fun e w' => e = .returned (.tuple #[.int .i64 r1, .int .i64 r2]) ∧ Below w.heap.size w w' := by
 have HC := Lib.hid (fun w => query_coreOf.spine a0 a1 a2 a3 a4 a5 a6 a7 a8 a9 e0 e1 e2 e3 w hc he)
 have HN := Lib.hid (fun w => query_spine.calls e0 e1 e2 e3 p0 p1 n0 n1 w hn)
 have HD := Lib.hid (fun w => vec_Diff.calls _ _ _ _ _ _ w h)
 have hm : ∀ w : World, (method 230 87 (.agg #[.int .i32 e0, .int .i32 e1, .int .i32 e2, .int .i32 e3]) "billiard/query.nearest").run Try.prog w = .ok (82, .agg #[.int .i32 e0, .int .i32 e1, .int .i32 e2, .int .i32 e3]) w := fun _ => by kernel_rfl
 clear hc h he hn
 go_enter Try.func28, Try.ntmps28
 go_wp2_with fail
 have hQ : ((w.alloc (.cells #[.int .u32 a0, .int .i32 a1, .int .i32 a2, .int .i32 a3, .int .i32 a4, .int .i32 a5, .int .i32 a6, .int .i32 a7, .int .i32 a8, .int .i32 a9] 32 (0, 0))).alloc (.cells #[.int .i32 p0, .int .i32 p1] 24 (0, 0))).heap[w.heap.size]? = some (.cells #[.int .u32 a0, .int .i32 a1, .int .i32 a2, .int .i32 a3, .int .i32 a4, .int .i32 a5, .int .i32 a6, .int .i32 a7, .int .i32 a8, .int .i32 a9] 32 (0, 0)) := bA (blk_new _ _) _
 have hP : ((w.alloc (.cells #[.int .u32 a0, .int .i32 a1, .int .i32 a2, .int .i32 a3, .int .i32 a4, .int .i32 a5, .int .i32 a6, .int .i32 a7, .int .i32 a8, .int .i32 a9] 32 (0, 0))).alloc (.cells #[.int .i32 p0, .int .i32 p1] 24 (0, 0))).heap[w.heap.size + 1]? = some (.cells #[.int .i32 p0, .int .i32 p1] 24 (0, 0)) := by
  have := blk_new (w.alloc (.cells #[.int .u32 a0, .int .i32 a1, .int .i32 a2, .int .i32 a3, .int .i32 a4, .int .i32 a5, .int .i32 a6, .int .i32 a7, .int .i32 a8, .int .i32 a9] 32 (0, 0))) (.cells #[.int .i32 p0, .int .i32 p1] 24 (0, 0))
  simpa only [World.size_alloc] using this
 have hB : Below w.heap.size w ((w.alloc (.cells #[.int .u32 a0, .int .i32 a1, .int .i32 a2, .int .i32 a3, .int .i32 a4, .int .i32 a5, .int .i32 a6, .int .i32 a7, .int .i32 a8, .int .i32 a9] 32 (0, 0))).alloc (.cells #[.int .i32 p0, .int .i32 p1] 24 (0, 0))) := lA (lA (Below.refl w.heap.size w) _) _
 have hQ0 := bD hQ
 have hP0 := bD hP
 have hB0 := below_drew hB
 clear hQ hP hB
 generalize ((w.alloc (.cells #[.int .u32 a0, .int .i32 a1, .int .i32 a2, .int .i32 a3, .int .i32 a4, .int .i32 a5, .int .i32 a6, .int .i32 a7, .int .i32 a8, .int .i32 a9] 32 (0, 0))).alloc (.cells #[.int .i32 p0, .int .i32 p1] 24 (0, 0))) = V at *
 generalize hq_ : w.heap.size = q at hQ0 hP0 ⊢
 clear hq_
 have K0 := (⟨⟨(bC hQ0 0).trans rfl, (bC hQ0 1).trans rfl, (bC hQ0 2).trans rfl, (bC hQ0 3).trans rfl, (bC hQ0 4).trans rfl, (bC hQ0 5).trans rfl, (bC hQ0 6).trans rfl, (bC hQ0 7).trans rfl, (bC hQ0 8).trans rfl, (bC hQ0 9).trans rfl⟩, (bC hP0 0).trans rfl, (bC hP0 1).trans rfl⟩ : (V.drew.cell? ⟨q, 0, none⟩ = some (.int .u32 a0) ∧ V.drew.cell? ⟨q, 1, none⟩ = some (.int .i32 a1) ∧ V.drew.cell? ⟨q, 2, none⟩ = some (.int .i32 a2) ∧ V.drew.cell? ⟨q, 3, none⟩ = some (.int .i32 a3) ∧ V.drew.cell? ⟨q, 4, none⟩ = some (.int .i32 a4) ∧ V.drew.cell? ⟨q, 5, none⟩ = some (.int .i32 a5) ∧ V.drew.cell? ⟨q, 6, none⟩ = some (.int .i32 a6) ∧ V.drew.cell? ⟨q, 7, none⟩ = some (.int .i32 a7) ∧ V.drew.cell? ⟨q, 8, none⟩ = some (.int .i32 a8) ∧ V.drew.cell? ⟨q, 9, none⟩ = some (.int .i32 a9)) ∧ V.drew.cell? ⟨q + 1, 0, none⟩ = some (.int .i32 p0) ∧ V.drew.cell? ⟨q + 1, 1, none⟩ = some (.int .i32 p1))
 go_region_held3 (fun V => (V.cell? ⟨q, 0, none⟩ = some (.int .u32 a0) ∧ V.cell? ⟨q, 1, none⟩ = some (.int .i32 a1) ∧ V.cell? ⟨q, 2, none⟩ = some (.int .i32 a2) ∧ V.cell? ⟨q, 3, none⟩ = some (.int .i32 a3) ∧ V.cell? ⟨q, 4, none⟩ = some (.int .i32 a4) ∧ V.cell? ⟨q, 5, none⟩ = some (.int .i32 a5) ∧ V.cell? ⟨q, 6, none⟩ = some (.int .i32 a6) ∧ V.cell? ⟨q, 7, none⟩ = some (.int .i32 a7) ∧ V.cell? ⟨q, 8, none⟩ = some (.int .i32 a8) ∧ V.cell? ⟨q, 9, none⟩ = some (.int .i32 a9)) ∧ V.cell? ⟨q + 1, 0, none⟩ = some (.int .i32 p0) ∧ V.cell? ⟨q + 1, 1, none⟩ = some (.int .i32 p1))
  (first | (with_reducible exact K0) | (with_reducible exact K1) | (with_reducible exact K2) | (with_reducible exact K3))
  (first | (go_at_call 45; refine (HC.out _).mono ?_; rintro e V1 ⟨rfl, hb1⟩; have hQ1 := bB hQ0 hb1; have hP1 := bB hP0 hb1; have hB1 := lT hB0 hb1; have K1 := (⟨⟨(bC hQ1 0).trans rfl, (bC hQ1 1).trans rfl, (bC hQ1 2).trans rfl, (bC hQ1 3).trans rfl, (bC hQ1 4).trans rfl, (bC hQ1 5).trans rfl, (bC hQ1 6).trans rfl, (bC hQ1 7).trans rfl, (bC hQ1 8).trans rfl, (bC hQ1 9).trans rfl⟩, (bC hP1 0).trans rfl, (bC hP1 1).trans rfl⟩ : (V1.cell? ⟨q, 0, none⟩ = some (.int .u32 a0) ∧ V1.cell? ⟨q, 1, none⟩ = some (.int .i32 a1) ∧ V1.cell? ⟨q, 2, none⟩ = some (.int .i32 a2) ∧ V1.cell? ⟨q, 3, none⟩ = some (.int .i32 a3) ∧ V1.cell? ⟨q, 4, none⟩ = some (.int .i32 a4) ∧ V1.cell? ⟨q, 5, none⟩ = some (.int .i32 a5) ∧ V1.cell? ⟨q, 6, none⟩ = some (.int .i32 a6) ∧ V1.cell? ⟨q, 7, none⟩ = some (.int .i32 a7) ∧ V1.cell? ⟨q, 8, none⟩ = some (.int .i32 a8) ∧ V1.cell? ⟨q, 9, none⟩ = some (.int .i32 a9)) ∧ V1.cell? ⟨q + 1, 0, none⟩ = some (.int .i32 p0) ∧ V1.cell? ⟨q + 1, 1, none⟩ = some (.int .i32 p1))) | (go_at_call 82; refine (HN.out _).mono ?_; rintro e V2 ⟨rfl, hb2⟩; have hQ2 := bB hQ1 hb2; have hP2 := bB hP1 hb2; have hB2 := lT hB1 hb2; have K2 := (⟨⟨(bC hQ2 0).trans rfl, (bC hQ2 1).trans rfl, (bC hQ2 2).trans rfl, (bC hQ2 3).trans rfl, (bC hQ2 4).trans rfl, (bC hQ2 5).trans rfl, (bC hQ2 6).trans rfl, (bC hQ2 7).trans rfl, (bC hQ2 8).trans rfl, (bC hQ2 9).trans rfl⟩, (bC hP2 0).trans rfl, (bC hP2 1).trans rfl⟩ : (V2.cell? ⟨q, 0, none⟩ = some (.int .u32 a0) ∧ V2.cell? ⟨q, 1, none⟩ = some (.int .i32 a1) ∧ V2.cell? ⟨q, 2, none⟩ = some (.int .i32 a2) ∧ V2.cell? ⟨q, 3, none⟩ = some (.int .i32 a3) ∧ V2.cell? ⟨q, 4, none⟩ = some (.int .i32 a4) ∧ V2.cell? ⟨q, 5, none⟩ = some (.int .i32 a5) ∧ V2.cell? ⟨q, 6, none⟩ = some (.int .i32 a6) ∧ V2.cell? ⟨q, 7, none⟩ = some (.int .i32 a7) ∧ V2.cell? ⟨q, 8, none⟩ = some (.int .i32 a8) ∧ V2.cell? ⟨q, 9, none⟩ = some (.int .i32 a9)) ∧ V2.cell? ⟨q + 1, 0, none⟩ = some (.int .i32 p0) ∧ V2.cell? ⟨q + 1, 1, none⟩ = some (.int .i32 p1))) | (go_at_call 44; refine (HD.out _).mono ?_; rintro e V3 ⟨rfl, hb3⟩; have hQ3 := bB hQ2 hb3; have hP3 := bB hP2 hb3; have hB3 := lT hB2 hb3; have K3 := (⟨⟨(bC hQ3 0).trans rfl, (bC hQ3 1).trans rfl, (bC hQ3 2).trans rfl, (bC hQ3 3).trans rfl, (bC hQ3 4).trans rfl, (bC hQ3 5).trans rfl, (bC hQ3 6).trans rfl, (bC hQ3 7).trans rfl, (bC hQ3 8).trans rfl, (bC hQ3 9).trans rfl⟩, (bC hP3 0).trans rfl, (bC hP3 1).trans rfl⟩ : (V3.cell? ⟨q, 0, none⟩ = some (.int .u32 a0) ∧ V3.cell? ⟨q, 1, none⟩ = some (.int .i32 a1) ∧ V3.cell? ⟨q, 2, none⟩ = some (.int .i32 a2) ∧ V3.cell? ⟨q, 3, none⟩ = some (.int .i32 a3) ∧ V3.cell? ⟨q, 4, none⟩ = some (.int .i32 a4) ∧ V3.cell? ⟨q, 5, none⟩ = some (.int .i32 a5) ∧ V3.cell? ⟨q, 6, none⟩ = some (.int .i32 a6) ∧ V3.cell? ⟨q, 7, none⟩ = some (.int .i32 a7) ∧ V3.cell? ⟨q, 8, none⟩ = some (.int .i32 a8) ∧ V3.cell? ⟨q, 9, none⟩ = some (.int .i32 a9)) ∧ V3.cell? ⟨q + 1, 0, none⟩ = some (.int .i32 p0) ∧ V3.cell? ⟨q + 1, 1, none⟩ = some (.int .i32 p1))))
 rename_i hHeld
 have HB := Lib.hid hB3
 clear hHeld K0 K1 K2 K3 hQ0 hQ1 hQ2 hQ3 hP0 hP1 hP2 hP3 hB0 hB1 hB2 hB3 hb1 hb2 hb3 HC HN HD hm
 go_wp2_with fail
 go_ret2
 exact ⟨rfl, HB.out⟩
theorem query_difference.calls (a0 a1 a2 a3 a4 a5 a6 a7 a8 a9 p0 p1 r1 r2 : Int) (w : World) (h : query_difference.f a0 a1 a2 a3 a4 a5 a6 a7 a8 a9 p0 p1 = some (r1, r2)) :
  Calls Try.prog 28 #[.agg #[.int .u32 a0, .int .i32 a1, .int .i32 a2, .int .i32 a3, .int .i32 a4, .int .i32 a5, .int .i32 a6, .int .i32 a7, .int .i32 a8, .int .i32 a9], .agg #[.int .i32 p0, .int .i32 p1]] w fun e w' => e = .returned (.tuple #[.int .i64 r1, .int .i64 r2]) ∧ Below w.heap.size w w' := by
 unfold query_difference.f coreN at h
 split at h
 ·rename_i c
  exact query_difference.circle a0 a1 a2 a3 a4 a5 a6 a7 a8 a9 p0 p1 r1 r2 w c h
 ·rename_i c
  obtain ⟨⟨n0, n1⟩, h1, h2⟩ := Option.bind_eq_some_iff.mp h
  obtain ⟨⟨e0, e1, e2, e3⟩, h3, h4⟩ := Option.bind_eq_some_iff.mp h1
  exact query_difference.spine a0 a1 a2 a3 a4 a5 a6 a7 a8 a9 p0 p1 e0 e1 e2 e3 n0 n1 r1 r2 w c h3 h4 h2

/-! ### query_Distance: function 10 -/
def query_Distance.f (k : Nat) (a0_0 : Int) (a0_1 : Int) (a0_2 : Int) (a0_3 : Int) (a0_4 : Int) (a0_5 : Int) (a0_6 : Int) (a0_7 : Int) (a0_8 : Int) (a0_9 : Int) (a1_0 : Int) (a1_1 : Int) : Option (Int) := (query_difference.f a0_0 a0_1 a0_2 a0_3 a0_4 a0_5 a0_6 a0_7 a0_8 a0_9 a1_0 a1_1).bind fun bt166 => ((vec_Length.f k bt166.1 bt166.2).bind fun t168 => (some (wrap64 (t168 - (wrap64 (a0_1))))))
theorem query_Distance.mono : ∀ a0 a1 a2 a3 a4 a5 a6 a7 a8 a9 a10 a11 k, LeO (query_Distance.f k a0 a1 a2 a3 a4 a5 a6 a7 a8 a9 a10 a11) (query_Distance.f (k + 1) a0 a1 a2 a3 a4 a5 a6 a7 a8 a9 a10 a11) := by
 intro a0 a1 a2 a3 a4 a5 a6 a7 a8 a9 a10 a11 k
 unfold query_Distance.f
 repeat' first
   | (with_reducible exact vec_Length.mono _ _ _)
   | (with_reducible exact LeO.refl _)
   | (with_reducible exact LeO.none _)
   | (with_reducible refine LeO.ite ?_ ?_)
   | (with_reducible refine LeO.bind ?_ (fun _ => ?_))
   | exact vec_Length.mono _ _ _
   | exact LeO.none _
   | refine LeO.ite ?_ ?_
   | refine LeO.bind ?_ (fun _ => ?_)
set_option maxHeartbeats 8000000 in
set_option maxRecDepth 100000 in
theorem query_Distance.calls (k : Nat) (a0_0 : Int) (a0_1 : Int) (a0_2 : Int) (a0_3 : Int) (a0_4 : Int) (a0_5 : Int) (a0_6 : Int) (a0_7 : Int) (a0_8 : Int) (a0_9 : Int) (a1_0 : Int) (a1_1 : Int) (r : Int) (w : World) (h : query_Distance.f k a0_0 a0_1 a0_2 a0_3 a0_4 a0_5 a0_6 a0_7 a0_8 a0_9 a1_0 a1_1 = some r) :
  Calls Try.prog 10 #[.agg #[.int .u32 a0_0, .int .i32 a0_1, .int .i32 a0_2, .int .i32 a0_3, .int .i32 a0_4, .int .i32 a0_5, .int .i32 a0_6, .int .i32 a0_7, .int .i32 a0_8, .int .i32 a0_9], .agg #[.int .i32 a1_0, .int .i32 a1_1]] w fun e w' => e = .returned (.int .i64 r) ∧ Below w.heap.size w w' := by
 have hu32 := Try.underlying32
 have hu24 := Try.underlying24
 have HB := aM (Below.refl w.heap.size w)
 have H : ((query_difference.f a0_0 a0_1 a0_2 a0_3 a0_4 a0_5 a0_6 a0_7 a0_8 a0_9 a1_0 a1_1).bind fun bt166 => ((vec_Length.f k bt166.1 bt166.2).bind fun t168 => (some (wrap64 (t168 - (wrap64 (a0_1))))))) = some r := h
 clear h
 replace H := Option.bind_eq_some_iff.mp H
 obtain ⟨⟨t166, t167⟩, A30, H⟩ := H
 try dsimp only at H
 have A3 := aM A30
 clear A30
 replace H := Option.bind_eq_some_iff.mp H
 obtain ⟨t168, A40, H⟩ := H
 try dsimp only at H
 have A4 := aM A40
 clear A40
 obtain rfl := Option.some.inj H
 go_enter Try.func10, Try.ntmps10
 go_wp2_with (first | ((with_reducible refine gate_dst (N := 2) rfl ?_); refine box_event ?hg (N := 2) ?hd (cs := #[.int .u32 a0_0, .int .i32 a0_1, .int .i32 a0_2, .int .i32 a0_3, .int .i32 a0_4, .int .i32 a0_5, .int .i32 a0_6, .int .i32 a0_7, .int .i32 a0_8, .int .i32 a0_9]) (t := 32) ?hr ?_; (case hd => rfl); (case hg => rfl); (case hr => first | (go_simp; done) | (go_simp; rfl)); intro b164 hg w5 hbox hb; have n0_ := aM (lT (by repeat (first | (with_reducible first | exact HB.out | apply lA | apply lN | apply lD) | exact HB.out)) hb); have n1_ := aM (hbox); have n2_ := aM ((by rw [hg]; exact (lZ (by repeat (first | (with_reducible first | exact HB.out | apply lA | apply lN | apply lD) | exact HB.out))) : w.heap.size ≤ b164)); have n3_ := aM ((by rw [hg]; exact (lZ (by repeat (first | (with_reducible first | exact HB.out | apply lA | apply lN | apply lD) | exact HB.out))) : w.heap.size ≤ b164)); clear HB; have HB := n0_; have BK164 := n1_; have GW164 := n2_; have GE164 := n3_; clear n0_ n1_ n2_ n3_; clear hb hbox hg) | ((with_reducible refine gate_dst (N := 3) rfl ?_); refine box_event ?hg (N := 3) ?hd (cs := #[.int .i32 a1_0, .int .i32 a1_1]) (t := 24) ?hr ?_; (case hd => rfl); (case hg => rfl); (case hr => first | (go_simp; done) | (go_simp; rfl)); intro b165 hg w6 hbox hb; have n0_ := aM (bB (by (with_reducible repeat first | apply bN | apply bD | apply bA); exact BK164.out) hb); have n1_ := aM (lT (by repeat (first | (with_reducible first | exact HB.out | apply lA | apply lN | apply lD | refine lS ?_ GE164.out) | exact HB.out)) hb); have n2_ := aM (hbox); have n3_ := aM ((by rw [hg]; exact (lZ (by repeat (first | (with_reducible first | exact HB.out | apply lA | apply lN | apply lD | refine lS ?_ GE164.out) | exact HB.out))) : w.heap.size ≤ b165)); have n4_ := aM ((by rw [hg]; exact (lZ (by repeat (first | (with_reducible first | exact HB.out | apply lA | apply lN | apply lD | refine lS ?_ GE164.out) | exact HB.out))) : w.heap.size ≤ b165)); have n5_ := aM ((by rw [hg]; exact Nat.ne_of_lt (bL (g := b164) (by (with_reducible repeat first | apply bN | apply bD | apply bA); exact BK164.out)) : b164 ≠ b165)); have n6_ := aM ((by rw [hg]; exact Nat.ne_of_gt (bL (g := b164) (by (with_reducible repeat first | apply bN | apply bD | apply bA); exact BK164.out)) : b165 ≠ b164)); clear BK164; clear HB; have BK164 := n0_; have HB := n1_; have BK165 := n2_; have GW165 := n3_; have GE165 := n4_; have N0_ := n5_; have N1_ := n6_; clear n0_ n1_ n2_ n3_ n4_ n5_ n6_; clear hb hbox hg; have hnb7 := N0_.out; have hnc7 := N1_.out; have hcz8_0 : w6.cell? ⟨b164, 0, none⟩ = some (.int .u32 a0_0) := (bC BK164.out 0).trans rfl; have hcz8_1 : w6.cell? ⟨b164, 1, none⟩ = some (.int .i32 a0_1) := (bC BK164.out 1).trans rfl; have hcz8_2 : w6.cell? ⟨b164, 2, none⟩ = some (.int .i32 a0_2) := (bC BK164.out 2).trans rfl; have hcz8_3 : w6.cell? ⟨b164, 3, none⟩ = some (.int .i32 a0_3) := (bC BK164.out 3).trans rfl; have hcz8_4 : w6.cell? ⟨b164, 4, none⟩ = some (.int .i32 a0_4) := (bC BK164.out 4).trans rfl; have hcz8_5 : w6.cell? ⟨b164, 5, none⟩ = some (.int .i32 a0_5) := (bC BK164.out 5).trans rfl; have hcz8_6 : w6.cell? ⟨b164, 6, none⟩ = some (.int .i32 a0_6) := (bC BK164.out 6).trans rfl; have hcz8_7 : w6.cell? ⟨b164, 7, none⟩ = some (.int .i32 a0_7) := (bC BK164.out 7).trans rfl; have hcz8_8 : w6.cell? ⟨b164, 8, none⟩ = some (.int .i32 a0_8) := (bC BK164.out 8).trans rfl; have hcz8_9 : w6.cell? ⟨b164, 9, none⟩ = some (.int .i32 a0_9) := (bC BK164.out 9).trans rfl; have hfz8_0 := bF BK164.out 0; have hfz8_1 := bF BK164.out 1; have hfz8_2 := bF BK164.out 2; have hfz8_3 := bF BK164.out 3; have hfz8_4 := bF BK164.out 4; have hfz8_5 := bF BK164.out 5; have hfz8_6 := bF BK164.out 6; have hfz8_7 := bF BK164.out 7; have hfz8_8 := bF BK164.out 8; have hfz8_9 := bF BK164.out 9; have hcz9_0 : w6.cell? ⟨b165, 0, none⟩ = some (.int .i32 a1_0) := (bC BK165.out 0).trans rfl; have hcz9_1 : w6.cell? ⟨b165, 1, none⟩ = some (.int .i32 a1_1) := (bC BK165.out 1).trans rfl; have hfz9_0 := bF BK165.out 0; have hfz9_1 := bF BK165.out 1) | (go_at_call 28; (with_reducible refine (query_difference.calls a0_0 a0_1 a0_2 a0_3 a0_4 a0_5 a0_6 a0_7 a0_8 a0_9 a1_0 a1_1 t166 t167 _ A3.out).mono ?_); rintro e w10 ⟨rfl, hb⟩; have n_ := kB2 BK164 BK165 HB (by repeat first | exact lR _ _ | apply lN | apply lD | apply lA) hb; clear BK164 BK165 HB; obtain ⟨BK164, BK165, HB⟩ := n_; (try clear hb); (try clear hb2); (try clear hk); (try clear hi)) | (go_at_call 29; (with_reducible refine (vec_Length.calls k t166 t167 t168 _ A4.out).mono ?_); rintro e w' ⟨rfl, ⟨nd, rfl⟩⟩; (try first | exact ⟨rfl, _, World.drewN_drewN _ _ _⟩ | exact ⟨rfl, _, Eq.trans (World.drewN_drewN _ _ _) (congrArg (World.drewN _) (Nat.add_assoc _ _ _))⟩); have hcz11_0 : w10.cell? ⟨b164, 0, none⟩ = some (.int .u32 a0_0) := (bC BK164.out 0).trans rfl; have hcz11_1 : w10.cell? ⟨b164, 1, none⟩ = some (.int .i32 a0_1) := (bC BK164.out 1).trans rfl; have hcz11_2 : w10.cell? ⟨b164, 2, none⟩ = some (.int .i32 a0_2) := (bC BK164.out 2).trans rfl; have hcz11_3 : w10.cell? ⟨b164, 3, none⟩ = some (.int .i32 a0_3) := (bC BK164.out 3).trans rfl; have hcz11_4 : w10.cell? ⟨b164, 4, none⟩ = some (.int .i32 a0_4) := (bC BK164.out 4).trans rfl; have hcz11_5 : w10.cell? ⟨b164, 5, none⟩ = some (.int .i32 a0_5) := (bC BK164.out 5).trans rfl; have hcz11_6 : w10.cell? ⟨b164, 6, none⟩ = some (.int .i32 a0_6) := (bC BK164.out 6).trans rfl; have hcz11_7 : w10.cell? ⟨b164, 7, none⟩ = some (.int .i32 a0_7) := (bC BK164.out 7).trans rfl; have hcz11_8 : w10.cell? ⟨b164, 8, none⟩ = some (.int .i32 a0_8) := (bC BK164.out 8).trans rfl; have hcz11_9 : w10.cell? ⟨b164, 9, none⟩ = some (.int .i32 a0_9) := (bC BK164.out 9).trans rfl; have hfz11_0 := bF BK164.out 0; have hfz11_1 := bF BK164.out 1; have hfz11_2 := bF BK164.out 2; have hfz11_3 := bF BK164.out 3; have hfz11_4 := bF BK164.out 4; have hfz11_5 := bF BK164.out 5; have hfz11_6 := bF BK164.out 6; have hfz11_7 := bF BK164.out 7; have hfz11_8 := bF BK164.out 8; have hfz11_9 := bF BK164.out 9))
 repeat (go_quiet (first | ((with_reducible refine gate_dst (N := 2) rfl ?_); refine box_event ?hg (N := 2) ?hd (cs := #[.int .u32 a0_0, .int .i32 a0_1, .int .i32 a0_2, .int .i32 a0_3, .int .i32 a0_4, .int .i32 a0_5, .int .i32 a0_6, .int .i32 a0_7, .int .i32 a0_8, .int .i32 a0_9]) (t := 32) ?hr ?_; (case hd => rfl); (case hg => rfl); (case hr => first | (go_simp; done) | (go_simp; rfl)); intro b164 hg w5 hbox hb; have n0_ := aM (lT (by repeat (first | (with_reducible first | exact HB.out | apply lA | apply lN | apply lD) | exact HB.out)) hb); have n1_ := aM (hbox); have n2_ := aM ((by rw [hg]; exact (lZ (by repeat (first | (with_reducible first | exact HB.out | apply lA | apply lN | apply lD) | exact HB.out))) : w.heap.size ≤ b164)); have n3_ := aM ((by rw [hg]; exact (lZ (by repeat (first | (with_reducible first | exact HB.out | apply lA | apply lN | apply lD) | exact HB.out))) : w.heap.size ≤ b164)); clear HB; have HB := n0_; have BK164 := n1_; have GW164 := n2_; have GE164 := n3_; clear n0_ n1_ n2_ n3_; clear hb hbox hg) | ((with_reducible refine gate_dst (N := 3) rfl ?_); refine box_event ?hg (N := 3) ?hd (cs := #[.int .i32 a1_0, .int .i32 a1_1]) (t := 24) ?hr ?_; (case hd => rfl); (case hg => rfl); (case hr => first | (go_simp; done) | (go_simp; rfl)); intro b165 hg w6 hbox hb; have n0_ := aM (bB (by (with_reducible repeat first | apply bN | apply bD | apply bA); exact BK164.out) hb); have n1_ := aM (lT (by repeat (first | (with_reducible first | exact HB.out | apply lA | apply lN | apply lD | refine lS ?_ GE164.out) | exact HB.out)) hb); have n2_ := aM (hbox); have n3_ := aM ((by rw [hg]; exact (lZ (by repeat (first | (with_reducible first | exact HB.out | apply lA | apply lN | apply lD | refine lS ?_ GE164.out) | exact HB.out))) : w.heap.size ≤ b165)); have n4_ := aM ((by rw [hg]; exact (lZ (by repeat (first | (with_reducible first | exact HB.out | apply lA | apply lN | apply lD | refine lS ?_ GE164.out) | exact HB.out))) : w.heap.size ≤ b165)); have n5_ := aM ((by rw [hg]; exact Nat.ne_of_lt (bL (g := b164) (by (with_reducible repeat first | apply bN | apply bD | apply bA); exact BK164.out)) : b164 ≠ b165)); have n6_ := aM ((by rw [hg]; exact Nat.ne_of_gt (bL (g := b164) (by (with_reducible repeat first | apply bN | apply bD | apply bA); exact BK164.out)) : b165 ≠ b164)); clear BK164; clear HB; have BK164 := n0_; have HB := n1_; have BK165 := n2_; have GW165 := n3_; have GE165 := n4_; have N0_ := n5_; have N1_ := n6_; clear n0_ n1_ n2_ n3_ n4_ n5_ n6_; clear hb hbox hg; have hnb7 := N0_.out; have hnc7 := N1_.out; have hcz8_0 : w6.cell? ⟨b164, 0, none⟩ = some (.int .u32 a0_0) := (bC BK164.out 0).trans rfl; have hcz8_1 : w6.cell? ⟨b164, 1, none⟩ = some (.int .i32 a0_1) := (bC BK164.out 1).trans rfl; have hcz8_2 : w6.cell? ⟨b164, 2, none⟩ = some (.int .i32 a0_2) := (bC BK164.out 2).trans rfl; have hcz8_3 : w6.cell? ⟨b164, 3, none⟩ = some (.int .i32 a0_3) := (bC BK164.out 3).trans rfl; have hcz8_4 : w6.cell? ⟨b164, 4, none⟩ = some (.int .i32 a0_4) := (bC BK164.out 4).trans rfl; have hcz8_5 : w6.cell? ⟨b164, 5, none⟩ = some (.int .i32 a0_5) := (bC BK164.out 5).trans rfl; have hcz8_6 : w6.cell? ⟨b164, 6, none⟩ = some (.int .i32 a0_6) := (bC BK164.out 6).trans rfl; have hcz8_7 : w6.cell? ⟨b164, 7, none⟩ = some (.int .i32 a0_7) := (bC BK164.out 7).trans rfl; have hcz8_8 : w6.cell? ⟨b164, 8, none⟩ = some (.int .i32 a0_8) := (bC BK164.out 8).trans rfl; have hcz8_9 : w6.cell? ⟨b164, 9, none⟩ = some (.int .i32 a0_9) := (bC BK164.out 9).trans rfl; have hfz8_0 := bF BK164.out 0; have hfz8_1 := bF BK164.out 1; have hfz8_2 := bF BK164.out 2; have hfz8_3 := bF BK164.out 3; have hfz8_4 := bF BK164.out 4; have hfz8_5 := bF BK164.out 5; have hfz8_6 := bF BK164.out 6; have hfz8_7 := bF BK164.out 7; have hfz8_8 := bF BK164.out 8; have hfz8_9 := bF BK164.out 9; have hcz9_0 : w6.cell? ⟨b165, 0, none⟩ = some (.int .i32 a1_0) := (bC BK165.out 0).trans rfl; have hcz9_1 : w6.cell? ⟨b165, 1, none⟩ = some (.int .i32 a1_1) := (bC BK165.out 1).trans rfl; have hfz9_0 := bF BK165.out 0; have hfz9_1 := bF BK165.out 1) | (go_at_call 28; (with_reducible refine (query_difference.calls a0_0 a0_1 a0_2 a0_3 a0_4 a0_5 a0_6 a0_7 a0_8 a0_9 a1_0 a1_1 t166 t167 _ A3.out).mono ?_); rintro e w10 ⟨rfl, hb⟩; have n_ := kB2 BK164 BK165 HB (by repeat first | exact lR _ _ | apply lN | apply lD | apply lA) hb; clear BK164 BK165 HB; obtain ⟨BK164, BK165, HB⟩ := n_; (try clear hb); (try clear hb2); (try clear hk); (try clear hi)) | (go_at_call 29; (with_reducible refine (vec_Length.calls k t166 t167 t168 _ A4.out).mono ?_); rintro e w' ⟨rfl, ⟨nd, rfl⟩⟩; (try first | exact ⟨rfl, _, World.drewN_drewN _ _ _⟩ | exact ⟨rfl, _, Eq.trans (World.drewN_drewN _ _ _) (congrArg (World.drewN _) (Nat.add_assoc _ _ _))⟩); have hcz11_0 : w10.cell? ⟨b164, 0, none⟩ = some (.int .u32 a0_0) := (bC BK164.out 0).trans rfl; have hcz11_1 : w10.cell? ⟨b164, 1, none⟩ = some (.int .i32 a0_1) := (bC BK164.out 1).trans rfl; have hcz11_2 : w10.cell? ⟨b164, 2, none⟩ = some (.int .i32 a0_2) := (bC BK164.out 2).trans rfl; have hcz11_3 : w10.cell? ⟨b164, 3, none⟩ = some (.int .i32 a0_3) := (bC BK164.out 3).trans rfl; have hcz11_4 : w10.cell? ⟨b164, 4, none⟩ = some (.int .i32 a0_4) := (bC BK164.out 4).trans rfl; have hcz11_5 : w10.cell? ⟨b164, 5, none⟩ = some (.int .i32 a0_5) := (bC BK164.out 5).trans rfl; have hcz11_6 : w10.cell? ⟨b164, 6, none⟩ = some (.int .i32 a0_6) := (bC BK164.out 6).trans rfl; have hcz11_7 : w10.cell? ⟨b164, 7, none⟩ = some (.int .i32 a0_7) := (bC BK164.out 7).trans rfl; have hcz11_8 : w10.cell? ⟨b164, 8, none⟩ = some (.int .i32 a0_8) := (bC BK164.out 8).trans rfl; have hcz11_9 : w10.cell? ⟨b164, 9, none⟩ = some (.int .i32 a0_9) := (bC BK164.out 9).trans rfl; have hfz11_0 := bF BK164.out 0; have hfz11_1 := bF BK164.out 1; have hfz11_2 := bF BK164.out 2; have hfz11_3 := bF BK164.out 3; have hfz11_4 := bF BK164.out 4; have hfz11_5 := bF BK164.out 5; have hfz11_6 := bF BK164.out 6; have hfz11_7 := bF BK164.out 7; have hfz11_8 := bF BK164.out 8; have hfz11_9 := bF BK164.out 9)); try go_wp2_with (first | ((with_reducible refine gate_dst (N := 2) rfl ?_); refine box_event ?hg (N := 2) ?hd (cs := #[.int .u32 a0_0, .int .i32 a0_1, .int .i32 a0_2, .int .i32 a0_3, .int .i32 a0_4, .int .i32 a0_5, .int .i32 a0_6, .int .i32 a0_7, .int .i32 a0_8, .int .i32 a0_9]) (t := 32) ?hr ?_; (case hd => rfl); (case hg => rfl); (case hr => first | (go_simp; done) | (go_simp; rfl)); intro b164 hg w5 hbox hb; have n0_ := aM (lT (by repeat (first | (with_reducible first | exact HB.out | apply lA | apply lN | apply lD) | exact HB.out)) hb); have n1_ := aM (hbox); have n2_ := aM ((by rw [hg]; exact (lZ (by repeat (first | (with_reducible first | exact HB.out | apply lA | apply lN | apply lD) | exact HB.out))) : w.heap.size ≤ b164)); have n3_ := aM ((by rw [hg]; exact (lZ (by repeat (first | (with_reducible first | exact HB.out | apply lA | apply lN | apply lD) | exact HB.out))) : w.heap.size ≤ b164)); clear HB; have HB := n0_; have BK164 := n1_; have GW164 := n2_; have GE164 := n3_; clear n0_ n1_ n2_ n3_; clear hb hbox hg) | ((with_reducible refine gate_dst (N := 3) rfl ?_); refine box_event ?hg (N := 3) ?hd (cs := #[.int .i32 a1_0, .int .i32 a1_1]) (t := 24) ?hr ?_; (case hd => rfl); (case hg => rfl); (case hr => first | (go_simp; done) | (go_simp; rfl)); intro b165 hg w6 hbox hb; have n0_ := aM (bB (by (with_reducible repeat first | apply bN | apply bD | apply bA); exact BK164.out) hb); have n1_ := aM (lT (by repeat (first | (with_reducible first | exact HB.out | apply lA | apply lN | apply lD | refine lS ?_ GE164.out) | exact HB.out)) hb); have n2_ := aM (hbox); have n3_ := aM ((by rw [hg]; exact (lZ (by repeat (first | (with_reducible first | exact HB.out | apply lA | apply lN | apply lD | refine lS ?_ GE164.out) | exact HB.out))) : w.heap.size ≤ b165)); have n4_ := aM ((by rw [hg]; exact (lZ (by repeat (first | (with_reducible first | exact HB.out | apply lA | apply lN | apply lD | refine lS ?_ GE164.out) | exact HB.out))) : w.heap.size ≤ b165)); have n5_ := aM ((by rw [hg]; exact Nat.ne_of_lt (bL (g := b164) (by (with_reducible repeat first | apply bN | apply bD | apply bA); exact BK164.out)) : b164 ≠ b165)); have n6_ := aM ((by rw [hg]; exact Nat.ne_of_gt (bL (g := b164) (by (with_reducible repeat first | apply bN | apply bD | apply bA); exact BK164.out)) : b165 ≠ b164)); clear BK164; clear HB; have BK164 := n0_; have HB := n1_; have BK165 := n2_; have GW165 := n3_; have GE165 := n4_; have N0_ := n5_; have N1_ := n6_; clear n0_ n1_ n2_ n3_ n4_ n5_ n6_; clear hb hbox hg; have hnb7 := N0_.out; have hnc7 := N1_.out; have hcz8_0 : w6.cell? ⟨b164, 0, none⟩ = some (.int .u32 a0_0) := (bC BK164.out 0).trans rfl; have hcz8_1 : w6.cell? ⟨b164, 1, none⟩ = some (.int .i32 a0_1) := (bC BK164.out 1).trans rfl; have hcz8_2 : w6.cell? ⟨b164, 2, none⟩ = some (.int .i32 a0_2) := (bC BK164.out 2).trans rfl; have hcz8_3 : w6.cell? ⟨b164, 3, none⟩ = some (.int .i32 a0_3) := (bC BK164.out 3).trans rfl; have hcz8_4 : w6.cell? ⟨b164, 4, none⟩ = some (.int .i32 a0_4) := (bC BK164.out 4).trans rfl; have hcz8_5 : w6.cell? ⟨b164, 5, none⟩ = some (.int .i32 a0_5) := (bC BK164.out 5).trans rfl; have hcz8_6 : w6.cell? ⟨b164, 6, none⟩ = some (.int .i32 a0_6) := (bC BK164.out 6).trans rfl; have hcz8_7 : w6.cell? ⟨b164, 7, none⟩ = some (.int .i32 a0_7) := (bC BK164.out 7).trans rfl; have hcz8_8 : w6.cell? ⟨b164, 8, none⟩ = some (.int .i32 a0_8) := (bC BK164.out 8).trans rfl; have hcz8_9 : w6.cell? ⟨b164, 9, none⟩ = some (.int .i32 a0_9) := (bC BK164.out 9).trans rfl; have hfz8_0 := bF BK164.out 0; have hfz8_1 := bF BK164.out 1; have hfz8_2 := bF BK164.out 2; have hfz8_3 := bF BK164.out 3; have hfz8_4 := bF BK164.out 4; have hfz8_5 := bF BK164.out 5; have hfz8_6 := bF BK164.out 6; have hfz8_7 := bF BK164.out 7; have hfz8_8 := bF BK164.out 8; have hfz8_9 := bF BK164.out 9; have hcz9_0 : w6.cell? ⟨b165, 0, none⟩ = some (.int .i32 a1_0) := (bC BK165.out 0).trans rfl; have hcz9_1 : w6.cell? ⟨b165, 1, none⟩ = some (.int .i32 a1_1) := (bC BK165.out 1).trans rfl; have hfz9_0 := bF BK165.out 0; have hfz9_1 := bF BK165.out 1) | (go_at_call 28; (with_reducible refine (query_difference.calls a0_0 a0_1 a0_2 a0_3 a0_4 a0_5 a0_6 a0_7 a0_8 a0_9 a1_0 a1_1 t166 t167 _ A3.out).mono ?_); rintro e w10 ⟨rfl, hb⟩; have n_ := kB2 BK164 BK165 HB (by repeat first | exact lR _ _ | apply lN | apply lD | apply lA) hb; clear BK164 BK165 HB; obtain ⟨BK164, BK165, HB⟩ := n_; (try clear hb); (try clear hb2); (try clear hk); (try clear hi)) | (go_at_call 29; (with_reducible refine (vec_Length.calls k t166 t167 t168 _ A4.out).mono ?_); rintro e w' ⟨rfl, ⟨nd, rfl⟩⟩; (try first | exact ⟨rfl, _, World.drewN_drewN _ _ _⟩ | exact ⟨rfl, _, Eq.trans (World.drewN_drewN _ _ _) (congrArg (World.drewN _) (Nat.add_assoc _ _ _))⟩); have hcz11_0 : w10.cell? ⟨b164, 0, none⟩ = some (.int .u32 a0_0) := (bC BK164.out 0).trans rfl; have hcz11_1 : w10.cell? ⟨b164, 1, none⟩ = some (.int .i32 a0_1) := (bC BK164.out 1).trans rfl; have hcz11_2 : w10.cell? ⟨b164, 2, none⟩ = some (.int .i32 a0_2) := (bC BK164.out 2).trans rfl; have hcz11_3 : w10.cell? ⟨b164, 3, none⟩ = some (.int .i32 a0_3) := (bC BK164.out 3).trans rfl; have hcz11_4 : w10.cell? ⟨b164, 4, none⟩ = some (.int .i32 a0_4) := (bC BK164.out 4).trans rfl; have hcz11_5 : w10.cell? ⟨b164, 5, none⟩ = some (.int .i32 a0_5) := (bC BK164.out 5).trans rfl; have hcz11_6 : w10.cell? ⟨b164, 6, none⟩ = some (.int .i32 a0_6) := (bC BK164.out 6).trans rfl; have hcz11_7 : w10.cell? ⟨b164, 7, none⟩ = some (.int .i32 a0_7) := (bC BK164.out 7).trans rfl; have hcz11_8 : w10.cell? ⟨b164, 8, none⟩ = some (.int .i32 a0_8) := (bC BK164.out 8).trans rfl; have hcz11_9 : w10.cell? ⟨b164, 9, none⟩ = some (.int .i32 a0_9) := (bC BK164.out 9).trans rfl; have hfz11_0 := bF BK164.out 0; have hfz11_1 := bF BK164.out 1; have hfz11_2 := bF BK164.out 2; have hfz11_3 := bF BK164.out 3; have hfz11_4 := bF BK164.out 4; have hfz11_5 := bF BK164.out 5; have hfz11_6 := bF BK164.out 6; have hfz11_7 := bF BK164.out 7; have hfz11_8 := bF BK164.out 8; have hfz11_9 := bF BK164.out 9)))
 go_ret
 exact ⟨by first | rfl | (simp only [i64_w]; done) | (simp only [i64_w]; rfl) | (simp [errW_none, errW_some] <;> rfl) | (simp [*, errW_none, errW_some] <;> rfl), by repeat (first | (with_reducible first | exact HB.out | apply lA | apply lN | apply lD | refine lS ?_ GE164.out | refine lS ?_ GE165.out) | exact HB.out)⟩

/-! ### query_In: function 12 -/
def query_In.f (a0_0 : Int) (a0_1 : Int) (a0_2 : Int) (a0_3 : Int) (a0_4 : Int) (a0_5 : Int) (a0_6 : Int) (a0_7 : Int) (a0_8 : Int) (a0_9 : Int) (a1_0 : Int) (a1_1 : Int) : Option (Bool) := (box_Of.f a0_0 a0_1 a0_2 a0_3 a0_4 a0_5 a0_6 a0_7 a0_8 a0_9).bind fun bt182 => ((box_Contains.f bt182.1 bt182.2.1 bt182.2.2.1 bt182.2.2.2 a1_0 a1_1).bind fun t186 => (if t186 = true then ((query_difference.f a0_0 a0_1 a0_2 a0_3 a0_4 a0_5 a0_6 a0_7 a0_8 a0_9 a1_0 a1_1).bind fun bt187 => ((vec_LengthSq.f bt187.1 bt187.2).bind fun t189 => (some (decide (t189 ≤ (IntKind.u64.wrap ((IntKind.u64.wrap (a0_1)) * (IntKind.u64.wrap (a0_1))))))))) else (some false)))
def query_In.T3 : Bool × List (List Nat × List Nat) := (true, [([], []), ([], []), ([0, 1], [0, 1]), ([2], [2]), ([2], [2]), ([3, 4, 2], [3, 4]), ([], []), ([6], [6]), ([7], [7]), ([], []), ([9], [9]), ([10], [10]), ([8, 11], [8, 11]), ([5, 12], [5, 12]), ([13, 5, 0, 1, 2, 3, 4, 5, 6, 7, 8, 9, 10, 11, 12, 13], [13])])
def query_In.B3 : List Nat := [0, 0, 3, 7, 7, 31, 0, 64, 192, 0, 512, 1536, 4032, 8191, 16383]
theorem query_In.tab3 : rtab .any (opsOf Try.f12 3) = query_In.T3 := by kernel_rfl
theorem query_In.bits3 : waitsOk query_In.T3.2 query_In.B3 = true := by kernel_rfl
set_option maxHeartbeats 8000000 in
set_option maxRecDepth 100000 in
theorem query_In.calls (a0_0 : Int) (a0_1 : Int) (a0_2 : Int) (a0_3 : Int) (a0_4 : Int) (a0_5 : Int) (a0_6 : Int) (a0_7 : Int) (a0_8 : Int) (a0_9 : Int) (a1_0 : Int) (a1_1 : Int) (r : Bool) (w : World) (h : query_In.f a0_0 a0_1 a0_2 a0_3 a0_4 a0_5 a0_6 a0_7 a0_8 a0_9 a1_0 a1_1 = some r) :
  Calls Try.prog 12 #[.agg #[.int .u32 a0_0, .int .i32 a0_1, .int .i32 a0_2, .int .i32 a0_3, .int .i32 a0_4, .int .i32 a0_5, .int .i32 a0_6, .int .i32 a0_7, .int .i32 a0_8, .int .i32 a0_9], .agg #[.int .i32 a1_0, .int .i32 a1_1]] w fun e w' => e = .returned (.bool r) ∧ Below w.heap.size w w' := by
 have hu32 := Try.underlying32
 have hu24 := Try.underlying24
 have HB := aM (Below.refl w.heap.size w)
 have H : ((box_Of.f a0_0 a0_1 a0_2 a0_3 a0_4 a0_5 a0_6 a0_7 a0_8 a0_9).bind fun bt182 => ((box_Contains.f bt182.1 bt182.2.1 bt182.2.2.1 bt182.2.2.2 a1_0 a1_1).bind fun t186 => (if t186 = true then ((query_difference.f a0_0 a0_1 a0_2 a0_3 a0_4 a0_5 a0_6 a0_7 a0_8 a0_9 a1_0 a1_1).bind fun bt187 => ((vec_LengthSq.f bt187.1 bt187.2).bind fun t189 => (some (decide (t189 ≤ (IntKind.u64.wrap ((IntKind.u64.wrap (a0_1)) * (IntKind.u64.wrap (a0_1))))))))) else (some false)))) = some r := h
 clear h
 replace H := Option.bind_eq_some_iff.mp H
 obtain ⟨⟨t182, t183, t184, t185⟩, A30, H⟩ := H
 try dsimp only at H
 have A3 := aM A30
 clear A30
 replace H := Option.bind_eq_some_iff.mp H
 obtain ⟨t186, A40, H⟩ := H
 try dsimp only at H
 have A4 := aM A40
 clear A40
 by_cases c5 : t186 = true
 ·subst c5
  rw [if_pos rfl] at H
  replace H := Option.bind_eq_some_iff.mp H
  obtain ⟨⟨t187, t188⟩, A60, H⟩ := H
  try dsimp only at H
  have A6 := aM A60
  clear A60
  replace H := Option.bind_eq_some_iff.mp H
  obtain ⟨t189, A70, H⟩ := H
  try dsimp only at H
  have A7 := aM A70
  clear A70
  obtain rfl := Option.some.inj H
  go_enter Try.func12, Try.ntmps12
  try go_wp2_with (first | ((with_reducible refine gate_dst (N := 2) rfl ?_); refine box_event ?hg (N := 2) ?hd (cs := #[.int .u32 a0_0, .int .i32 a0_1, .int .i32 a0_2, .int .i32 a0_3, .int .i32 a0_4, .int .i32 a0_5, .int .i32 a0_6, .int .i32 a0_7, .int .i32 a0_8, .int .i32 a0_9]) (t := 32) ?hr ?_; (case hd => rfl); (case hg => rfl); (case hr => first | (go_simp; done) | (go_simp; rfl)); intro b180 hg w8 hbox hb; have n0_ := aM (lT (by repeat (first | (with_reducible first | exact HB.out | apply lA | apply lN | apply lD) | exact HB.out)) hb); have n1_ := aM (hbox); have n2_ := aM ((by rw [hg]; exact (lZ (by repeat (first | (with_reducible first | exact HB.out | apply lA | apply lN | apply lD) | exact HB.out))) : w.heap.size ≤ b180)); have n3_ := aM ((by rw [hg]; exact (lZ (by repeat (first | (with_reducible first | exact HB.out | apply lA | apply lN | apply lD) | exact HB.out))) : w.heap.size ≤ b180)); clear HB; have HB := n0_; have BK180 := n1_; have GW180 := n2_; have GE180 := n3_; clear n0_ n1_ n2_ n3_; clear hb hbox hg) | ((with_reducible refine gate_dst (N := 3) rfl ?_); refine box_event ?hg (N := 3) ?hd (cs := #[.int .i32 a1_0, .int .i32 a1_1]) (t := 24) ?hr ?_; (case hd => rfl); (case hg => rfl); (case hr => first | (go_simp; done) | (go_simp; rfl)); intro b181 hg w9 hbox hb; have n0_ := aM (bB (by (with_reducible repeat first | apply bN | apply bD | apply bA); exact BK180.out) hb); have n1_ := aM (lT (by repeat (first | (with_reducible first | exact HB.out | apply lA | apply lN | apply lD | refine lS ?_ GE180.out) | exact HB.out)) hb); have n2_ := aM (hbox); have n3_ := aM ((by rw [hg]; exact (lZ (by repeat (first | (with_reducible first | exact HB.out | apply lA | apply lN | apply lD | refine lS ?_ GE180.out) | exact HB.out))) : w.heap.size ≤ b181)); have n4_ := aM ((by rw [hg]; exact (lZ (by repeat (first | (with_reducible first | exact HB.out | apply lA | apply lN | apply lD | refine lS ?_ GE180.out) | exact HB.out))) : w.heap.size ≤ b181)); have n5_ := aM ((by rw [hg]; exact Nat.ne_of_lt (bL (g := b180) (by (with_reducible repeat first | apply bN | apply bD | apply bA); exact BK180.out)) : b180 ≠ b181)); have n6_ := aM ((by rw [hg]; exact Nat.ne_of_gt (bL (g := b180) (by (with_reducible repeat first | apply bN | apply bD | apply bA); exact BK180.out)) : b181 ≠ b180)); clear BK180; clear HB; have BK180 := n0_; have HB := n1_; have BK181 := n2_; have GW181 := n3_; have GE181 := n4_; have N2_ := n5_; have N3_ := n6_; clear n0_ n1_ n2_ n3_ n4_ n5_ n6_; clear hb hbox hg))
  have n_ := kA2 BK180 BK181 HB (lD (lR _ _))
  clear BK180 BK181 HB
  obtain ⟨BK180, BK181, HB⟩ := n_
  refine start_ (n := 5) (S := fun w' => w'.cell? ⟨b180, 0, none⟩ = some (.int .u32 a0_0) ∧ w'.cell? ⟨b180, 1, none⟩ = some (.int .i32 a0_1) ∧ w'.cell? ⟨b180, 2, none⟩ = some (.int .i32 a0_2) ∧ w'.cell? ⟨b180, 3, none⟩ = some (.int .i32 a0_3) ∧ w'.cell? ⟨b180, 4, none⟩ = some (.int .i32 a0_4) ∧ w'.cell? ⟨b180, 5, none⟩ = some (.int .i32 a0_5) ∧ w'.cell? ⟨b180, 6, none⟩ = some (.int .i32 a0_6) ∧ w'.cell? ⟨b180, 7, none⟩ = some (.int .i32 a0_7) ∧ w'.cell? ⟨b180, 8, none⟩ = some (.int .i32 a0_8) ∧ w'.cell? ⟨b180, 9, none⟩ = some (.int .i32 a0_9) ∧ w'.cell? ⟨b181, 0, none⟩ = some (.int .i32 a1_0) ∧ w'.cell? ⟨b181, 1, none⟩ = some (.int .i32 a1_1)) (ds := []) #[false, false, false, false, false] (by kernel_rfl) rfl rfl ⟨(bC BK180.out 0).trans rfl, (bC BK180.out 1).trans rfl, (bC BK180.out 2).trans rfl, (bC BK180.out 3).trans rfl, (bC BK180.out 4).trans rfl, (bC BK180.out 5).trans rfl, (bC BK180.out 6).trans rfl, (bC BK180.out 7).trans rfl, (bC BK180.out 8).trans rfl, (bC BK180.out 9).trans rfl, (bC BK181.out 0).trans rfl, (bC BK181.out 1).trans rfl⟩ (fun hHeld => ?_)
  generalize w9.drew = w10 at BK180 BK181 HB hHeld ⊢
  refine take_ (i := 0) (N := some 5) (v := ?_) (a' := ?_) #[true, false, false, false, false] rfl rfl (by kernel_rfl) (fun _ _ _ h => h) (Or.inl ⟨by rfl, ?_⟩) hHeld ?_ ?_
  rotate_left
  ·rintro w' ⟨s0, s1, s2, s3, s4, s5, s6, s7, s8, s9, s10, s11⟩
   go_simp
   with_reducible rfl
  rotate_left
  ·simp only [Act.put, sA, sB, sC, i64_w, i32_w]
   rfl
  refine take_ (i := 2) (N := some 7) (v := ?_) (a' := ?_) #[true, false, true, false, false] rfl rfl (by kernel_rfl) (fun _ _ _ h => h) (Or.inl ⟨by rfl, ?_⟩) hHeld ?_ ?_
  rotate_left
  ·rintro w' ⟨s0, s1, s2, s3, s4, s5, s6, s7, s8, s9, s10, s11⟩
   go_simp
   with_reducible rfl
  rotate_left
  ·simp only [Act.put, sA, sB, sC, i64_w, i32_w]
   rfl
  refine one_ (i := 1) (N := some 6) #[true, true, true, false, false] rfl rfl (by kernel_rfl) (by decide) (fun K hK => ?_)
  refine goes_ Try.func33 (by kernel_rfl) rfl #[.agg #[.int .u32 a0_0, .int .i32 a0_1, .int .i32 a0_2, .int .i32 a0_3, .int .i32 a0_4, .int .i32 a0_5, .int .i32 a0_6, .int .i32 a0_7, .int .i32 a0_8, .int .i32 a0_9]] (by rfl) rfl rfl (by (try simp only [List.map_toArray, List.map_cons, List.map_nil]); first | done | rfl | (simp only [List.length_drop, List.length_take]; rfl)) ?_
  with_reducible refine (box_Of.calls a0_0 a0_1 a0_2 a0_3 a0_4 a0_5 a0_6 a0_7 a0_8 a0_9 t182 t183 t184 t185 _ A3.out).mono ?_
  rintro e w11 ⟨rfl, hb⟩
  refine ⟨_, rfl, ?_⟩
  have n_ := kB2 BK180 BK181 HB (by repeat first | exact lR _ _ | apply lN | apply lD | apply lA) hb
  clear BK180 BK181 HB
  obtain ⟨BK180, BK181, HB⟩ := n_
  (try clear hb)
  (try clear hb2)
  (try clear hk)
  (try clear hi)
  refine hK.out _ _ ⟨(bC BK180.out 0).trans rfl, (bC BK180.out 1).trans rfl, (bC BK180.out 2).trans rfl, (bC BK180.out 3).trans rfl, (bC BK180.out 4).trans rfl, (bC BK180.out 5).trans rfl, (bC BK180.out 6).trans rfl, (bC BK180.out 7).trans rfl, (bC BK180.out 8).trans rfl, (bC BK180.out 9).trans rfl, (bC BK181.out 0).trans rfl, (bC BK181.out 1).trans rfl⟩ (fun hHeld => ?_)
  clear hK K
  refine norm_ (a' := ?_) ?_ ?_
  rotate_left
  ·show Act.put _ (some 6) _ = _
   simp only [Act.put, sA, sB, sC, i64_w, i32_w]
   rfl
  refine one_ (i := 3) (N := some 8) #[true, true, true, true, false] rfl rfl (by kernel_rfl) (by decide) (fun K hK => ?_)
  refine goes_ Try.func32 (by kernel_rfl) rfl #[.agg #[.int .i32 t182, .int .i32 t183, .int .i32 t184, .int .i32 t185], .agg #[.int .i32 a1_0, .int .i32 a1_1]] (by rfl) rfl rfl (by (try simp only [List.map_toArray, List.map_cons, List.map_nil]); first | done | rfl | (simp only [List.length_drop, List.length_take]; rfl)) ?_
  with_reducible refine (box_Contains.calls t182 t183 t184 t185 a1_0 a1_1 true _ A4.out).mono ?_
  rintro e w12 ⟨rfl, hb⟩
  refine ⟨_, rfl, ?_⟩
  have n_ := kB2 BK180 BK181 HB (by repeat first | exact lR _ _ | apply lN | apply lD | apply lA) hb
  clear BK180 BK181 HB
  obtain ⟨BK180, BK181, HB⟩ := n_
  (try clear hb)
  (try clear hb2)
  (try clear hk)
  (try clear hi)
  refine hK.out _ _ ⟨(bC BK180.out 0).trans rfl, (bC BK180.out 1).trans rfl, (bC BK180.out 2).trans rfl, (bC BK180.out 3).trans rfl, (bC BK180.out 4).trans rfl, (bC BK180.out 5).trans rfl, (bC BK180.out 6).trans rfl, (bC BK180.out 7).trans rfl, (bC BK180.out 8).trans rfl, (bC BK180.out 9).trans rfl, (bC BK181.out 0).trans rfl, (bC BK181.out 1).trans rfl⟩ (fun hHeld => ?_)
  clear hK K
  refine norm_ (a' := ?_) ?_ ?_
  rotate_left
  ·show Act.put _ (some 8) _ = _
   simp only [Act.put, sA, sB, sC, i64_w, i32_w]
   rfl
  refine pure_ (i := 4) (N := some 9) (v := ?_) (a' := ?_) #[true, true, true, true, true] rfl rfl (by kernel_rfl) (fun _ _ _ h => h) (Or.inl ⟨by rfl, ?_⟩) ?_ ?_
  rotate_left
  ·intro w'
   go_simp
   with_reducible rfl
  rotate_left
  ·simp only [Act.put, sA, sB, sC, i64_w, i32_w]
   rfl
  refine done_ (by kernel_rfl) ?_
  try go_wp2
  have n_ := kA2 BK180 BK181 HB (lD (lR _ _))
  clear BK180 BK181 HB
  obtain ⟨BK180, BK181, HB⟩ := n_
  refine start_ (n := 15) (S := fun w' => w'.cell? ⟨b180, 0, none⟩ = some (.int .u32 a0_0) ∧ w'.cell? ⟨b180, 1, none⟩ = some (.int .i32 a0_1) ∧ w'.cell? ⟨b180, 2, none⟩ = some (.int .i32 a0_2) ∧ w'.cell? ⟨b180, 3, none⟩ = some (.int .i32 a0_3) ∧ w'.cell? ⟨b180, 4, none⟩ = some (.int .i32 a0_4) ∧ w'.cell? ⟨b180, 5, none⟩ = some (.int .i32 a0_5) ∧ w'.cell? ⟨b180, 6, none⟩ = some (.int .i32 a0_6) ∧ w'.cell? ⟨b180, 7, none⟩ = some (.int .i32 a0_7) ∧ w'.cell? ⟨b180, 8, none⟩ = some (.int .i32 a0_8) ∧ w'.cell? ⟨b180, 9, none⟩ = some (.int .i32 a0_9) ∧ w'.cell? ⟨b181, 0, none⟩ = some (.int .i32 a1_0) ∧ w'.cell? ⟨b181, 1, none⟩ = some (.int .i32 a1_1)) (ds := []) #[false, false, false, false, false, false, false, false, false, false, false, false, false, false, false] (by kernel_rfl) rfl rfl ⟨(bC BK180.out 0).trans rfl, (bC BK180.out 1).trans rfl, (bC BK180.out 2).trans rfl, (bC BK180.out 3).trans rfl, (bC BK180.out 4).trans rfl, (bC BK180.out 5).trans rfl, (bC BK180.out 6).trans rfl, (bC BK180.out 7).trans rfl, (bC BK180.out 8).trans rfl, (bC BK180.out 9).trans rfl, (bC BK181.out 0).trans rfl, (bC BK181.out 1).trans rfl⟩ (fun hHeld => ?_); refine with_tabW query_In.tab3 query_In.bits3 (fun HT_ HW_ => ?_)
  generalize w12.drew = w13 at BK180 BK181 HB hHeld ⊢
  refine pure_ (i := 6) (N := some 16) (v := ?_) (a' := ?_) #[false, false, false, false, false, false, true, false, false, false, false, false, false, false, false] rfl rfl (any_of HT_.out (by kernel_rfl)) (fun _ _ _ h => h) (Or.inl ⟨by rfl, ?_⟩) ?_ ?_
  rotate_left
  ·intro w'
   go_simp
   with_reducible rfl
  rotate_left
  ·simp only [Act.put, sA, sB, sC, i64_w, i32_w]
   rfl
  refine pure_ (i := 9) (N := some 19) (v := ?_) (a' := ?_) #[false, false, false, false, false, false, true, false, false, true, false, false, false, false, false] rfl rfl (any_of HT_.out (by kernel_rfl)) (fun _ _ _ h => h) (Or.inl ⟨by rfl, ?_⟩) ?_ ?_
  rotate_left
  ·intro w'
   go_simp
   with_reducible rfl
  rotate_left
  ·simp only [Act.put, sA, sB, sC, i64_w, i32_w]
   rfl
  refine take_ (i := 0) (N := some 10) (v := ?_) (a' := ?_) #[true, false, false, false, false, false, true, false, false, true, false, false, false, false, false] rfl rfl (take_ofW HT_.out HW_.out (by kernel_rfl)) (fun _ _ _ h => h) (Or.inl ⟨by rfl, ?_⟩) hHeld ?_ ?_
  rotate_left
  ·rintro w' ⟨s0, s1, s2, s3, s4, s5, s6, s7, s8, s9, s10, s11⟩
   go_simp
   with_reducible rfl
  rotate_left
  ·simp only [Act.put, sA, sB, sC, i64_w, i32_w]
   rfl
  refine take_ (i := 1) (N := some 11) (v := ?_) (a' := ?_) #[true, true, false, false, false, false, true, false, false, true, false, false, false, false, false] rfl rfl (take_ofW HT_.out HW_.out (by kernel_rfl)) (fun _ _ _ h => h) (Or.inl ⟨by rfl, ?_⟩) hHeld ?_ ?_
  rotate_left
  ·rintro w' ⟨s0, s1, s2, s3, s4, s5, s6, s7, s8, s9, s10, s11⟩
   go_simp
   with_reducible rfl
  rotate_left
  ·simp only [Act.put, sA, sB, sC, i64_w, i32_w]
   rfl
  refine take_ (i := 7) (N := some 17) (v := ?_) (a' := ?_) #[true, true, false, false, false, false, true, true, false, true, false, false, false, false, false] rfl rfl (take_ofW HT_.out HW_.out (by kernel_rfl)) (fun _ _ _ h => h) (Or.inl ⟨by rfl, ?_⟩) hHeld ?_ ?_
  rotate_left
  ·rintro w' ⟨s0, s1, s2, s3, s4, s5, s6, s7, s8, s9, s10, s11⟩
   go_simp
   with_reducible rfl
  rotate_left
  ·simp only [Act.put, sA, sB, sC, i64_w, i32_w]
   rfl
  refine pure_ (i := 8) (N := some 18) (v := ?_) (a' := ?_) #[true, true, false, false, false, false, true, true, true, true, false, false, false, false, false] rfl rfl (any_of HT_.out (by kernel_rfl)) (fun _ _ _ h => h) (Or.inl ⟨by rfl, ?_⟩) ?_ ?_
  rotate_left
  ·intro w'
   go_simp
   with_reducible rfl
  rotate_left
  ·simp only [Act.put, sA, sB, sC, i64_w, i32_w]
   rfl
  refine take_ (i := 10) (N := some 20) (v := ?_) (a' := ?_) #[true, true, false, false, false, false, true, true, true, true, true, false, false, false, false] rfl rfl (take_ofW HT_.out HW_.out (by kernel_rfl)) (fun _ _ _ h => h) (Or.inl ⟨by rfl, ?_⟩) hHeld ?_ ?_
  rotate_left
  ·rintro w' ⟨s0, s1, s2, s3, s4, s5, s6, s7, s8, s9, s10, s11⟩
   go_simp
   with_reducible rfl
  rotate_left
  ·simp only [Act.put, sA, sB, sC, i64_w, i32_w]
   rfl
  refine pure_ (i := 11) (N := some 21) (v := ?_) (a' := ?_) #[true, true, false, false, false, false, true, true, true, true, true, true, false, false, false] rfl rfl (any_of HT_.out (by kernel_rfl)) (fun _ _ _ h => h) (Or.inl ⟨by rfl, ?_⟩) ?_ ?_
  rotate_left
  ·intro w'
   go_simp
   with_reducible rfl
  rotate_left
  ·simp only [Act.put, sA, sB, sC, i64_w, i32_w]
   rfl
  refine pure_ (i := 12) (N := some 22) (v := ?_) (a' := ?_) #[true, true, false, false, false, false, true, true, true, true, true, true, true, false, false] rfl rfl (any_of HT_.out (by kernel_rfl)) (fun _ _ _ h => h) (Or.inl ⟨by rfl, ?_⟩) ?_ ?_
  rotate_left
  ·intro w'
   go_simp
   with_reducible rfl
  rotate_left
  ·simp only [Act.put, sA, sB, sC, i64_w, i32_w]
   rfl
  refine one_ (i := 2) (N := some 12) #[true, true, true, false, false, false, true, true, true, true, true, true, true, false, false] rfl rfl (one_of HT_.out (by kernel_rfl)) (by decide) (fun K hK => ?_)
  refine goes_ Try.func28 (by kernel_rfl) rfl #[.agg #[.int .u32 a0_0, .int .i32 a0_1, .int .i32 a0_2, .int .i32 a0_3, .int .i32 a0_4, .int .i32 a0_5, .int .i32 a0_6, .int .i32 a0_7, .int .i32 a0_8, .int .i32 a0_9], .agg #[.int .i32 a1_0, .int .i32 a1_1]] (by rfl) rfl rfl (by (try simp only [List.map_toArray, List.map_cons, List.map_nil]); first | done | rfl | (simp only [List.length_drop, List.length_take]; rfl)) ?_
  with_reducible refine (query_difference.calls a0_0 a0_1 a0_2 a0_3 a0_4 a0_5 a0_6 a0_7 a0_8 a0_9 a1_0 a1_1 t187 t188 _ A6.out).mono ?_
  rintro e w14 ⟨rfl, hb⟩
  refine ⟨_, rfl, ?_⟩
  have n_ := kB2 BK180 BK181 HB (by repeat first | exact lR _ _ | apply lN | apply lD | apply lA) hb
  clear BK180 BK181 HB
  obtain ⟨BK180, BK181, HB⟩ := n_
  (try clear hb)
  (try clear hb2)
  (try clear hk)
  (try clear hi)
  refine hK.out _ _ ⟨(bC BK180.out 0).trans rfl, (bC BK180.out 1).trans rfl, (bC BK180.out 2).trans rfl, (bC BK180.out 3).trans rfl, (bC BK180.out 4).trans rfl, (bC BK180.out 5).trans rfl, (bC BK180.out 6).trans rfl, (bC BK180.out 7).trans rfl, (bC BK180.out 8).trans rfl, (bC BK180.out 9).trans rfl, (bC BK181.out 0).trans rfl, (bC BK181.out 1).trans rfl⟩ (fun hHeld => ?_)
  clear hK K
  refine norm_ (a' := ?_) ?_ ?_
  rotate_left
  ·show Act.put _ (some 12) _ = _
   simp only [Act.put, sA, sB, sC, i64_w, i32_w]
   rfl
  refine pure_ (i := 3) (N := some 13) (v := ?_) (a' := ?_) #[true, true, true, true, false, false, true, true, true, true, true, true, true, false, false] rfl rfl (any_of HT_.out (by kernel_rfl)) (fun _ _ _ h => h) (Or.inl ⟨by rfl, ?_⟩) ?_ ?_
  rotate_left
  ·intro w'
   go_simp
   with_reducible rfl
  rotate_left
  ·simp only [Act.put, sA, sB, sC, i64_w, i32_w]
   rfl
  refine pure_ (i := 4) (N := some 14) (v := ?_) (a' := ?_) #[true, true, true, true, true, false, true, true, true, true, true, true, true, false, false] rfl rfl (any_of HT_.out (by kernel_rfl)) (fun _ _ _ h => h) (Or.inl ⟨by rfl, ?_⟩) ?_ ?_
  rotate_left
  ·intro w'
   go_simp
   with_reducible rfl
  rotate_left
  ·simp only [Act.put, sA, sB, sC, i64_w, i32_w]
   rfl
  refine one_ (i := 5) (N := some 15) #[true, true, true, true, true, true, true, true, true, true, true, true, true, false, false] rfl rfl (one_of HT_.out (by kernel_rfl)) (by decide) (fun K hK => ?_)
  refine goes_ Try.func34 (by kernel_rfl) rfl #[.int .i64 t187, .int .i64 t188] (by rfl) rfl rfl (by (try simp only [List.map_toArray, List.map_cons, List.map_nil]); first | done | rfl | (simp only [List.length_drop, List.length_take]; rfl)) ?_
  with_reducible refine (vec_LengthSq.calls t187 t188 t189 _ A7.out).mono ?_
  rintro e w' ⟨rfl, ⟨nd, rfl⟩⟩
  refine ⟨_, rfl, ?_⟩
  refine hK.out _ _ ⟨(bC BK180.out 0).trans rfl, (bC BK180.out 1).trans rfl, (bC BK180.out 2).trans rfl, (bC BK180.out 3).trans rfl, (bC BK180.out 4).trans rfl, (bC BK180.out 5).trans rfl, (bC BK180.out 6).trans rfl, (bC BK180.out 7).trans rfl, (bC BK180.out 8).trans rfl, (bC BK180.out 9).trans rfl, (bC BK181.out 0).trans rfl, (bC BK181.out 1).trans rfl⟩ (fun hHeld => ?_)
  clear hK K
  refine norm_ (a' := ?_) ?_ ?_
  rotate_left
  ·show Act.put _ (some 15) _ = _
   simp only [Act.put, sA, sB, sC, i64_w, i32_w]
   rfl
  refine pure_ (i := 13) (N := some 23) (v := ?_) (a' := ?_) #[true, true, true, true, true, true, true, true, true, true, true, true, true, true, false] rfl rfl (any_of HT_.out (by kernel_rfl)) (fun _ _ _ h => h) (Or.inl ⟨by rfl, ?_⟩) ?_ ?_
  rotate_left
  ·intro w'
   go_simp
   with_reducible rfl
  rotate_left
  ·simp only [Act.put, sA, sB, sC, i64_w, i32_w]
   rfl
  refine pure_ (i := 14) (N := some 4) (v := ?_) (a' := ?_) #[true, true, true, true, true, true, true, true, true, true, true, true, true, true, true] rfl rfl (any_of HT_.out (by kernel_rfl)) (fun _ _ _ h => h) (Or.inl ⟨by rfl, ?_⟩) ?_ ?_
  rotate_left
  ·intro w'
   go_simp
   with_reducible rfl
  rotate_left
  ·simp only [Act.put, sA, sB, sC, i64_w, i32_w]
   rfl
  refine done_ (done_of HT_.out (by kernel_rfl)) ?_
  try go_wp2
  go_ret
  exact ⟨by first | rfl | (simp only [i64_w]; done) | (simp only [i64_w]; rfl) | (simp [errW_none, errW_some] <;> rfl) | (simp [*, errW_none, errW_some] <;> rfl), by repeat (first | (with_reducible first | exact HB.out | apply lA | apply lN | apply lD | refine lS ?_ GE180.out | refine lS ?_ GE181.out) | exact HB.out)⟩
 ·replace c5 := Bool.eq_false_iff.mpr c5
  subst c5
  rw [if_neg (show ¬ (false = true) by decide)] at H
  obtain rfl := Option.some.inj H
  go_enter Try.func12, Try.ntmps12
  try go_wp2_with (first | ((with_reducible refine gate_dst (N := 2) rfl ?_); refine box_event ?hg (N := 2) ?hd (cs := #[.int .u32 a0_0, .int .i32 a0_1, .int .i32 a0_2, .int .i32 a0_3, .int .i32 a0_4, .int .i32 a0_5, .int .i32 a0_6, .int .i32 a0_7, .int .i32 a0_8, .int .i32 a0_9]) (t := 32) ?hr ?_; (case hd => rfl); (case hg => rfl); (case hr => first | (go_simp; done) | (go_simp; rfl)); intro b180 hg w15 hbox hb; have n0_ := aM (lT (by repeat (first | (with_reducible first | exact HB.out | apply lA | apply lN | apply lD) | exact HB.out)) hb); have n1_ := aM (hbox); have n2_ := aM ((by rw [hg]; exact (lZ (by repeat (first | (with_reducible first | exact HB.out | apply lA | apply lN | apply lD) | exact HB.out))) : w.heap.size ≤ b180)); have n3_ := aM ((by rw [hg]; exact (lZ (by repeat (first | (with_reducible first | exact HB.out | apply lA | apply lN | apply lD) | exact HB.out))) : w.heap.size ≤ b180)); clear HB; have HB := n0_; have BK180 := n1_; have GW180 := n2_; have GE180 := n3_; clear n0_ n1_ n2_ n3_; clear hb hbox hg) | ((with_reducible refine gate_dst (N := 3) rfl ?_); refine box_event ?hg (N := 3) ?hd (cs := #[.int .i32 a1_0, .int .i32 a1_1]) (t := 24) ?hr ?_; (case hd => rfl); (case hg => rfl); (case hr => first | (go_simp; done) | (go_simp; rfl)); intro b181 hg w16 hbox hb; have n0_ := aM (bB (by (with_reducible repeat first | apply bN | apply bD | apply bA); exact BK180.out) hb); have n1_ := aM (lT (by repeat (first | (with_reducible first | exact HB.out | apply lA | apply lN | apply lD | refine lS ?_ GE180.out) | exact HB.out)) hb); have n2_ := aM (hbox); have n3_ := aM ((by rw [hg]; exact (lZ (by repeat (first | (with_reducible first | exact HB.out | apply lA | apply lN | apply lD | refine lS ?_ GE180.out) | exact HB.out))) : w.heap.size ≤ b181)); have n4_ := aM ((by rw [hg]; exact (lZ (by repeat (first | (with_reducible first | exact HB.out | apply lA | apply lN | apply lD | refine lS ?_ GE180.out) | exact HB.out))) : w.heap.size ≤ b181)); have n5_ := aM ((by rw [hg]; exact Nat.ne_of_lt (bL (g := b180) (by (with_reducible repeat first | apply bN | apply bD | apply bA); exact BK180.out)) : b180 ≠ b181)); have n6_ := aM ((by rw [hg]; exact Nat.ne_of_gt (bL (g := b180) (by (with_reducible repeat first | apply bN | apply bD | apply bA); exact BK180.out)) : b181 ≠ b180)); clear BK180; clear HB; have BK180 := n0_; have HB := n1_; have BK181 := n2_; have GW181 := n3_; have GE181 := n4_; have N2_ := n5_; have N3_ := n6_; clear n0_ n1_ n2_ n3_ n4_ n5_ n6_; clear hb hbox hg))
  have n_ := kA2 BK180 BK181 HB (lD (lR _ _))
  clear BK180 BK181 HB
  obtain ⟨BK180, BK181, HB⟩ := n_
  refine start_ (n := 5) (S := fun w' => w'.cell? ⟨b180, 0, none⟩ = some (.int .u32 a0_0) ∧ w'.cell? ⟨b180, 1, none⟩ = some (.int .i32 a0_1) ∧ w'.cell? ⟨b180, 2, none⟩ = some (.int .i32 a0_2) ∧ w'.cell? ⟨b180, 3, none⟩ = some (.int .i32 a0_3) ∧ w'.cell? ⟨b180, 4, none⟩ = some (.int .i32 a0_4) ∧ w'.cell? ⟨b180, 5, none⟩ = some (.int .i32 a0_5) ∧ w'.cell? ⟨b180, 6, none⟩ = some (.int .i32 a0_6) ∧ w'.cell? ⟨b180, 7, none⟩ = some (.int .i32 a0_7) ∧ w'.cell? ⟨b180, 8, none⟩ = some (.int .i32 a0_8) ∧ w'.cell? ⟨b180, 9, none⟩ = some (.int .i32 a0_9) ∧ w'.cell? ⟨b181, 0, none⟩ = some (.int .i32 a1_0) ∧ w'.cell? ⟨b181, 1, none⟩ = some (.int .i32 a1_1)) (ds := []) #[false, false, false, false, false] (by kernel_rfl) rfl rfl ⟨(bC BK180.out 0).trans rfl, (bC BK180.out 1).trans rfl, (bC BK180.out 2).trans rfl, (bC BK180.out 3).trans rfl, (bC BK180.out 4).trans rfl, (bC BK180.out 5).trans rfl, (bC BK180.out 6).trans rfl, (bC BK180.out 7).trans rfl, (bC BK180.out 8).trans rfl, (bC BK180.out 9).trans rfl, (bC BK181.out 0).trans rfl, (bC BK181.out 1).trans rfl⟩ (fun hHeld => ?_)
  generalize w16.drew = w17 at BK180 BK181 HB hHeld ⊢
  refine take_ (i := 0) (N := some 5) (v := ?_) (a' := ?_) #[true, false, false, false, false] rfl rfl (by kernel_rfl) (fun _ _ _ h => h) (Or.inl ⟨by rfl, ?_⟩) hHeld ?_ ?_
  rotate_left
  ·rintro w' ⟨s0, s1, s2, s3, s4, s5, s6, s7, s8, s9, s10, s11⟩
   go_simp
   with_reducible rfl
  rotate_left
  ·simp only [Act.put, sA, sB, sC, i64_w, i32_w]
   rfl
  refine take_ (i := 2) (N := some 7) (v := ?_) (a' := ?_) #[true, false, true, false, false] rfl rfl (by kernel_rfl) (fun _ _ _ h => h) (Or.inl ⟨by rfl, ?_⟩) hHeld ?_ ?_
  rotate_left
  ·rintro w' ⟨s0, s1, s2, s3, s4, s5, s6, s7, s8, s9, s10, s11⟩
   go_simp
   with_reducible rfl
  rotate_left
  ·simp only [Act.put, sA, sB, sC, i64_w, i32_w]
   rfl
  refine one_ (i := 1) (N := some 6) #[true, true, true, false, false] rfl rfl (by kernel_rfl) (by decide) (fun K hK => ?_)
  refine goes_ Try.func33 (by kernel_rfl) rfl #[.agg #[.int .u32 a0_0, .int .i32 a0_1, .int .i32 a0_2, .int .i32 a0_3, .int .i32 a0_4, .int .i32 a0_5, .int .i32 a0_6, .int .i32 a0_7, .int .i32 a0_8, .int .i32 a0_9]] (by rfl) rfl rfl (by (try simp only [List.map_toArray, List.map_cons, List.map_nil]); first | done | rfl | (simp only [List.length_drop, List.length_take]; rfl)) ?_
  with_reducible refine (box_Of.calls a0_0 a0_1 a0_2 a0_3 a0_4 a0_5 a0_6 a0_7 a0_8 a0_9 t182 t183 t184 t185 _ A3.out).mono ?_
  rintro e w18 ⟨rfl, hb⟩
  refine ⟨_, rfl, ?_⟩
  have n_ := kB2 BK180 BK181 HB (by repeat first | exact lR _ _ | apply lN | apply lD | apply lA) hb
  clear BK180 BK181 HB
  obtain ⟨BK180, BK181, HB⟩ := n_
  (try clear hb)
  (try clear hb2)
  (try clear hk)
  (try clear hi)
  refine hK.out _ _ ⟨(bC BK180.out 0).trans rfl, (bC BK180.out 1).trans rfl, (bC BK180.out 2).trans rfl, (bC BK180.out 3).trans rfl, (bC BK180.out 4).trans rfl, (bC BK180.out 5).trans rfl, (bC BK180.out 6).trans rfl, (bC BK180.out 7).trans rfl, (bC BK180.out 8).trans rfl, (bC BK180.out 9).trans rfl, (bC BK181.out 0).trans rfl, (bC BK181.out 1).trans rfl⟩ (fun hHeld => ?_)
  clear hK K
  refine norm_ (a' := ?_) ?_ ?_
  rotate_left
  ·show Act.put _ (some 6) _ = _
   simp only [Act.put, sA, sB, sC, i64_w, i32_w]
   rfl
  refine one_ (i := 3) (N := some 8) #[true, true, true, true, false] rfl rfl (by kernel_rfl) (by decide) (fun K hK => ?_)
  refine goes_ Try.func32 (by kernel_rfl) rfl #[.agg #[.int .i32 t182, .int .i32 t183, .int .i32 t184, .int .i32 t185], .agg #[.int .i32 a1_0, .int .i32 a1_1]] (by rfl) rfl rfl (by (try simp only [List.map_toArray, List.map_cons, List.map_nil]); first | done | rfl | (simp only [List.length_drop, List.length_take]; rfl)) ?_
  with_reducible refine (box_Contains.calls t182 t183 t184 t185 a1_0 a1_1 false _ A4.out).mono ?_
  rintro e w19 ⟨rfl, hb⟩
  refine ⟨_, rfl, ?_⟩
  have n_ := kB2 BK180 BK181 HB (by repeat first | exact lR _ _ | apply lN | apply lD | apply lA) hb
  clear BK180 BK181 HB
  obtain ⟨BK180, BK181, HB⟩ := n_
  (try clear hb)
  (try clear hb2)
  (try clear hk)
  (try clear hi)
  refine hK.out _ _ ⟨(bC BK180.out 0).trans rfl, (bC BK180.out 1).trans rfl, (bC BK180.out 2).trans rfl, (bC BK180.out 3).trans rfl, (bC BK180.out 4).trans rfl, (bC BK180.out 5).trans rfl, (bC BK180.out 6).trans rfl, (bC BK180.out 7).trans rfl, (bC BK180.out 8).trans rfl, (bC BK180.out 9).trans rfl, (bC BK181.out 0).trans rfl, (bC BK181.out 1).trans rfl⟩ (fun hHeld => ?_)
  clear hK K
  refine norm_ (a' := ?_) ?_ ?_
  rotate_left
  ·show Act.put _ (some 8) _ = _
   simp only [Act.put, sA, sB, sC, i64_w, i32_w]
   rfl
  refine pure_ (i := 4) (N := some 9) (v := ?_) (a' := ?_) #[true, true, true, true, true] rfl rfl (by kernel_rfl) (fun _ _ _ h => h) (Or.inl ⟨by rfl, ?_⟩) ?_ ?_
  rotate_left
  ·intro w'
   go_simp
   with_reducible rfl
  rotate_left
  ·simp only [Act.put, sA, sB, sC, i64_w, i32_w]
   rfl
  refine done_ (by kernel_rfl) ?_
  try go_wp2
  go_ret
  exact ⟨by first | rfl | (simp only [i64_w]; done) | (simp only [i64_w]; rfl) | (simp [errW_none, errW_some] <;> rfl) | (simp [*, errW_none, errW_some] <;> rfl), by repeat (first | (with_reducible first | exact HB.out | apply lA | apply lN | apply lD | refine lS ?_ GE180.out | refine lS ?_ GE181.out) | exact HB.out)⟩

/-! ### query_At: function 15 (given) -/
-- IMPORT Derived.Test.YtabcnaceffpekaaMspec
-- IMPORT Derived.Lib.Hide
-- IMPORT Derived.Deep.RegionHeld3
-- IMPORT Derived.Deep.RegionWith
-- NEEDS billiard/query.keys[[]billiard/api.Body]
-- NEEDS billiard/query.In
abbrev inF (p0 p1 : Int) (b : S32) : Option Bool := query_In.f b.f0 b.f1 b.f2.f0 b.f2.f1 b.f3 b.f4 b.f5.f0 b.f5.f1 b.f6.f0 b.f6.f1 p0 p1
def query_At.f (l : List S32) (p0 p1 : Int) : Option (List Int) := if l.length ≤ 1000000 then pickL (inF p0 p1) l else none
set_option maxHeartbeats 4000000 in
theorem query_at1.calls (b : S32) (p0 p1 : Int) (t : Bool) (g : Nat) (w : World) (h : inF p0 p1 b = some t) (hg : w.heap[g]? = some (.cells #[.int .i32 p0, .int .i32 p1] 24 (0, 0))) :
  Calls Try.prog 37 #[bodyA b, .pointer (some ⟨g, 0, none⟩)] w fun e w' => e = .returned (.bool t) ∧ Below w.heap.size w w' := by
 have H := Lib.hid (fun w => query_In.calls _ _ _ _ _ _ _ _ _ _ _ _ _ w h)
 have d0 : w.cell? ⟨g, 0, none⟩ = some (.int .i32 p0) := (bC hg 0).trans rfl
 have d1 : w.cell? ⟨g, 1, none⟩ = some (.int .i32 p1) := (bC hg 1).trans rfl
 have hlt := bL hg
 clear h hg
 go_enter Try.func37, Try.ntmps37
 go_wp2_with fail
 refine (H.out _).mono ?_
 rintro e V ⟨rfl, hb⟩
 have HB := Lib.hid (lT (lA (Below.refl w.heap.size w) _) hb)
 clear hb H d0 d1
 go_wp2_with fail
 go_ret
 exact ⟨rfl, HB.out⟩
theorem calls_body {K : Nat} {fn : Func} (hf : Try.prog.funcs[K]? = some fn) (hname : (fn.name == "runtime.NumGoroutine") = false) (hs : fn.body.isSome = true) (args : Array Value) (w : World) : (callFunc K args).run Try.prog w = .ok (.enter K args) w := by
 obtain ⟨c, hb⟩ := Option.isSome_iff_exists.mp hs
 have h1 : fn.name ≠ "runtime.NumGoroutine" := by simpa using hname
 simp [callFunc, hf, h1, hb]
set_option maxHeartbeats 4000000 in
theorem query_At.calls (A0 : Option Addr) (c0 : Nat) (l0 : List S32) (p0 p1 : Int) (r : List Int) (w : World) (hr0 : Kd.C k32 w A0 l0.length l0) (hc0 : l0.length ≤ c0) (h : query_At.f l0 p0 p1 = some r) :
  Calls Try.prog 15 #[.slice A0 l0.length c0, .agg #[.int .i32 p0, .int .i32 p1]] w fun e w' => ∃ v0_ : Value, e = .returned (v0_) ∧ Kd.R (Kd.int .u32) 30 w' w.heap.size (fun _ => True) v0_ r ∧ Below w.heap.size w w' := by
 unfold query_At.f at h
 split at h
 rotate_left
 ·cases h
 rename_i hn
 obtain ⟨hs, ha, rfl⟩ := pickL_hs _ l0 r h
 have HR0 := Lib.hid hr0
 have HK := Lib.hid (fun args V => calls_body (K := 37) Try.func37 (by kernel_rfl) (by kernel_rfl) args V)
 clear hr0 h
 go_enter Try.func15, Try.ntmps15
 go_wp2_with fail
 have hg : (w.alloc (.cells #[.int .i32 p0, .int .i32 p1] 24 (0, 0))).heap[w.heap.size]? = some (.cells #[.int .i32 p0, .int .i32 p1] 24 (0, 0)) := blk_new _ _
 have hB : Below w.heap.size w (w.alloc (.cells #[.int .i32 p0, .int .i32 p1] 24 (0, 0))) := lA (Below.refl _ _) _
 have hz := bL hg
 generalize w.alloc (.cells #[.int .i32 p0, .int .i32 p1] 24 (0, 0)) = W at hg hB hz ⊢
 refine (query_keys.calls HR0.out hc0 37 #[.pointer (some ⟨w.heap.size, 0, none⟩)] (fun _ V => Below w.heap.size w V ∧ V.heap[w.heap.size]? = some (.cells #[.int .i32 p0, .int .i32 p1] 24 (0, 0))) hs HK.out (fun i V h => h.1) (fun i V V' h hb => ⟨h.1.trans (hb.mono (Nat.le_of_lt hz)), (hb.block _ hz).trans h.2⟩) (fun i V hi hI hle => ?_) ⟨hB, hg⟩ hn).mono ?_
 ·refine (query_at1.calls _ p0 p1 _ _ V (ha i hi) hI.2).mono ?_
  rintro e V' ⟨rfl, hb⟩
  exact ⟨rfl, ⟨hI.1.trans (hb.mono hI.1.size), bB hI.2 hb⟩, hb.size, fun k _ hk => hb.block k hk⟩
 ·rintro e V ⟨v, rfl, hR, hI, hle⟩
  have HB := Lib.hid hI.1
  have HRR := Lib.hid (Kd.R_lower hR (Nat.le_of_lt hz))
  clear hR hI HK HR0
  go_wp2_with fail
  go_ret
  exact ⟨_, rfl, HRR.out, HB.out⟩

/-! ### query_Near: function 17 (given) -/
-- IMPORT Derived.Test.YtabcnaceffpekaaMspec
-- IMPORT Derived.Lib.Hide
-- IMPORT Derived.Deep.RegionHeld3
-- IMPORT Derived.Deep.RegionWith
-- NEEDS billiard/query.keys[[]billiard/api.Body]
-- NEEDS billiard/query.At
-- NEEDS billiard/query.Distance
abbrev distF (p0 p1 : Int) (b : S32) : Option Int := query_Distance.f 200 b.f0 b.f1 b.f2.f0 b.f2.f1 b.f3 b.f4 b.f5.f0 b.f5.f1 b.f6.f0 b.f6.f1 p0 p1
abbrev nearF (p0 p1 r : Int) (b : S32) : Option Bool := (distF p0 p1 b).bind fun d => some (decide (d ≤ r))
def query_Near.f (l : List S32) (p0 p1 r : Int) : Option (List Int) := if l.length ≤ 1000000 then pickL (nearF p0 p1 r) l else none
set_option maxHeartbeats 8000000 in
theorem query_near1.calls (b : S32) (p0 p1 r : Int) (t : Bool) (g h : Nat) (w : World) (hf : nearF p0 p1 r b = some t) (hg : w.heap[g]? = some (.cells #[.int .i32 p0, .int .i32 p1] 24 (0, 0))) (hh : w.heap[h]? = some (.cells #[.int .i64 r] 2 (0, 0))) :
  Calls Try.prog 38 #[bodyA b, .pointer (some ⟨g, 0, none⟩), .pointer (some ⟨h, 0, none⟩)] w fun e w' => e = .returned (.bool t) ∧ Below w.heap.size w w' := by
 obtain ⟨d, h1, h2⟩ := Option.bind_eq_some_iff.mp hf
 simp only [Option.some.injEq] at h2
 have HD := Lib.hid (fun w => query_Distance.calls 200 _ _ _ _ _ _ _ _ _ _ _ _ _ w h1)
 have HT := Lib.hid h2
 have HG := Lib.hid hg
 have HH := Lib.hid hh
 clear hf h1 h2 hg hh
 go_enter Try.func38, Try.ntmps38
 go_wp2_with fail
 have hQ : (w.alloc (.cells #[.int .u32 b.f0, .int .i32 b.f1, .int .i32 b.f2.f0, .int .i32 b.f2.f1, .int .i32 b.f3, .int .i32 b.f4, .int .i32 b.f5.f0, .int .i32 b.f5.f1, .int .i32 b.f6.f0, .int .i32 b.f6.f1] 32 (0, 0))).heap[w.heap.size]? = some (.cells #[.int .u32 b.f0, .int .i32 b.f1, .int .i32 b.f2.f0, .int .i32 b.f2.f1, .int .i32 b.f3, .int .i32 b.f4, .int .i32 b.f5.f0, .int .i32 b.f5.f1, .int .i32 b.f6.f0, .int .i32 b.f6.f1] 32 (0, 0)) := blk_new _ _
 have hG0 := bD (bA HG.out (.cells #[.int .u32 b.f0, .int .i32 b.f1, .int .i32 b.f2.f0, .int .i32 b.f2.f1, .int .i32 b.f3, .int .i32 b.f4, .int .i32 b.f5.f0, .int .i32 b.f5.f1, .int .i32 b.f6.f0, .int .i32 b.f6.f1] 32 (0, 0)))
 have hH0 := bD (bA HH.out (.cells #[.int .u32 b.f0, .int .i32 b.f1, .int .i32 b.f2.f0, .int .i32 b.f2.f1, .int .i32 b.f3, .int .i32 b.f4, .int .i32 b.f5.f0, .int .i32 b.f5.f1, .int .i32 b.f6.f0, .int .i32 b.f6.f1] 32 (0, 0)))
 have hQ0 := bD hQ
 have hB0 := below_drew (lA (Below.refl w.heap.size w) (.cells #[.int .u32 b.f0, .int .i32 b.f1, .int .i32 b.f2.f0, .int .i32 b.f2.f1, .int .i32 b.f3, .int .i32 b.f4, .int .i32 b.f5.f0, .int .i32 b.f5.f1, .int .i32 b.f6.f0, .int .i32 b.f6.f1] 32 (0, 0)))
 clear hQ
 generalize w.alloc (.cells #[.int .u32 b.f0, .int .i32 b.f1, .int .i32 b.f2.f0, .int .i32 b.f2.f1, .int .i32 b.f3, .int .i32 b.f4, .int .i32 b.f5.f0, .int .i32 b.f5.f1, .int .i32 b.f6.f0, .int .i32 b.f6.f1] 32 (0, 0)) = V at *
 generalize hq_ : w.heap.size = q at hQ0 ⊢
 have K0 := (⟨⟨(bC hQ0 0).trans rfl, (bC hQ0 1).trans rfl, (bC hQ0 2).trans rfl, (bC hQ0 3).trans rfl, (bC hQ0 4).trans rfl, (bC hQ0 5).trans rfl, (bC hQ0 6).trans rfl, (bC hQ0 7).trans rfl, (bC hQ0 8).trans rfl, (bC hQ0 9).trans rfl⟩, ⟨(bC hG0 0).trans rfl, (bC hG0 1).trans rfl⟩, (bC hH0 0).trans rfl⟩ : (V.drew.cell? ⟨q, 0, none⟩ = some (.int .u32 b.f0) ∧ V.drew.cell? ⟨q, 1, none⟩ = some (.int .i32 b.f1) ∧ V.drew.cell? ⟨q, 2, none⟩ = some (.int .i32 b.f2.f0) ∧ V.drew.cell? ⟨q, 3, none⟩ = some (.int .i32 b.f2.f1) ∧ V.drew.cell? ⟨q, 4, none⟩ = some (.int .i32 b.f3) ∧ V.drew.cell? ⟨q, 5, none⟩ = some (.int .i32 b.f4) ∧ V.drew.cell? ⟨q, 6, none⟩ = some (.int .i32 b.f5.f0) ∧ V.drew.cell? ⟨q, 7, none⟩ = some (.int .i32 b.f5.f1) ∧ V.drew.cell? ⟨q, 8, none⟩ = some (.int .i32 b.f6.f0) ∧ V.drew.cell? ⟨q, 9, none⟩ = some (.int .i32 b.f6.f1)) ∧ (V.drew.cell? ⟨g, 0, none⟩ = some (.int .i32 p0) ∧ V.drew.cell? ⟨g, 1, none⟩ = some (.int .i32 p1)) ∧ V.drew.cell? ⟨h, 0, none⟩ = some (.int .i64 r))
 go_region_held3 (fun V => (V.cell? ⟨q, 0, none⟩ = some (.int .u32 b.f0) ∧ V.cell? ⟨q, 1, none⟩ = some (.int .i32 b.f1) ∧ V.cell? ⟨q, 2, none⟩ = some (.int .i32 b.f2.f0) ∧ V.cell? ⟨q, 3, none⟩ = some (.int .i32 b.f2.f1) ∧ V.cell? ⟨q, 4, none⟩ = some (.int .i32 b.f3) ∧ V.cell? ⟨q, 5, none⟩ = some (.int .i32 b.f4) ∧ V.cell? ⟨q, 6, none⟩ = some (.int .i32 b.f5.f0) ∧ V.cell? ⟨q, 7, none⟩ = some (.int .i32 b.f5.f1) ∧ V.cell? ⟨q, 8, none⟩ = some (.int .i32 b.f6.f0) ∧ V.cell? ⟨q, 9, none⟩ = some (.int .i32 b.f6.f1)) ∧ (V.cell? ⟨g, 0, none⟩ = some (.int .i32 p0) ∧ V.cell? ⟨g, 1, none⟩ = some (.int .i32 p1)) ∧ V.cell? ⟨h, 0, none⟩ = some (.int .i64 r))
  (first | (with_reducible exact K0) | (with_reducible exact K1))
  (first | (go_at_call 10; refine (HD.out _).mono ?_; rintro e V1 ⟨rfl, hb1⟩; have hQ1 := bB hQ0 hb1; have hG1 := bB hG0 hb1; have hH1 := bB hH0 hb1; have hB1 := lT hB0 hb1; have K1 := (⟨⟨(bC hQ1 0).trans rfl, (bC hQ1 1).trans rfl, (bC hQ1 2).trans rfl, (bC hQ1 3).trans rfl, (bC hQ1 4).trans rfl, (bC hQ1 5).trans rfl, (bC hQ1 6).trans rfl, (bC hQ1 7).trans rfl, (bC hQ1 8).trans rfl, (bC hQ1 9).trans rfl⟩, ⟨(bC hG1 0).trans rfl, (bC hG1 1).trans rfl⟩, (bC hH1 0).trans rfl⟩ : (V1.cell? ⟨q, 0, none⟩ = some (.int .u32 b.f0) ∧ V1.cell? ⟨q, 1, none⟩ = some (.int .i32 b.f1) ∧ V1.cell? ⟨q, 2, none⟩ = some (.int .i32 b.f2.f0) ∧ V1.cell? ⟨q, 3, none⟩ = some (.int .i32 b.f2.f1) ∧ V1.cell? ⟨q, 4, none⟩ = some (.int .i32 b.f3) ∧ V1.cell? ⟨q, 5, none⟩ = some (.int .i32 b.f4) ∧ V1.cell? ⟨q, 6, none⟩ = some (.int .i32 b.f5.f0) ∧ V1.cell? ⟨q, 7, none⟩ = some (.int .i32 b.f5.f1) ∧ V1.cell? ⟨q, 8, none⟩ = some (.int .i32 b.f6.f0) ∧ V1.cell? ⟨q, 9, none⟩ = some (.int .i32 b.f6.f1)) ∧ (V1.cell? ⟨g, 0, none⟩ = some (.int .i32 p0) ∧ V1.cell? ⟨g, 1, none⟩ = some (.int .i32 p1)) ∧ V1.cell? ⟨h, 0, none⟩ = some (.int .i64 r))))
 rename_i hHeld
 have HB := Lib.hid hB1
 clear hHeld K0 K1 hQ0 hQ1 hG0 hG1 hH0 hH1 hB0 hB1 hb1 HD HG HH
 go_wp2_with fail
 obtain rfl := HT.out
 go_ret
 exact ⟨rfl, by first | exact HB.out | (rw [← hq_]; exact HB.out)⟩
set_option maxHeartbeats 4000000 in
theorem query_Near.calls (A0 : Option Addr) (c0 : Nat) (l0 : List S32) (p0 p1 r0 : Int) (r : List Int) (w : World) (hr0 : Kd.C k32 w A0 l0.length l0) (hc0 : l0.length ≤ c0) (h : query_Near.f l0 p0 p1 r0 = some r) :
  Calls Try.prog 17 #[.slice A0 l0.length c0, .agg #[.int .i32 p0, .int .i32 p1], .int .i64 r0] w fun e w' => ∃ v0_ : Value, e = .returned (v0_) ∧ Kd.R (Kd.int .u32) 30 w' w.heap.size (fun _ => True) v0_ r ∧ Below w.heap.size w w' := by
 unfold query_Near.f at h
 split at h
 rotate_left
 ·cases h
 rename_i hn
 obtain ⟨hs, ha, rfl⟩ := pickL_hs _ l0 r h
 have HR0 := Lib.hid hr0
 have HK := Lib.hid (fun args V => calls_body (K := 38) Try.func38 (by kernel_rfl) (by kernel_rfl) args V)
 clear hr0 h
 go_enter Try.func17, Try.ntmps17
 go_wp2_with fail
 have hg : ((w.alloc (.cells #[.int .i32 p0, .int .i32 p1] 24 (0, 0))).alloc (.cells #[.int .i64 r0] 2 (0, 0))).heap[w.heap.size]? = some (.cells #[.int .i32 p0, .int .i32 p1] 24 (0, 0)) := bA (blk_new _ _) _
 have hh : ((w.alloc (.cells #[.int .i32 p0, .int .i32 p1] 24 (0, 0))).alloc (.cells #[.int .i64 r0] 2 (0, 0))).heap[w.heap.size + 1]? = some (.cells #[.int .i64 r0] 2 (0, 0)) := by
  have := blk_new (w.alloc (.cells #[.int .i32 p0, .int .i32 p1] 24 (0, 0))) (.cells #[.int .i64 r0] 2 (0, 0))
  simpa only [World.size_alloc] using this
 have hB : Below w.heap.size w ((w.alloc (.cells #[.int .i32 p0, .int .i32 p1] 24 (0, 0))).alloc (.cells #[.int .i64 r0] 2 (0, 0))) := lA (lA (Below.refl _ _) _) _
 have hz := bL hg
 have hz2 := bL hh
 generalize (w.alloc (.cells #[.int .i32 p0, .int .i32 p1] 24 (0, 0))).alloc (.cells #[.int .i64 r0] 2 (0, 0)) = W at hg hh hB hz hz2 ⊢
 refine (query_keys.calls HR0.out hc0 38 #[.pointer (some ⟨w.heap.size, 0, none⟩), .pointer (some ⟨w.heap.size + 1, 0, none⟩)] (fun _ V => Below w.heap.size w V ∧ V.heap[w.heap.size]? = some (.cells #[.int .i32 p0, .int .i32 p1] 24 (0, 0)) ∧ V.heap[w.heap.size + 1]? = some (.cells #[.int .i64 r0] 2 (0, 0))) hs HK.out (fun i V h => h.1) (fun i V V' h hb => ⟨h.1.trans (hb.mono (Nat.le_of_lt hz)), (hb.block _ hz).trans h.2.1, (hb.block _ hz2).trans h.2.2⟩) (fun i V hi hI hle => ?_) ⟨hB, hg, hh⟩ hn).mono ?_
 ·refine (query_near1.calls _ p0 p1 r0 _ _ _ V (ha i hi) hI.2.1 hI.2.2).mono ?_
  rintro e V' ⟨rfl, hb⟩
  exact ⟨rfl, ⟨hI.1.trans (hb.mono hI.1.size), bB hI.2.1 hb, bB hI.2.2 hb⟩, hb.size, fun k _ hk => hb.block k hk⟩
 ·rintro e V ⟨v, rfl, hR, hI, hle⟩
  have HB := Lib.hid hI.1
  have HRR := Lib.hid (Kd.R_lower hR (Nat.le_of_lt hz))
  clear hR hI HK HR0
  go_wp2_with fail
  go_ret
  exact ⟨_, rfl, HRR.out, HB.out⟩

/-! ### query_Closest: function 19 (given) -/
-- IMPORT Derived.Test.YtabcnaceffpekaaMspec
-- IMPORT Derived.Lib.Hide
-- IMPORT Derived.Deep.RegionHeld3
-- IMPORT Derived.Deep.RegionWith
-- NEEDS billiard/query.keys[[]billiard/api.Body]
-- NEEDS billiard/query.At
-- NEEDS billiard/query.Near
/-- The closest body so far (its key, its distance, whether there is one), and a further one. -/
def stepC (s : Int × Int × Bool) (key d : Int) : Int × Int × Bool := if s.2.2 = false ∨ d < s.2.1 then (key, d, true) else s
def closL (F : S32 → Option Int) : List S32 → Int × Int × Bool → Option (Int × Int × Bool)
 | [], s => some s
 | b :: l, s => (F b).bind fun d => closL F l (stepC s b.f0 d)
def query_Closest.f (l : List S32) (p0 p1 : Int) : Option (Int × Int × Bool) := if l.length ≤ 1000000 then closL (distF p0 p1) l (0, 0, false) else none
/-- The closest of the first bodies. -/
def stC (ds : Nat → Int) (l : List S32) (s : Int × Int × Bool) : Nat → Int × Int × Bool
 | 0 => s
 | i + 1 => stepC (stC ds l s i) (rd_T32 l (i : Int)).f0 (ds i)
theorem stC_cons (ds : Nat → Int) (b : S32) (l : List S32) (d : Int) (s : Int × Int × Bool) : ∀ i, stC (fun j => if j = 0 then d else ds (j - 1)) (b :: l) s (i + 1) = stC ds l (stepC s b.f0 d) i
 | 0 => by simp [stC, rd_T32]
 | i + 1 => by
  have e : rd_T32 (b :: l) ((i + 1 : Nat) : Int) = rd_T32 l (i : Int) := by unfold rd_T32; simp
  have e2 : (if i + 1 = 0 then d else ds (i + 1 - 1)) = ds i := by rw [if_neg (by omega)]; rfl
  rw [show stC (fun j => if j = 0 then d else ds (j - 1)) (b :: l) s (i + 1 + 1) = stepC (stC (fun j => if j = 0 then d else ds (j - 1)) (b :: l) s (i + 1)) (rd_T32 (b :: l) ((i + 1 : Nat) : Int)).f0 (if i + 1 = 0 then d else ds (i + 1 - 1)) from rfl, stC_cons ds b l d s i, e, e2]
  rfl
theorem closL_ds (F : S32 → Option Int) : ∀ (l : List S32) (s r : Int × Int × Bool), closL F l s = some r → ∃ ds : Nat → Int, (∀ i (h : i < l.length), F (rd_T32 l (i : Int)) = some (ds i)) ∧ stC ds l s l.length = r
 | [], s, r, h => ⟨fun _ => 0, fun i h => by simp at h, by simpa [closL, stC] using h⟩
 | b :: l, s, r, h => by
  unfold closL at h
  obtain ⟨d, h1, h2⟩ := Option.bind_eq_some_iff.mp h
  obtain ⟨ds, ha, hb⟩ := closL_ds F l _ r h2
  refine ⟨fun j => if j = 0 then d else ds (j - 1), fun i hi => ?_, ?_⟩
  ·match i, hi with
   | 0, _ => simpa [rd_T32] using h1
   | i + 1, hi =>
    have e : rd_T32 (b :: l) ((i + 1 : Nat) : Int) = rd_T32 l (i : Int) := by unfold rd_T32; simp
    rw [e, ha i (by simpa using hi)]
    simp
  ·rw [List.length_cons, stC_cons ds b l d s l.length]
   exact hb
/-- The variables that the test keeps. -/
structure ClS (w V : World) (q : Nat) (p0 p1 : Int) (s : Int × Int × Bool) : Prop where
 hb : Below w.heap.size w V
 hq : w.heap.size ≤ q
 hg : V.heap[q]? = some (.cells #[.int .i32 p0, .int .i32 p1] 24 (0, 0))
 h1 : V.heap[q + 1]? = some (.cells #[.int .u32 s.1] 30 (0, 0))
 h2 : V.heap[q + 2]? = some (.cells #[.int .i64 s.2.1] 2 (0, 0))
 h3 : V.heap[q + 3]? = some (.cells #[.bool s.2.2] 4 (0, 0))
theorem ClS.next {w V V' : World} {q : Nat} {p0 p1 : Int} {s : Int × Int × Bool} (h : ClS w V q p0 p1 s) (hb : Below (q + 4) V V') : ClS w V' q p0 p1 s :=
 ⟨h.hb.trans (hb.mono (by have := h.hq; omega)), h.hq, (hb.block _ (by omega)).trans h.hg, (hb.block _ (by omega)).trans h.h1, (hb.block _ (by omega)).trans h.h2, (hb.block _ (by omega)).trans h.h3⟩
theorem ClS.put {w V : World} {q : Nat} {p0 p1 : Int} {s : Int × Int × Bool} (h : ClS w V q p0 p1 s) (key d : Int) : ClS w (((V.setCell ⟨q + 1, 0, none⟩ (.int .u32 key)).setCell ⟨q + 2, 0, none⟩ (.int .i64 d)).setCell ⟨q + 3, 0, none⟩ (.bool true)) q p0 p1 (key, d, true) :=
 have hq := h.hq
 ⟨lS (lS (lS h.hb (by omega)) (by omega)) (by omega), hq,
  bR (bR (bR h.hg (p := ⟨q + 1, 0, none⟩) (by show q ≠ q + 1; omega) _) (p := ⟨q + 2, 0, none⟩) (by show q ≠ q + 2; omega) _) (p := ⟨q + 3, 0, none⟩) (by show q ≠ q + 3; omega) _,
  bR (bR (bP h.h1 0 _ rfl) (p := ⟨q + 2, 0, none⟩) (by show q + 1 ≠ q + 2; omega) _) (p := ⟨q + 3, 0, none⟩) (by show q + 1 ≠ q + 3; omega) _,
  bR (bP (bR h.h2 (p := ⟨q + 1, 0, none⟩) (by show q + 2 ≠ q + 1; omega) _) 0 _ rfl) (p := ⟨q + 3, 0, none⟩) (by show q + 2 ≠ q + 3; omega) _,
  bP (bR (bR h.h3 (p := ⟨q + 1, 0, none⟩) (by show q + 3 ≠ q + 1; omega) _) (p := ⟨q + 2, 0, none⟩) (by show q + 3 ≠ q + 2; omega) _) 0 _ rfl⟩
theorem set_size (V : World) (p : Addr) (u : Value) : (V.setCell p u).heap.size = V.heap.size := by simp [World.setCell]
theorem ClS.rest (V : World) (q : Nat) (a b c : Value) : V.heap.size ≤ (((V.setCell ⟨q + 1, 0, none⟩ a).setCell ⟨q + 2, 0, none⟩ b).setCell ⟨q + 3, 0, none⟩ c).heap.size ∧ ∀ k, q + 4 ≤ k → (((V.setCell ⟨q + 1, 0, none⟩ a).setCell ⟨q + 2, 0, none⟩ b).setCell ⟨q + 3, 0, none⟩ c).heap[k]? = V.heap[k]? := by
 refine ⟨?_, fun k hk => ?_⟩
 ·rw [set_size, set_size, set_size]
  exact Nat.le_refl _
 ·exact (Below.heap_setCell _ ⟨q + 3, 0, none⟩ _ k (by show k ≠ q + 3; omega)).trans ((Below.heap_setCell _ ⟨q + 2, 0, none⟩ _ k (by show k ≠ q + 2; omega)).trans (Below.heap_setCell _ ⟨q + 1, 0, none⟩ _ k (by show k ≠ q + 1; omega)))
set_option maxHeartbeats 8000000 in
theorem query_closest1.calls (b : S32) (p0 p1 d : Int) (s : Int × Int × Bool) (q : Nat) (w0 w : World) (hf : distF p0 p1 b = some d) (hS : ClS w0 w q p0 p1 s) (hz : q + 4 ≤ w.heap.size) :
  Calls Try.prog 39 #[bodyA b, .pointer (some ⟨q, 0, none⟩), .pointer (some ⟨q + 3, 0, none⟩), .pointer (some ⟨q + 2, 0, none⟩), .pointer (some ⟨q + 1, 0, none⟩)] w fun e w' => e = .returned (.bool false) ∧ ClS w0 w' q p0 p1 (stepC s b.f0 d) ∧ w.heap.size ≤ w'.heap.size ∧ ∀ k, q + 4 ≤ k → k < w.heap.size → w'.heap[k]? = w.heap[k]? := by
 have HD := Lib.hid (fun w => query_Distance.calls 200 _ _ _ _ _ _ _ _ _ _ _ _ _ w hf)
 have HS := Lib.hid hS
 have d0 : w.cell? ⟨q, 0, none⟩ = some (.int .i32 p0) := (bC hS.hg 0).trans rfl
 have d1 : w.cell? ⟨q, 1, none⟩ = some (.int .i32 p1) := (bC hS.hg 1).trans rfl
 have hqlt : q < w.heap.size := by omega
 clear hf hS
 go_enter Try.func39, Try.ntmps39
 go_wp2_with fail
 have hw0 : Below w.heap.size w (w.alloc (.cells #[.int .u32 b.f0, .int .i32 b.f1, .int .i32 b.f2.f0, .int .i32 b.f2.f1, .int .i32 b.f3, .int .i32 b.f4, .int .i32 b.f5.f0, .int .i32 b.f5.f1, .int .i32 b.f6.f0, .int .i32 b.f6.f1] 32 (0, 0))) := lA (Below.refl _ _) _
 have hQ : (w.alloc (.cells #[.int .u32 b.f0, .int .i32 b.f1, .int .i32 b.f2.f0, .int .i32 b.f2.f1, .int .i32 b.f3, .int .i32 b.f4, .int .i32 b.f5.f0, .int .i32 b.f5.f1, .int .i32 b.f6.f0, .int .i32 b.f6.f1] 32 (0, 0))).heap[w.heap.size]? = some (.cells #[.int .u32 b.f0, .int .i32 b.f1, .int .i32 b.f2.f0, .int .i32 b.f2.f1, .int .i32 b.f3, .int .i32 b.f4, .int .i32 b.f5.f0, .int .i32 b.f5.f1, .int .i32 b.f6.f0, .int .i32 b.f6.f1] 32 (0, 0)) := blk_new _ _
 refine (HD.out _).mono ?_
 rintro e V1 ⟨rfl, hb⟩
 have hW := lT hw0 hb
 have hS1 := HS.out.next (hW.mono hz)
 have hQ1 := bB hQ hb
 have e0 : V1.cell? ⟨w.heap.size, 0, none⟩ = some (.int .u32 b.f0) := (bC hQ1 0).trans rfl
 have s1 : V1.cell? ⟨q + 1, 0, none⟩ = some (.int .u32 s.1) := (bC hS1.h1 0).trans rfl
 have s2 : V1.cell? ⟨q + 2, 0, none⟩ = some (.int .i64 s.2.1) := (bC hS1.h2 0).trans rfl
 have s3 : V1.cell? ⟨q + 3, 0, none⟩ = some (.bool s.2.2) := (bC hS1.h3 0).trans rfl
 have t1 := bF hS1.h1 0
 have t2 := bF hS1.h2 0
 have t3 := bF hS1.h3 0
 have HW := Lib.hid hW
 have HP := Lib.hid (hS1.put b.f0 d)
 have HX := Lib.hid (ClS.rest V1 q (.int .u32 b.f0) (.int .i64 d) (.bool true))
 have HS1 := Lib.hid hS1
 clear hw0 hQ hb hW hS1 hQ1 HS HD d0 d1
 obtain ⟨s_1, s_2, ok⟩ := s
 simp only at s1 s2 s3
 cases ok
 ·have HE := Lib.hid (show stepC (s_1, s_2, false) b.f0 d = (b.f0, d, true) from if_pos (Or.inl rfl))
  go_wp2_with fail
  go_ret
  exact ⟨rfl, by rw [HE.out]; exact HP.out, Nat.le_trans HW.out.size HX.out.1, fun k h1 h2 => (HX.out.2 k h1).trans (HW.out.block k h2)⟩
 ·by_cases hlt : d < s_2
  ·have HE := Lib.hid (show stepC (s_1, s_2, true) b.f0 d = (b.f0, d, true) from if_pos (Or.inr hlt))
   have dl : decide (d < s_2) = true := decide_eq_true hlt
   clear hlt
   go_wp2_with fail
   go_ret
   exact ⟨rfl, by rw [HE.out]; exact HP.out, Nat.le_trans HW.out.size HX.out.1, fun k h1 h2 => (HX.out.2 k h1).trans (HW.out.block k h2)⟩
  ·have HE := Lib.hid (show stepC (s_1, s_2, true) b.f0 d = (s_1, s_2, true) from if_neg (fun h => by rcases h with h | h; cases h; exact hlt h))
   have dl : decide (d < s_2) = false := decide_eq_false hlt
   clear hlt
   go_wp2_with fail
   go_ret
   exact ⟨rfl, by rw [HE.out]; exact HS1.out, HW.out.size, fun k h1 h2 => HW.out.block k h2⟩
theorem ClS.start (w : World) (p0 p1 : Int) : ClS w ((((w.alloc (.cells #[.int .i32 p0, .int .i32 p1] 24 (0, 0))).alloc (.cells #[.int .u32 0] 30 (0, 0))).alloc (.cells #[.int .i64 0] 2 (0, 0))).alloc (.cells #[.bool false] 4 (0, 0))) w.heap.size p0 p1 (0, 0, false) := by
 have h1 := blk_new (w.alloc (.cells #[.int .i32 p0, .int .i32 p1] 24 (0, 0))) (.cells #[.int .u32 0] 30 (0, 0))
 have h2 := blk_new ((w.alloc (.cells #[.int .i32 p0, .int .i32 p1] 24 (0, 0))).alloc (.cells #[.int .u32 0] 30 (0, 0))) (.cells #[.int .i64 0] 2 (0, 0))
 have h3 := blk_new (((w.alloc (.cells #[.int .i32 p0, .int .i32 p1] 24 (0, 0))).alloc (.cells #[.int .u32 0] 30 (0, 0))).alloc (.cells #[.int .i64 0] 2 (0, 0))) (.cells #[.bool false] 4 (0, 0))
 simp only [World.size_alloc] at h1 h2 h3
 exact ⟨lA (lA (lA (lA (Below.refl _ _) _) _) _) _, Nat.le_refl _, bA (bA (bA (blk_new _ _) _) _) _, bA (bA h1 _) _, bA h2 _, h3⟩
set_option maxHeartbeats 4000000 in
theorem query_Closest.calls (A0 : Option Addr) (c0 : Nat) (l0 : List S32) (p0 p1 : Int) (r1 r2 : Int) (r3 : Bool) (w : World) (hr0 : Kd.C k32 w A0 l0.length l0) (hc0 : l0.length ≤ c0) (h : query_Closest.f l0 p0 p1 = some (r1, r2, r3)) :
  Calls Try.prog 19 #[.slice A0 l0.length c0, .agg #[.int .i32 p0, .int .i32 p1]] w fun e w' => e = .returned (.tuple #[.int .u32 r1, .int .i64 r2, .bool r3]) ∧ Below w.heap.size w w' := by
 unfold query_Closest.f at h
 split at h
 rotate_left
 ·cases h
 rename_i hn
 obtain ⟨ds, ha, hr⟩ := closL_ds _ l0 _ _ h
 have HR0 := Lib.hid hr0
 have HR := Lib.hid hr
 have HK := Lib.hid (fun args V => calls_body (K := 39) Try.func39 (by kernel_rfl) (by kernel_rfl) args V)
 clear hr0 h hr
 go_enter Try.func19, Try.ntmps19
 go_wp2_with fail
 have hS := ClS.start w p0 p1
 have hz : w.heap.size + 4 ≤ ((((w.alloc (.cells #[.int .i32 p0, .int .i32 p1] 24 (0, 0))).alloc (.cells #[.int .u32 0] 30 (0, 0))).alloc (.cells #[.int .i64 0] 2 (0, 0))).alloc (.cells #[.bool false] 4 (0, 0))).heap.size := by have := bL hS.h3; omega
 generalize hW_ : ((((w.alloc (.cells #[.int .i32 p0, .int .i32 p1] 24 (0, 0))).alloc (.cells #[.int .u32 0] 30 (0, 0))).alloc (.cells #[.int .i64 0] 2 (0, 0))).alloc (.cells #[.bool false] 4 (0, 0))) = W at hS hz ⊢
 have hz4 : W.heap.size = w.heap.size + 4 := by rw [← hW_]; simp only [World.size_alloc]
 clear hW_
 refine (query_keys.calls HR0.out hc0 39 #[.pointer (some ⟨w.heap.size, 0, none⟩), .pointer (some ⟨w.heap.size + 3, 0, none⟩), .pointer (some ⟨w.heap.size + 2, 0, none⟩), .pointer (some ⟨w.heap.size + 1, 0, none⟩)] (fun i V => ClS w V w.heap.size p0 p1 (stC ds l0 (0, 0, false) i)) (fun _ => false) HK.out (fun i V h => h.hb) (fun i V V' h hb => h.next (hb.mono (by omega))) (fun i V hi hI hle => ?_) hS hn).mono ?_
 ·refine (query_closest1.calls _ p0 p1 _ _ _ w V (ha i hi) hI (by omega)).mono ?_
  rintro e V' ⟨rfl, h1, h2, h3⟩
  exact ⟨rfl, h1, h2, fun k hk hk2 => h3 k (by omega) hk2⟩
 ·rintro e V ⟨v, rfl, _, hI, hle⟩
  rw [HR.out] at hI
  have e1 : V.cell? ⟨w.heap.size + 1, 0, none⟩ = some (.int .u32 r1) := (bC hI.h1 0).trans rfl
  have e2 : V.cell? ⟨w.heap.size + 2, 0, none⟩ = some (.int .i64 r2) := (bC hI.h2 0).trans rfl
  have e3 : V.cell? ⟨w.heap.size + 3, 0, none⟩ = some (.bool r3) := (bC hI.h3 0).trans rfl
  have HB := Lib.hid (below_drew hI.hb)
  clear hI HK HR0 hS
  go_wp2_with fail
  go_region
  go_wp2_with fail
  exact bodyPost_ret (v := .tuple #[.int .u32 r1, .int .i64 r2, .bool r3]) (by simp [results, Try.results19, go_sem]) rfl ⟨rfl, HB.out⟩

end Go.Proofs.Ytabcnaceffpekaa.Q
