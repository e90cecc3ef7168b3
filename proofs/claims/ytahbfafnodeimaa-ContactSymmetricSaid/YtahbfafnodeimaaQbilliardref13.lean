-- PRINTED by print.py (a twelfth state) out of the translation. Not trusted: Lean checks it.
import Derived.Test.YtahbfafnodeimaaQ0
import Derived.Test.YtahbfafnodeimaaQbilliardref04
import Derived.Test.YtahbfafnodeimaaQbilliardref12
namespace Go.Proofs.Ytahbfafnodeimaa.Q
open Go.RowKit Go.Proofs.YtahbfafnodeimaaW.PrintWords Go.Proofs.YtahbfafnodeimaaW.PrintLast Go.Proofs.YtahbfafnodeimaaW.PrintMore
open Go.Proofs.YtahbfafnodeimaaW.PrintWords renaming blk_drewN → bN, blk_drew → bD, blk_alloc → bA, blk_below → bB, blk_cell → bC, blk_frozen → bF, blk_far → bR, blk_lt → bL, blk_put → bP, below_alloc → lA, pw_below_drewN → lN, below_drew1 → lD, below_set → lS, below_step → lT, below_size → lZ, Aside0.mk → aM
open List renaming setIfInBounds_toArray → sA, set_cons_zero → sB, set_cons_succ → sC
open Bool renaming true → T, false → F
attribute [local go_sem] max2_int min2_int max_two min_two max_three min_three max_four min_four   -- for this text's walks alone
set_option linter.unusedVariables false
set_option linter.unusedSimpArgs false

/-! ### billiardref13_DistSq: function 25 -/
def billiardref13_DistSq.f (a0_0 : Int) (a0_1 : Int) (a0_2 : Int) (a0_3 : Int) : Option (Int) := (billiardref04_LengthSq.f (wrap64 ((wrap64 (a0_2)) - (wrap64 (a0_0)))) (wrap64 ((wrap64 (a0_3)) - (wrap64 (a0_1))))).bind fun t307 => (some t307)
set_option maxHeartbeats 8000000 in
set_option maxRecDepth 100000 in
theorem billiardref13_DistSq.calls (a0_0 : Int) (a0_1 : Int) (a0_2 : Int) (a0_3 : Int) (r : Int) (w : World) (h : billiardref13_DistSq.f a0_0 a0_1 a0_2 a0_3 = some r) :
  Calls Try.prog 25 #[.agg #[.int .i32 a0_0, .int .i32 a0_1, .int .i32 a0_2, .int .i32 a0_3]] w fun e w' => e = .returned (.int .u64 r) ∧ Below w.heap.size w w' := by
 have hu55 := Try.underlying55
 have HB := aM (Below.refl w.heap.size w)
 have H : ((billiardref04_LengthSq.f (wrap64 ((wrap64 (a0_2)) - (wrap64 (a0_0)))) (wrap64 ((wrap64 (a0_3)) - (wrap64 (a0_1))))).bind fun t307 => (some t307)) = some r := h
 clear h
 replace H := Option.bind_eq_some_iff.mp H
 obtain ⟨t307, A20, H⟩ := H
 replace H : (some t307) = some r := H
 have A2 := aM A20
 clear A20
 obtain rfl := Option.some.inj H
 go_enter Try.func25, Try.ntmps25
 go_wp2_with (first | ((with_reducible refine gate_dst (N := 1) rfl ?_); refine box_event ?hg (N := 1) ?hd (cs := #[.int .i32 a0_0, .int .i32 a0_1, .int .i32 a0_2, .int .i32 a0_3]) (t := 55) ?hr ?_; (case hd => rfl); (case hg => rfl); (case hr => first | (go_simp; done) | (go_simp; rfl)); intro b306 hg w3 hbox hb; have n0_ := aM (lT (by repeat (first | (with_reducible first | exact HB.out | apply lA | apply lN | apply lD) | exact HB.out)) hb); have n1_ := aM (hbox); have n2_ := aM ((by rw [hg]; exact (lZ (by repeat (first | (with_reducible first | exact HB.out | apply lA | apply lN | apply lD) | exact HB.out))) : w.heap.size ≤ b306)); have n3_ := aM ((by rw [hg]; exact (lZ (by repeat (first | (with_reducible first | exact HB.out | apply lA | apply lN | apply lD) | exact HB.out))) : w.heap.size ≤ b306)); clear HB; have HB := n0_; have BK306 := n1_; have GW306 := n2_; have GE306 := n3_; clear n0_ n1_ n2_ n3_; clear hb hbox hg; have hcz4_0 : w3.cell? ⟨b306, 0, none⟩ = some (.int .i32 a0_0) := (bC BK306.out 0).trans rfl; have hcz4_1 : w3.cell? ⟨b306, 1, none⟩ = some (.int .i32 a0_1) := (bC BK306.out 1).trans rfl; have hcz4_2 : w3.cell? ⟨b306, 2, none⟩ = some (.int .i32 a0_2) := (bC BK306.out 2).trans rfl; have hcz4_3 : w3.cell? ⟨b306, 3, none⟩ = some (.int .i32 a0_3) := (bC BK306.out 3).trans rfl; have hfz4_0 := bF BK306.out 0; have hfz4_1 := bF BK306.out 1; have hfz4_2 := bF BK306.out 2; have hfz4_3 := bF BK306.out 3) | ((with_reducible refine gate_callee (f := 39) rfl ?_); refine goesL_ (some 21) rfl rfl Try.func39 (by kernel_rfl) rfl #[.int .i64 (wrap64 ((wrap64 (a0_2)) - (wrap64 (a0_0)))), .int .i64 (wrap64 ((wrap64 (a0_3)) - (wrap64 (a0_1))))] rfl (by (try simp only [List.map_toArray, List.map_cons, List.map_nil]); first | done | rfl | (simp only [List.length_drop, List.length_take]; rfl)) ?_; (with_reducible refine (billiardref04_LengthSq.calls (wrap64 ((wrap64 (a0_2)) - (wrap64 (a0_0)))) (wrap64 ((wrap64 (a0_3)) - (wrap64 (a0_1)))) t307 _ A2.out).mono ?_); rintro e w' ⟨rfl, ⟨nd, rfl⟩⟩; refine ⟨_, rfl, ?_⟩))
 go_ret
 exact ⟨by first | rfl | (simp [errW_none, errW_some] <;> rfl) | (simp [*, errW_none, errW_some] <;> rfl), by repeat (first | (with_reducible first | exact HB.out | apply lA | apply lN | apply lD | refine lS ?_ GE306.out) | exact HB.out)⟩

/-! ### billiardref13_Chosen: function 36 -/
def billiardref13_Chosen.l0 : Nat → List (S55) → Int → Int → Int → Int → Int → Option (Int × Int × Int × Int)
 | 0, _, _, _, _, _, _ => none
 | k + 1, x9, x11, x343000, x343001, x343002, x343003 => if x11 < (x9.length : Int) then (if 0 ≤ x11 then ((billiardref13_DistSq.f ((rd_T55 x9 x11).f0.f0) ((rd_T55 x9 x11).f0.f1) ((rd_T55 x9 x11).f1.f0) ((rd_T55 x9 x11).f1.f1)).bind fun t344 => ((billiardref13_DistSq.f x343000 x343001 x343002 x343003).bind fun t345 => (if t344 < t345 then (billiardref13_Chosen.l0 k x9 (wrap64 (x11 + 1)) ((rd_T55 x9 x11).f0.f0) ((rd_T55 x9 x11).f0.f1) ((rd_T55 x9 x11).f1.f0) ((rd_T55 x9 x11).f1.f1)) else (billiardref13_Chosen.l0 k x9 (wrap64 (x11 + 1)) x343000 x343001 x343002 x343003)))) else (none)) else (some (x343000, x343001, x343002, x343003))
def billiardref13_Chosen.f (k : Nat) (a0_0 : Int) (a0_1 : Int) (a1_0 : Int) (a1_1 : Int) (a2_0 : Int) (a2_1 : Int) (a3_0 : Int) (a3_1 : Int) : Option (Int × Int × Int × Int) := (billiardref12_Nearest.f a2_0 a2_1 a3_0 a3_1 a0_0 a0_1).bind fun bt330 => ((billiardref12_Nearest.f a2_0 a2_1 a3_0 a3_1 a1_0 a1_1).bind fun bt332 => ((billiardref12_Nearest.f a0_0 a0_1 a1_0 a1_1 a2_0 a2_1).bind fun bt334 => ((billiardref12_Nearest.f a0_0 a0_1 a1_0 a1_1 a3_0 a3_1).bind fun bt336 => ((some (([(⟨(⟨a0_0, a0_1⟩ : S24), (⟨bt330.1, bt330.2⟩ : S24)⟩ : S55), (⟨(⟨a1_0, a1_1⟩ : S24), (⟨bt332.1, bt332.2⟩ : S24)⟩ : S55), (⟨(⟨bt334.1, bt334.2⟩ : S24), (⟨a2_0, a2_1⟩ : S24)⟩ : S55), (⟨(⟨bt336.1, bt336.2⟩ : S24), (⟨a3_0, a3_1⟩ : S24)⟩ : S55)] : List (S55)) : List (S55))).bind fun y338 => (if 0 < (y338.length : Int) then (billiardref13_Chosen.l0 k y338 1 ((rd_T55 y338 0).f0.f0) ((rd_T55 y338 0).f0.f1) ((rd_T55 y338 0).f1.f0) ((rd_T55 y338 0).f1.f1)) else (none))))))
theorem billiardref13_Chosen.mono_l : ∀ k, (∀ y0 y1 y2 y3 y4 y5, LeO (billiardref13_Chosen.l0 k y0 y1 y2 y3 y4 y5) (billiardref13_Chosen.l0 (k + 1) y0 y1 y2 y3 y4 y5))
 | 0 => fun _ _ _ _ _ _ r h => by simp [billiardref13_Chosen.l0] at h
 | k + 1 => by
  have ih0 := billiardref13_Chosen.mono_l k
  ·intro y0 y1 y2 y3 y4 y5
   unfold billiardref13_Chosen.l0
   repeat' first
   | (with_reducible exact ih0 _ _ _ _ _ _)
   | (with_reducible exact LeO.refl _)
   | (with_reducible exact LeO.none _)
   | (with_reducible refine LeO.ite ?_ ?_)
   | (with_reducible refine LeO.bind ?_ (fun _ => ?_))
   | exact ih0 _ _ _ _ _ _
   | exact LeO.none _
   | refine LeO.ite ?_ ?_
   | refine LeO.bind ?_ (fun _ => ?_)
theorem billiardref13_Chosen.mono : ∀ a0 a1 a2 a3 a4 a5 a6 a7 k, LeO (billiardref13_Chosen.f k a0 a1 a2 a3 a4 a5 a6 a7) (billiardref13_Chosen.f (k + 1) a0 a1 a2 a3 a4 a5 a6 a7) := by
 intro a0 a1 a2 a3 a4 a5 a6 a7 k
 have ih0 := billiardref13_Chosen.mono_l k
 unfold billiardref13_Chosen.f
 repeat' first
   | (with_reducible exact ih0 _ _ _ _ _ _)
   | (with_reducible exact LeO.refl _)
   | (with_reducible exact LeO.none _)
   | (with_reducible refine LeO.ite ?_ ?_)
   | (with_reducible refine LeO.bind ?_ (fun _ => ?_))
   | exact ih0 _ _ _ _ _ _
   | exact LeO.none _
   | refine LeO.ite ?_ ?_
   | refine LeO.bind ?_ (fun _ => ?_)
def billiardref13_Chosen.T1 : Bool × List (List Nat × List Nat) := (true, [([], []), ([], []), ([], []), ([], []), ([1, 2, 3], [1, 2, 3]), ([0, 4], [0, 4]), ([], []), ([], []), ([], []), ([], []), ([7, 8, 9, 4], [7, 8, 9]), ([6, 10], [6, 10]), ([], []), ([], []), ([], []), ([12, 13, 14, 10], [12, 13, 14]), ([], []), ([15, 16], [15, 16]), ([], []), ([], []), ([], []), ([18, 19, 20, 15], [18, 19, 20]), ([], []), ([21, 22], [21, 22]), ([5, 11, 17, 23], [5, 11, 17, 23]), ([24, 21, 0, 1, 2, 3, 4, 5, 6, 7, 8, 9, 10, 11, 12, 13, 14, 15, 16, 17, 18, 19, 20, 21, 22, 23, 24], [24])])
def billiardref13_Chosen.B1 : List Nat := [0, 0, 0, 0, 14, 31, 0, 0, 0, 0, 926, 2014, 0, 0, 0, 30622, 0, 128926, 0, 0, 0, 1898398, 0, 8189854, 16777215, 33554431]
theorem billiardref13_Chosen.tab1 : rtab .any (opsOf Try.f36 1) = billiardref13_Chosen.T1 := by kernel_rfl
theorem billiardref13_Chosen.bits1 : waitsOk billiardref13_Chosen.T1.2 billiardref13_Chosen.B1 = true := by kernel_rfl
def billiardref13_Chosen.T6 : Bool × List (List Nat × List Nat) := (true, [([], []), ([], []), ([0, 1], [0, 1]), ([2], [2]), ([3], [3]), ([], []), ([5, 4], [5]), ([4, 6], [4, 6])])
def billiardref13_Chosen.B6 : List Nat := [0, 0, 3, 7, 15, 0, 63, 127]
theorem billiardref13_Chosen.tab6 : rtab .any (opsOf Try.f36 6) = billiardref13_Chosen.T6 := by kernel_rfl
theorem billiardref13_Chosen.bits6 : waitsOk billiardref13_Chosen.T6.2 billiardref13_Chosen.B6 = true := by kernel_rfl
set_option maxHeartbeats 8000000 in
set_option maxRecDepth 100000 in
theorem billiardref13_Chosen.calls (k : Nat) (a0_0 : Int) (a0_1 : Int) (a1_0 : Int) (a1_1 : Int) (a2_0 : Int) (a2_1 : Int) (a3_0 : Int) (a3_1 : Int) (r1 : Int) (r2 : Int) (r3 : Int) (r4 : Int) (w : World) (h : billiardref13_Chosen.f k a0_0 a0_1 a1_0 a1_1 a2_0 a2_1 a3_0 a3_1 = some (r1, r2, r3, r4)) :
  Calls Try.prog 36 #[.agg #[.int .i32 a0_0, .int .i32 a0_1], .agg #[.int .i32 a1_0, .int .i32 a1_1], .agg #[.int .i32 a2_0, .int .i32 a2_1], .agg #[.int .i32 a3_0, .int .i32 a3_1]] w fun e w' => e = .returned (.agg #[.int .i32 r1, .int .i32 r2, .int .i32 r3, .int .i32 r4]) ∧ Below w.heap.size w w' := by
 have hu24 := Try.underlying24
 have hu55 := Try.underlying55
 have HB := aM (Below.refl w.heap.size w)
 have H : ((billiardref12_Nearest.f a2_0 a2_1 a3_0 a3_1 a0_0 a0_1).bind fun bt330 => ((billiardref12_Nearest.f a2_0 a2_1 a3_0 a3_1 a1_0 a1_1).bind fun bt332 => ((billiardref12_Nearest.f a0_0 a0_1 a1_0 a1_1 a2_0 a2_1).bind fun bt334 => ((billiardref12_Nearest.f a0_0 a0_1 a1_0 a1_1 a3_0 a3_1).bind fun bt336 => ((some (([(⟨(⟨a0_0, a0_1⟩ : S24), (⟨bt330.1, bt330.2⟩ : S24)⟩ : S55), (⟨(⟨a1_0, a1_1⟩ : S24), (⟨bt332.1, bt332.2⟩ : S24)⟩ : S55), (⟨(⟨bt334.1, bt334.2⟩ : S24), (⟨a2_0, a2_1⟩ : S24)⟩ : S55), (⟨(⟨bt336.1, bt336.2⟩ : S24), (⟨a3_0, a3_1⟩ : S24)⟩ : S55)] : List (S55)) : List (S55))).bind fun y338 => (if 0 < (y338.length : Int) then (billiardref13_Chosen.l0 k y338 1 ((rd_T55 y338 0).f0.f0) ((rd_T55 y338 0).f0.f1) ((rd_T55 y338 0).f1.f0) ((rd_T55 y338 0).f1.f1)) else (none))))))) = some (r1, r2, r3, r4) := h
 clear h
 replace H := Option.bind_eq_some_iff.mp H
 obtain ⟨⟨t330, t331⟩, A50, H⟩ := H
 replace H : ((billiardref12_Nearest.f a2_0 a2_1 a3_0 a3_1 a1_0 a1_1).bind fun bt332 => ((billiardref12_Nearest.f a0_0 a0_1 a1_0 a1_1 a2_0 a2_1).bind fun bt334 => ((billiardref12_Nearest.f a0_0 a0_1 a1_0 a1_1 a3_0 a3_1).bind fun bt336 => ((some (([(⟨(⟨a0_0, a0_1⟩ : S24), (⟨t330, t331⟩ : S24)⟩ : S55), (⟨(⟨a1_0, a1_1⟩ : S24), (⟨bt332.1, bt332.2⟩ : S24)⟩ : S55), (⟨(⟨bt334.1, bt334.2⟩ : S24), (⟨a2_0, a2_1⟩ : S24)⟩ : S55), (⟨(⟨bt336.1, bt336.2⟩ : S24), (⟨a3_0, a3_1⟩ : S24)⟩ : S55)] : List (S55)) : List (S55))).bind fun y338 => (if 0 < (y338.length : Int) then (billiardref13_Chosen.l0 k y338 1 ((rd_T55 y338 0).f0.f0) ((rd_T55 y338 0).f0.f1) ((rd_T55 y338 0).f1.f0) ((rd_T55 y338 0).f1.f1)) else (none)))))) = some (r1, r2, r3, r4) := H
 have A5 := aM A50
 clear A50
 replace H := Option.bind_eq_some_iff.mp H
 obtain ⟨⟨t332, t333⟩, A60, H⟩ := H
 replace H : ((billiardref12_Nearest.f a0_0 a0_1 a1_0 a1_1 a2_0 a2_1).bind fun bt334 => ((billiardref12_Nearest.f a0_0 a0_1 a1_0 a1_1 a3_0 a3_1).bind fun bt336 => ((some (([(⟨(⟨a0_0, a0_1⟩ : S24), (⟨t330, t331⟩ : S24)⟩ : S55), (⟨(⟨a1_0, a1_1⟩ : S24), (⟨t332, t333⟩ : S24)⟩ : S55), (⟨(⟨bt334.1, bt334.2⟩ : S24), (⟨a2_0, a2_1⟩ : S24)⟩ : S55), (⟨(⟨bt336.1, bt336.2⟩ : S24), (⟨a3_0, a3_1⟩ : S24)⟩ : S55)] : List (S55)) : List (S55))).bind fun y338 => (if 0 < (y338.length : Int) then (billiardref13_Chosen.l0 k y338 1 ((rd_T55 y338 0).f0.f0) ((rd_T55 y338 0).f0.f1) ((rd_T55 y338 0).f1.f0) ((rd_T55 y338 0).f1.f1)) else (none))))) = some (r1, r2, r3, r4) := H
 have A6 := aM A60
 clear A60
 replace H := Option.bind_eq_some_iff.mp H
 obtain ⟨⟨t334, t335⟩, A70, H⟩ := H
 replace H : ((billiardref12_Nearest.f a0_0 a0_1 a1_0 a1_1 a3_0 a3_1).bind fun bt336 => ((some (([(⟨(⟨a0_0, a0_1⟩ : S24), (⟨t330, t331⟩ : S24)⟩ : S55), (⟨(⟨a1_0, a1_1⟩ : S24), (⟨t332, t333⟩ : S24)⟩ : S55), (⟨(⟨t334, t335⟩ : S24), (⟨a2_0, a2_1⟩ : S24)⟩ : S55), (⟨(⟨bt336.1, bt336.2⟩ : S24), (⟨a3_0, a3_1⟩ : S24)⟩ : S55)] : List (S55)) : List (S55))).bind fun y338 => (if 0 < (y338.length : Int) then (billiardref13_Chosen.l0 k y338 1 ((rd_T55 y338 0).f0.f0) ((rd_T55 y338 0).f0.f1) ((rd_T55 y338 0).f1.f0) ((rd_T55 y338 0).f1.f1)) else (none)))) = some (r1, r2, r3, r4) := H
 have A7 := aM A70
 clear A70
 replace H := Option.bind_eq_some_iff.mp H
 obtain ⟨⟨t336, t337⟩, A80, H⟩ := H
 replace H : ((some (([(⟨(⟨a0_0, a0_1⟩ : S24), (⟨t330, t331⟩ : S24)⟩ : S55), (⟨(⟨a1_0, a1_1⟩ : S24), (⟨t332, t333⟩ : S24)⟩ : S55), (⟨(⟨t334, t335⟩ : S24), (⟨a2_0, a2_1⟩ : S24)⟩ : S55), (⟨(⟨t336, t337⟩ : S24), (⟨a3_0, a3_1⟩ : S24)⟩ : S55)] : List (S55)) : List (S55))).bind fun y338 => (if 0 < (y338.length : Int) then (billiardref13_Chosen.l0 k y338 1 ((rd_T55 y338 0).f0.f0) ((rd_T55 y338 0).f0.f1) ((rd_T55 y338 0).f1.f0) ((rd_T55 y338 0).f1.f1)) else (none))) = some (r1, r2, r3, r4) := H
 have A8 := aM A80
 clear A80
 obtain ⟨y338, hy338⟩ : ∃ y_ : List (S55), y_ = (([(⟨(⟨a0_0, a0_1⟩ : S24), (⟨t330, t331⟩ : S24)⟩ : S55), (⟨(⟨a1_0, a1_1⟩ : S24), (⟨t332, t333⟩ : S24)⟩ : S55), (⟨(⟨t334, t335⟩ : S24), (⟨a2_0, a2_1⟩ : S24)⟩ : S55), (⟨(⟨t336, t337⟩ : S24), (⟨a3_0, a3_1⟩ : S24)⟩ : S55)] : List (S55))) := ⟨_, rfl⟩
 replace H : (if 0 < (y338.length : Int) then (billiardref13_Chosen.l0 k y338 1 ((rd_T55 y338 0).f0.f0) ((rd_T55 y338 0).f0.f1) ((rd_T55 y338 0).f1.f0) ((rd_T55 y338 0).f1.f1)) else (none)) = some (r1, r2, r3, r4) := by first | (rw [hy338]; with_reducible exact H) | (have H2_ := (Option.bind_some _ _).symm.trans H; rw [hy338]; with_reducible exact H2_) | (have H2_ := (Option.bind_some _ _).symm.trans H; with_reducible exact H2_) | with_reducible exact H | (rw [hy338]; exact H) | exact H
 have Ny338 := aM hy338
 clear hy338
 by_cases c9 : 0 < (y338.length : Int)
 ·rw [if_pos c9] at H
  have c9b0 : decide (0 < (y338.length : Int)) = true := decide_eq_true c9
  have c9b1 : decide (0 < y338.length) = true := decide_eq_true (by omega)
  clear c9
  have H' := aM H
  clear H
  go_enter Try.func36, Try.ntmps36
  try go_wp2_with (first | ((with_reducible refine gate_dst (N := 4) rfl ?_); refine box_event ?hg (N := 4) ?hd (cs := #[.int .i32 a0_0, .int .i32 a0_1]) (t := 24) ?hr ?_; (case hd => rfl); (case hg => rfl); (case hr => first | (go_simp; done) | (go_simp; rfl)); intro b325 hg w10 hbox hb; have n0_ := aM (lT (by repeat (first | (with_reducible first | exact HB.out | apply lA | apply lN | apply lD) | exact HB.out)) hb); have n1_ := aM (hbox); have n2_ := aM ((by rw [hg]; exact (lZ (by repeat (first | (with_reducible first | exact HB.out | apply lA | apply lN | apply lD) | exact HB.out))) : w.heap.size ≤ b325)); have n3_ := aM ((by rw [hg]; exact (lZ (by repeat (first | (with_reducible first | exact HB.out | apply lA | apply lN | apply lD) | exact HB.out))) : w.heap.size ≤ b325)); clear HB; have HB := n0_; have BK325 := n1_; have GW325 := n2_; have GE325 := n3_; clear n0_ n1_ n2_ n3_; clear hb hbox hg) | ((with_reducible refine gate_dst (N := 5) rfl ?_); refine box_event ?hg (N := 5) ?hd (cs := #[.int .i32 a1_0, .int .i32 a1_1]) (t := 24) ?hr ?_; (case hd => rfl); (case hg => rfl); (case hr => first | (go_simp; done) | (go_simp; rfl)); intro b326 hg w11 hbox hb; have n0_ := aM (bB (by (with_reducible repeat first | apply bN | apply bD | apply bA); exact BK325.out) hb); have n1_ := aM (lT (by repeat (first | (with_reducible first | exact HB.out | apply lA | apply lN | apply lD | refine lS ?_ GE325.out) | exact HB.out)) hb); have n2_ := aM (hbox); have n3_ := aM ((by rw [hg]; exact (lZ (by repeat (first | (with_reducible first | exact HB.out | apply lA | apply lN | apply lD | refine lS ?_ GE325.out) | exact HB.out))) : w.heap.size ≤ b326)); have n4_ := aM ((by rw [hg]; exact (lZ (by repeat (first | (with_reducible first | exact HB.out | apply lA | apply lN | apply lD | refine lS ?_ GE325.out) | exact HB.out))) : w.heap.size ≤ b326)); have n5_ := aM ((by rw [hg]; exact Nat.ne_of_lt (bL (g := b325) (by (with_reducible repeat first | apply bN | apply bD | apply bA); exact BK325.out)) : b325 ≠ b326)); have n6_ := aM ((by rw [hg]; exact Nat.ne_of_gt (bL (g := b325) (by (with_reducible repeat first | apply bN | apply bD | apply bA); exact BK325.out)) : b326 ≠ b325)); clear BK325; clear HB; have BK325 := n0_; have HB := n1_; have BK326 := n2_; have GW326 := n3_; have GE326 := n4_; have N0_ := n5_; have N1_ := n6_; clear n0_ n1_ n2_ n3_ n4_ n5_ n6_; clear hb hbox hg) | ((with_reducible refine gate_dst (N := 6) rfl ?_); refine box_event ?hg (N := 6) ?hd (cs := #[.int .i32 a2_0, .int .i32 a2_1]) (t := 24) ?hr ?_; (case hd => rfl); (case hg => rfl); (case hr => first | (go_simp; done) | (go_simp; rfl)); intro b327 hg w12 hbox hb; have n0_ := aM (bB (by (with_reducible repeat first | apply bN | apply bD | apply bA); exact BK325.out) hb); have n1_ := aM (bB (by (with_reducible repeat first | apply bN | apply bD | apply bA); exact BK326.out) hb); have n2_ := aM (lT (by repeat (first | (with_reducible first | exact HB.out | apply lA | apply lN | apply lD | refine lS ?_ GE325.out | refine lS ?_ GE326.out) | exact HB.out)) hb); have n3_ := aM (hbox); have n4_ := aM ((by rw [hg]; exact (lZ (by repeat (first | (with_reducible first | exact HB.out | apply lA | apply lN | apply lD | refine lS ?_ GE325.out | refine lS ?_ GE326.out) | exact HB.out))) : w.heap.size ≤ b327)); have n5_ := aM ((by rw [hg]; exact (lZ (by repeat (first | (with_reducible first | exact HB.out | apply lA | apply lN | apply lD | refine lS ?_ GE325.out | refine lS ?_ GE326.out) | exact HB.out))) : w.heap.size ≤ b327)); have n6_ := aM ((by rw [hg]; exact Nat.ne_of_lt (bL (g := b325) (by (with_reducible repeat first | apply bN | apply bD | apply bA); exact BK325.out)) : b325 ≠ b327)); have n7_ := aM ((by rw [hg]; exact Nat.ne_of_gt (bL (g := b325) (by (with_reducible repeat first | apply bN | apply bD | apply bA); exact BK325.out)) : b327 ≠ b325)); have n8_ := aM ((by rw [hg]; exact Nat.ne_of_lt (bL (g := b326) (by (with_reducible repeat first | apply bN | apply bD | apply bA); exact BK326.out)) : b326 ≠ b327)); have n9_ := aM ((by rw [hg]; exact Nat.ne_of_gt (bL (g := b326) (by (with_reducible repeat first | apply bN | apply bD | apply bA); exact BK326.out)) : b327 ≠ b326)); clear BK325; clear BK326; clear HB; have BK325 := n0_; have BK326 := n1_; have HB := n2_; have BK327 := n3_; have GW327 := n4_; have GE327 := n5_; have N2_ := n6_; have N3_ := n7_; have N4_ := n8_; have N5_ := n9_; clear n0_ n1_ n2_ n3_ n4_ n5_ n6_ n7_ n8_ n9_; clear hb hbox hg) | ((with_reducible refine gate_dst (N := 7) rfl ?_); refine box_event ?hg (N := 7) ?hd (cs := #[.int .i32 a3_0, .int .i32 a3_1]) (t := 24) ?hr ?_; (case hd => rfl); (case hg => rfl); (case hr => first | (go_simp; done) | (go_simp; rfl)); intro b328 hg w13 hbox hb; have n0_ := aM (bB (by (with_reducible repeat first | apply bN | apply bD | apply bA); exact BK325.out) hb); have n1_ := aM (bB (by (with_reducible repeat first | apply bN | apply bD | apply bA); exact BK326.out) hb); have n2_ := aM (bB (by (with_reducible repeat first | apply bN | apply bD | apply bA); exact BK327.out) hb); have n3_ := aM (lT (by repeat (first | (with_reducible first | exact HB.out | apply lA | apply lN | apply lD | refine lS ?_ GE325.out | refine lS ?_ GE326.out | refine lS ?_ GE327.out) | exact HB.out)) hb); have n4_ := aM (hbox); have n5_ := aM ((by rw [hg]; exact (lZ (by repeat (first | (with_reducible first | exact HB.out | apply lA | apply lN | apply lD | refine lS ?_ GE325.out | refine lS ?_ GE326.out | refine lS ?_ GE327.out) | exact HB.out))) : w.heap.size ≤ b328)); have n6_ := aM ((by rw [hg]; exact (lZ (by repeat (first | (with_reducible first | exact HB.out | apply lA | apply lN | apply lD | refine lS ?_ GE325.out | refine lS ?_ GE326.out | refine lS ?_ GE327.out) | exact HB.out))) : w.heap.size ≤ b328)); have n7_ := aM ((by rw [hg]; exact Nat.ne_of_lt (bL (g := b325) (by (with_reducible repeat first | apply bN | apply bD | apply bA); exact BK325.out)) : b325 ≠ b328)); have n8_ := aM ((by rw [hg]; exact Nat.ne_of_gt (bL (g := b325) (by (with_reducible repeat first | apply bN | apply bD | apply bA); exact BK325.out)) : b328 ≠ b325)); have n9_ := aM ((by rw [hg]; exact Nat.ne_of_lt (bL (g := b326) (by (with_reducible repeat first | apply bN | apply bD | apply bA); exact BK326.out)) : b326 ≠ b328)); have n10_ := aM ((by rw [hg]; exact Nat.ne_of_gt (bL (g := b326) (by (with_reducible repeat first | apply bN | apply bD | apply bA); exact BK326.out)) : b328 ≠ b326)); have n11_ := aM ((by rw [hg]; exact Nat.ne_of_lt (bL (g := b327) (by (with_reducible repeat first | apply bN | apply bD | apply bA); exact BK327.out)) : b327 ≠ b328)); have n12_ := aM ((by rw [hg]; exact Nat.ne_of_gt (bL (g := b327) (by (with_reducible repeat first | apply bN | apply bD | apply bA); exact BK327.out)) : b328 ≠ b327)); clear BK325; clear BK326; clear BK327; clear HB; have BK325 := n0_; have BK326 := n1_; have BK327 := n2_; have HB := n3_; have BK328 := n4_; have GW328 := n5_; have GE328 := n6_; have N6_ := n7_; have N7_ := n8_; have N8_ := n9_; have N9_ := n10_; have N10_ := n11_; have N11_ := n12_; clear n0_ n1_ n2_ n3_ n4_ n5_ n6_ n7_ n8_ n9_ n10_ n11_ n12_; clear hb hbox hg) | ((with_reducible refine gate_dst (N := 8) rfl ?_); refine box_event ?hg (N := 8) ?hd (cs := #[.int .i32 0, .int .i32 0, .int .i32 0, .int .i32 0]) (t := 55) ?hr ?_; (case hd => rfl); (case hg => rfl); (case hr => first | (go_simp; done) | (go_simp; rfl)); intro b329 hg w14 hbox hb; have n0_ := aM (bB (by (with_reducible repeat first | apply bN | apply bD | apply bA); exact BK325.out) hb); have n1_ := aM (bB (by (with_reducible repeat first | apply bN | apply bD | apply bA); exact BK326.out) hb); have n2_ := aM (bB (by (with_reducible repeat first | apply bN | apply bD | apply bA); exact BK327.out) hb); have n3_ := aM (bB (by (with_reducible repeat first | apply bN | apply bD | apply bA); exact BK328.out) hb); have n4_ := aM (lT (by repeat (first | (with_reducible first | exact HB.out | apply lA | apply lN | apply lD | refine lS ?_ GE325.out | refine lS ?_ GE326.out | refine lS ?_ GE327.out | refine lS ?_ GE328.out) | exact HB.out)) hb); have n5_ := aM (hbox); have n6_ := aM ((by rw [hg]; exact (lZ (by repeat (first | (with_reducible first | exact HB.out | apply lA | apply lN | apply lD | refine lS ?_ GE325.out | refine lS ?_ GE326.out | refine lS ?_ GE327.out | refine lS ?_ GE328.out) | exact HB.out))) : w.heap.size ≤ b329)); have n7_ := aM ((by rw [hg]; exact (lZ (by repeat (first | (with_reducible first | exact HB.out | apply lA | apply lN | apply lD | refine lS ?_ GE325.out | refine lS ?_ GE326.out | refine lS ?_ GE327.out | refine lS ?_ GE328.out) | exact HB.out))) : w.heap.size ≤ b329)); have n8_ := aM ((by rw [hg]; exact Nat.ne_of_lt (bL (g := b325) (by (with_reducible repeat first | apply bN | apply bD | apply bA); exact BK325.out)) : b325 ≠ b329)); have n9_ := aM ((by rw [hg]; exact Nat.ne_of_gt (bL (g := b325) (by (with_reducible repeat first | apply bN | apply bD | apply bA); exact BK325.out)) : b329 ≠ b325)); have n10_ := aM ((by rw [hg]; exact Nat.ne_of_lt (bL (g := b326) (by (with_reducible repeat first | apply bN | apply bD | apply bA); exact BK326.out)) : b326 ≠ b329)); have n11_ := aM ((by rw [hg]; exact Nat.ne_of_gt (bL (g := b326) (by (with_reducible repeat first | apply bN | apply bD | apply bA); exact BK326.out)) : b329 ≠ b326)); have n12_ := aM ((by rw [hg]; exact Nat.ne_of_lt (bL (g := b327) (by (with_reducible repeat first | apply bN | apply bD | apply bA); exact BK327.out)) : b327 ≠ b329)); have n13_ := aM ((by rw [hg]; exact Nat.ne_of_gt (bL (g := b327) (by (with_reducible repeat first | apply bN | apply bD | apply bA); exact BK327.out)) : b329 ≠ b327)); have n14_ := aM ((by rw [hg]; exact Nat.ne_of_lt (bL (g := b328) (by (with_reducible repeat first | apply bN | apply bD | apply bA); exact BK328.out)) : b328 ≠ b329)); have n15_ := aM ((by rw [hg]; exact Nat.ne_of_gt (bL (g := b328) (by (with_reducible repeat first | apply bN | apply bD | apply bA); exact BK328.out)) : b329 ≠ b328)); clear BK325; clear BK326; clear BK327; clear BK328; clear HB; have BK325 := n0_; have BK326 := n1_; have BK327 := n2_; have BK328 := n3_; have HB := n4_; have BK329 := n5_; have GW329 := n6_; have GE329 := n7_; have N12_ := n8_; have N13_ := n9_; have N14_ := n10_; have N15_ := n11_; have N16_ := n12_; have N17_ := n13_; have N18_ := n14_; have N19_ := n15_; clear n0_ n1_ n2_ n3_ n4_ n5_ n6_ n7_ n8_ n9_ n10_ n11_ n12_ n13_ n14_ n15_; clear hb hbox hg))
  have n0_ := aM (bD BK325.out)
  have n1_ := aM (bD BK326.out)
  have n2_ := aM (bD BK327.out)
  have n3_ := aM (bD BK328.out)
  have n4_ := aM (bD BK329.out)
  have n5_ := aM (lD HB.out)
  clear BK325
  clear BK326
  clear BK327
  clear BK328
  clear BK329
  clear HB
  have BK325 := n0_
  have BK326 := n1_
  have BK327 := n2_
  have BK328 := n3_
  have BK329 := n4_
  have HB := n5_
  clear n0_ n1_ n2_ n3_ n4_ n5_
  refine start_ (n := 26) (S := fun w' => w'.cell? ⟨b325, 0, none⟩ = some (.int .i32 a0_0) ∧ w'.cell? ⟨b325, 1, none⟩ = some (.int .i32 a0_1) ∧ w'.cell? ⟨b327, 0, none⟩ = some (.int .i32 a2_0) ∧ w'.cell? ⟨b327, 1, none⟩ = some (.int .i32 a2_1) ∧ w'.cell? ⟨b328, 0, none⟩ = some (.int .i32 a3_0) ∧ w'.cell? ⟨b328, 1, none⟩ = some (.int .i32 a3_1) ∧ w'.cell? ⟨b326, 0, none⟩ = some (.int .i32 a1_0) ∧ w'.cell? ⟨b326, 1, none⟩ = some (.int .i32 a1_1)) (ds := []) #[F,F,F,F,F,F,F,F,F,F,F,F,F,F,F,F,F,F,F,F,F,F,F,F,F,F] (by kernel_rfl) rfl rfl ⟨(bC BK325.out 0).trans rfl, (bC BK325.out 1).trans rfl, (bC BK327.out 0).trans rfl, (bC BK327.out 1).trans rfl, (bC BK328.out 0).trans rfl, (bC BK328.out 1).trans rfl, (bC BK326.out 0).trans rfl, (bC BK326.out 1).trans rfl⟩ (fun hHeld => ?_); refine with_tabW billiardref13_Chosen.tab1 billiardref13_Chosen.bits1 (fun HT_ HW_ => ?_)
  generalize w14.drew = w15 at BK325 BK326 BK327 BK328 BK329 HB hHeld ⊢
  refine take_ (i := 0) (N := some 12) (v := ?_) (a' := ?_) #[T,F,F,F,F,F,F,F,F,F,F,F,F,F,F,F,F,F,F,F,F,F,F,F,F,F] rfl rfl (take_ofW HT_.out HW_.out (by kernel_rfl)) (fun _ _ _ h => h) (Or.inl ⟨by rfl, ?_⟩) hHeld ?_ ?_
  rotate_left
  ·rintro w' ⟨s0, s1, s2, s3, s4, s5, s6, s7⟩
   go_simp
   with_reducible rfl
  rotate_left
  ·simp only [Act.put, sA, sB, sC, i64_w, i32_w]
   rfl
  refine take_ (i := 1) (N := some 13) (v := ?_) (a' := ?_) #[T,T,F,F,F,F,F,F,F,F,F,F,F,F,F,F,F,F,F,F,F,F,F,F,F,F] rfl rfl (take_ofW HT_.out HW_.out (by kernel_rfl)) (fun _ _ _ h => h) (Or.inl ⟨by rfl, ?_⟩) hHeld ?_ ?_
  rotate_left
  ·rintro w' ⟨s0, s1, s2, s3, s4, s5, s6, s7⟩
   go_simp
   with_reducible rfl
  rotate_left
  ·simp only [Act.put, sA, sB, sC, i64_w, i32_w]
   rfl
  refine take_ (i := 2) (N := some 14) (v := ?_) (a' := ?_) #[T,T,T,F,F,F,F,F,F,F,F,F,F,F,F,F,F,F,F,F,F,F,F,F,F,F] rfl rfl (take_ofW HT_.out HW_.out (by kernel_rfl)) (fun _ _ _ h => h) (Or.inl ⟨by rfl, ?_⟩) hHeld ?_ ?_
  rotate_left
  ·rintro w' ⟨s0, s1, s2, s3, s4, s5, s6, s7⟩
   go_simp
   with_reducible rfl
  rotate_left
  ·simp only [Act.put, sA, sB, sC, i64_w, i32_w]
   rfl
  refine take_ (i := 3) (N := some 15) (v := ?_) (a' := ?_) #[T,T,T,T,F,F,F,F,F,F,F,F,F,F,F,F,F,F,F,F,F,F,F,F,F,F] rfl rfl (take_ofW HT_.out HW_.out (by kernel_rfl)) (fun _ _ _ h => h) (Or.inl ⟨by rfl, ?_⟩) hHeld ?_ ?_
  rotate_left
  ·rintro w' ⟨s0, s1, s2, s3, s4, s5, s6, s7⟩
   go_simp
   with_reducible rfl
  rotate_left
  ·simp only [Act.put, sA, sB, sC, i64_w, i32_w]
   rfl
  refine take_ (i := 6) (N := some 18) (v := ?_) (a' := ?_) #[T,T,T,T,F,F,T,F,F,F,F,F,F,F,F,F,F,F,F,F,F,F,F,F,F,F] rfl rfl (take_ofW HT_.out HW_.out (by kernel_rfl)) (fun _ _ _ h => h) (Or.inl ⟨by rfl, ?_⟩) hHeld ?_ ?_
  rotate_left
  ·rintro w' ⟨s0, s1, s2, s3, s4, s5, s6, s7⟩
   go_simp
   with_reducible rfl
  rotate_left
  ·simp only [Act.put, sA, sB, sC, i64_w, i32_w]
   rfl
  refine take_ (i := 7) (N := some 19) (v := ?_) (a' := ?_) #[T,T,T,T,F,F,T,T,F,F,F,F,F,F,F,F,F,F,F,F,F,F,F,F,F,F] rfl rfl (take_ofW HT_.out HW_.out (by kernel_rfl)) (fun _ _ _ h => h) (Or.inl ⟨by rfl, ?_⟩) hHeld ?_ ?_
  rotate_left
  ·rintro w' ⟨s0, s1, s2, s3, s4, s5, s6, s7⟩
   go_simp
   with_reducible rfl
  rotate_left
  ·simp only [Act.put, sA, sB, sC, i64_w, i32_w]
   rfl
  refine take_ (i := 8) (N := some 20) (v := ?_) (a' := ?_) #[T,T,T,T,F,F,T,T,T,F,F,F,F,F,F,F,F,F,F,F,F,F,F,F,F,F] rfl rfl (take_ofW HT_.out HW_.out (by kernel_rfl)) (fun _ _ _ h => h) (Or.inl ⟨by rfl, ?_⟩) hHeld ?_ ?_
  rotate_left
  ·rintro w' ⟨s0, s1, s2, s3, s4, s5, s6, s7⟩
   go_simp
   with_reducible rfl
  rotate_left
  ·simp only [Act.put, sA, sB, sC, i64_w, i32_w]
   rfl
  refine take_ (i := 9) (N := some 21) (v := ?_) (a' := ?_) #[T,T,T,T,F,F,T,T,T,T,F,F,F,F,F,F,F,F,F,F,F,F,F,F,F,F] rfl rfl (take_ofW HT_.out HW_.out (by kernel_rfl)) (fun _ _ _ h => h) (Or.inl ⟨by rfl, ?_⟩) hHeld ?_ ?_
  rotate_left
  ·rintro w' ⟨s0, s1, s2, s3, s4, s5, s6, s7⟩
   go_simp
   with_reducible rfl
  rotate_left
  ·simp only [Act.put, sA, sB, sC, i64_w, i32_w]
   rfl
  refine take_ (i := 12) (N := some 24) (v := ?_) (a' := ?_) #[T,T,T,T,F,F,T,T,T,T,F,F,T,F,F,F,F,F,F,F,F,F,F,F,F,F] rfl rfl (take_ofW HT_.out HW_.out (by kernel_rfl)) (fun _ _ _ h => h) (Or.inl ⟨by rfl, ?_⟩) hHeld ?_ ?_
  rotate_left
  ·rintro w' ⟨s0, s1, s2, s3, s4, s5, s6, s7⟩
   go_simp
   with_reducible rfl
  rotate_left
  ·simp only [Act.put, sA, sB, sC, i64_w, i32_w]
   rfl
  refine take_ (i := 13) (N := some 25) (v := ?_) (a' := ?_) #[T,T,T,T,F,F,T,T,T,T,F,F,T,T,F,F,F,F,F,F,F,F,F,F,F,F] rfl rfl (take_ofW HT_.out HW_.out (by kernel_rfl)) (fun _ _ _ h => h) (Or.inl ⟨by rfl, ?_⟩) hHeld ?_ ?_
  rotate_left
  ·rintro w' ⟨s0, s1, s2, s3, s4, s5, s6, s7⟩
   go_simp
   with_reducible rfl
  rotate_left
  ·simp only [Act.put, sA, sB, sC, i64_w, i32_w]
   rfl
  refine take_ (i := 14) (N := some 26) (v := ?_) (a' := ?_) #[T,T,T,T,F,F,T,T,T,T,F,F,T,T,T,F,F,F,F,F,F,F,F,F,F,F] rfl rfl (take_ofW HT_.out HW_.out (by kernel_rfl)) (fun _ _ _ h => h) (Or.inl ⟨by rfl, ?_⟩) hHeld ?_ ?_
  rotate_left
  ·rintro w' ⟨s0, s1, s2, s3, s4, s5, s6, s7⟩
   go_simp
   with_reducible rfl
  rotate_left
  ·simp only [Act.put, sA, sB, sC, i64_w, i32_w]
   rfl
  refine take_ (i := 16) (N := some 28) (v := ?_) (a' := ?_) #[T,T,T,T,F,F,T,T,T,T,F,F,T,T,T,F,T,F,F,F,F,F,F,F,F,F] rfl rfl (take_ofW HT_.out HW_.out (by kernel_rfl)) (fun _ _ _ h => h) (Or.inl ⟨by rfl, ?_⟩) hHeld ?_ ?_
  rotate_left
  ·rintro w' ⟨s0, s1, s2, s3, s4, s5, s6, s7⟩
   go_simp
   with_reducible rfl
  rotate_left
  ·simp only [Act.put, sA, sB, sC, i64_w, i32_w]
   rfl
  refine take_ (i := 18) (N := some 30) (v := ?_) (a' := ?_) #[T,T,T,T,F,F,T,T,T,T,F,F,T,T,T,F,T,F,T,F,F,F,F,F,F,F] rfl rfl (take_ofW HT_.out HW_.out (by kernel_rfl)) (fun _ _ _ h => h) (Or.inl ⟨by rfl, ?_⟩) hHeld ?_ ?_
  rotate_left
  ·rintro w' ⟨s0, s1, s2, s3, s4, s5, s6, s7⟩
   go_simp
   with_reducible rfl
  rotate_left
  ·simp only [Act.put, sA, sB, sC, i64_w, i32_w]
   rfl
  refine take_ (i := 19) (N := some 31) (v := ?_) (a' := ?_) #[T,T,T,T,F,F,T,T,T,T,F,F,T,T,T,F,T,F,T,T,F,F,F,F,F,F] rfl rfl (take_ofW HT_.out HW_.out (by kernel_rfl)) (fun _ _ _ h => h) (Or.inl ⟨by rfl, ?_⟩) hHeld ?_ ?_
  rotate_left
  ·rintro w' ⟨s0, s1, s2, s3, s4, s5, s6, s7⟩
   go_simp
   with_reducible rfl
  rotate_left
  ·simp only [Act.put, sA, sB, sC, i64_w, i32_w]
   rfl
  refine take_ (i := 20) (N := some 32) (v := ?_) (a' := ?_) #[T,T,T,T,F,F,T,T,T,T,F,F,T,T,T,F,T,F,T,T,T,F,F,F,F,F] rfl rfl (take_ofW HT_.out HW_.out (by kernel_rfl)) (fun _ _ _ h => h) (Or.inl ⟨by rfl, ?_⟩) hHeld ?_ ?_
  rotate_left
  ·rintro w' ⟨s0, s1, s2, s3, s4, s5, s6, s7⟩
   go_simp
   with_reducible rfl
  rotate_left
  ·simp only [Act.put, sA, sB, sC, i64_w, i32_w]
   rfl
  refine take_ (i := 22) (N := some 34) (v := ?_) (a' := ?_) #[T,T,T,T,F,F,T,T,T,T,F,F,T,T,T,F,T,F,T,T,T,F,T,F,F,F] rfl rfl (take_ofW HT_.out HW_.out (by kernel_rfl)) (fun _ _ _ h => h) (Or.inl ⟨by rfl, ?_⟩) hHeld ?_ ?_
  rotate_left
  ·rintro w' ⟨s0, s1, s2, s3, s4, s5, s6, s7⟩
   go_simp
   with_reducible rfl
  rotate_left
  ·simp only [Act.put, sA, sB, sC, i64_w, i32_w]
   rfl
  refine one_ (i := 4) (N := some 16) #[T,T,T,T,T,F,T,T,T,T,F,F,T,T,T,F,T,F,T,T,T,F,T,F,F,F] rfl rfl (one_of HT_.out (by kernel_rfl)) (by decide) (fun K hK => ?_)
  refine goes_ Try.func44 (by kernel_rfl) rfl #[.agg #[.int .i32 a2_0, .int .i32 a2_1], .agg #[.int .i32 a3_0, .int .i32 a3_1], .agg #[.int .i32 a0_0, .int .i32 a0_1]] (by rfl) rfl rfl (by (try simp only [List.map_toArray, List.map_cons, List.map_nil]); first | done | rfl | (simp only [List.length_drop, List.length_take]; rfl)) ?_
  with_reducible refine (billiardref12_Nearest.calls a2_0 a2_1 a3_0 a3_1 a0_0 a0_1 t330 t331 _ A5.out).mono ?_
  rintro e w16 ⟨rfl, hb⟩
  refine ⟨_, rfl, ?_⟩
  have n0_ := aM (bB (by (with_reducible repeat first | apply bN | apply bD | apply bA); exact BK325.out) hb)
  have n1_ := aM (bB (by (with_reducible repeat first | apply bN | apply bD | apply bA); exact BK326.out) hb)
  have n2_ := aM (bB (by (with_reducible repeat first | apply bN | apply bD | apply bA); exact BK327.out) hb)
  have n3_ := aM (bB (by (with_reducible repeat first | apply bN | apply bD | apply bA); exact BK328.out) hb)
  have n4_ := aM (bB (by (with_reducible repeat first | apply bN | apply bD | apply bA); exact BK329.out) hb)
  have n5_ := aM (lT (by repeat (first | (with_reducible first | exact HB.out | apply lA | apply lN | apply lD | refine lS ?_ GE325.out | refine lS ?_ GE326.out | refine lS ?_ GE327.out | refine lS ?_ GE328.out | refine lS ?_ GE329.out) | exact HB.out)) hb)
  clear BK325
  clear BK326
  clear BK327
  clear BK328
  clear BK329
  clear HB
  have BK325 := n0_
  have BK326 := n1_
  have BK327 := n2_
  have BK328 := n3_
  have BK329 := n4_
  have HB := n5_
  clear n0_ n1_ n2_ n3_ n4_ n5_
  (try clear hb)
  (try clear hb2)
  (try clear hk)
  (try clear hi)
  refine hK.out _ _ ⟨(bC BK325.out 0).trans rfl, (bC BK325.out 1).trans rfl, (bC BK327.out 0).trans rfl, (bC BK327.out 1).trans rfl, (bC BK328.out 0).trans rfl, (bC BK328.out 1).trans rfl, (bC BK326.out 0).trans rfl, (bC BK326.out 1).trans rfl⟩ (fun hHeld => ?_)
  clear hK K
  refine norm_ (a' := ?_) ?_ ?_
  rotate_left
  ·show Act.put _ (some 16) _ = _
   simp only [Act.put, sA, sB, sC, i64_w, i32_w]
   rfl
  refine pure_ (i := 5) (N := some 17) (v := ?_) (a' := ?_) #[T,T,T,T,T,T,T,T,T,T,F,F,T,T,T,F,T,F,T,T,T,F,T,F,F,F] rfl rfl (any_of HT_.out (by kernel_rfl)) (fun _ _ _ h => h) (Or.inl ⟨by rfl, ?_⟩) ?_ ?_
  rotate_left
  ·intro w'
   go_simp
   with_reducible rfl
  rotate_left
  ·simp only [Act.put, sA, sB, sC, i64_w, i32_w]
   rfl
  refine one_ (i := 10) (N := some 22) #[T,T,T,T,T,T,T,T,T,T,T,F,T,T,T,F,T,F,T,T,T,F,T,F,F,F] rfl rfl (one_of HT_.out (by kernel_rfl)) (by decide) (fun K hK => ?_)
  refine goes_ Try.func44 (by kernel_rfl) rfl #[.agg #[.int .i32 a2_0, .int .i32 a2_1], .agg #[.int .i32 a3_0, .int .i32 a3_1], .agg #[.int .i32 a1_0, .int .i32 a1_1]] (by rfl) rfl rfl (by (try simp only [List.map_toArray, List.map_cons, List.map_nil]); first | done | rfl | (simp only [List.length_drop, List.length_take]; rfl)) ?_
  with_reducible refine (billiardref12_Nearest.calls a2_0 a2_1 a3_0 a3_1 a1_0 a1_1 t332 t333 _ A6.out).mono ?_
  rintro e w17 ⟨rfl, hb⟩
  refine ⟨_, rfl, ?_⟩
  have n0_ := aM (bB (by (with_reducible repeat first | apply bN | apply bD | apply bA); exact BK325.out) hb)
  have n1_ := aM (bB (by (with_reducible repeat first | apply bN | apply bD | apply bA); exact BK326.out) hb)
  have n2_ := aM (bB (by (with_reducible repeat first | apply bN | apply bD | apply bA); exact BK327.out) hb)
  have n3_ := aM (bB (by (with_reducible repeat first | apply bN | apply bD | apply bA); exact BK328.out) hb)
  have n4_ := aM (bB (by (with_reducible repeat first | apply bN | apply bD | apply bA); exact BK329.out) hb)
  have n5_ := aM (lT (by repeat (first | (with_reducible first | exact HB.out | apply lA | apply lN | apply lD | refine lS ?_ GE325.out | refine lS ?_ GE326.out | refine lS ?_ GE327.out | refine lS ?_ GE328.out | refine lS ?_ GE329.out) | exact HB.out)) hb)
  clear BK325
  clear BK326
  clear BK327
  clear BK328
  clear BK329
  clear HB
  have BK325 := n0_
  have BK326 := n1_
  have BK327 := n2_
  have BK328 := n3_
  have BK329 := n4_
  have HB := n5_
  clear n0_ n1_ n2_ n3_ n4_ n5_
  (try clear hb)
  (try clear hb2)
  (try clear hk)
  (try clear hi)
  refine hK.out _ _ ⟨(bC BK325.out 0).trans rfl, (bC BK325.out 1).trans rfl, (bC BK327.out 0).trans rfl, (bC BK327.out 1).trans rfl, (bC BK328.out 0).trans rfl, (bC BK328.out 1).trans rfl, (bC BK326.out 0).trans rfl, (bC BK326.out 1).trans rfl⟩ (fun hHeld => ?_)
  clear hK K
  refine norm_ (a' := ?_) ?_ ?_
  rotate_left
  ·show Act.put _ (some 22) _ = _
   simp only [Act.put, sA, sB, sC, i64_w, i32_w]
   rfl
  refine pure_ (i := 11) (N := some 23) (v := ?_) (a' := ?_) #[T,T,T,T,T,T,T,T,T,T,T,T,T,T,T,F,T,F,T,T,T,F,T,F,F,F] rfl rfl (any_of HT_.out (by kernel_rfl)) (fun _ _ _ h => h) (Or.inl ⟨by rfl, ?_⟩) ?_ ?_
  rotate_left
  ·intro w'
   go_simp
   with_reducible rfl
  rotate_left
  ·simp only [Act.put, sA, sB, sC, i64_w, i32_w]
   rfl
  refine one_ (i := 15) (N := some 27) #[T,T,T,T,T,T,T,T,T,T,T,T,T,T,T,T,T,F,T,T,T,F,T,F,F,F] rfl rfl (one_of HT_.out (by kernel_rfl)) (by decide) (fun K hK => ?_)
  refine goes_ Try.func44 (by kernel_rfl) rfl #[.agg #[.int .i32 a0_0, .int .i32 a0_1], .agg #[.int .i32 a1_0, .int .i32 a1_1], .agg #[.int .i32 a2_0, .int .i32 a2_1]] (by rfl) rfl rfl (by (try simp only [List.map_toArray, List.map_cons, List.map_nil]); first | done | rfl | (simp only [List.length_drop, List.length_take]; rfl)) ?_
  with_reducible refine (billiardref12_Nearest.calls a0_0 a0_1 a1_0 a1_1 a2_0 a2_1 t334 t335 _ A7.out).mono ?_
  rintro e w18 ⟨rfl, hb⟩
  refine ⟨_, rfl, ?_⟩
  have n0_ := aM (bB (by (with_reducible repeat first | apply bN | apply bD | apply bA); exact BK325.out) hb)
  have n1_ := aM (bB (by (with_reducible repeat first | apply bN | apply bD | apply bA); exact BK326.out) hb)
  have n2_ := aM (bB (by (with_reducible repeat first | apply bN | apply bD | apply bA); exact BK327.out) hb)
  have n3_ := aM (bB (by (with_reducible repeat first | apply bN | apply bD | apply bA); exact BK328.out) hb)
  have n4_ := aM (bB (by (with_reducible repeat first | apply bN | apply bD | apply bA); exact BK329.out) hb)
  have n5_ := aM (lT (by repeat (first | (with_reducible first | exact HB.out | apply lA | apply lN | apply lD | refine lS ?_ GE325.out | refine lS ?_ GE326.out | refine lS ?_ GE327.out | refine lS ?_ GE328.out | refine lS ?_ GE329.out) | exact HB.out)) hb)
  clear BK325
  clear BK326
  clear BK327
  clear BK328
  clear BK329
  clear HB
  have BK325 := n0_
  have BK326 := n1_
  have BK327 := n2_
  have BK328 := n3_
  have BK329 := n4_
  have HB := n5_
  clear n0_ n1_ n2_ n3_ n4_ n5_
  (try clear hb)
  (try clear hb2)
  (try clear hk)
  (try clear hi)
  refine hK.out _ _ ⟨(bC BK325.out 0).trans rfl, (bC BK325.out 1).trans rfl, (bC BK327.out 0).trans rfl, (bC BK327.out 1).trans rfl, (bC BK328.out 0).trans rfl, (bC BK328.out 1).trans rfl, (bC BK326.out 0).trans rfl, (bC BK326.out 1).trans rfl⟩ (fun hHeld => ?_)
  clear hK K
  refine norm_ (a' := ?_) ?_ ?_
  rotate_left
  ·show Act.put _ (some 27) _ = _
   simp only [Act.put, sA, sB, sC, i64_w, i32_w]
   rfl
  refine pure_ (i := 17) (N := some 29) (v := ?_) (a' := ?_) #[T,T,T,T,T,T,T,T,T,T,T,T,T,T,T,T,T,T,T,T,T,F,T,F,F,F] rfl rfl (any_of HT_.out (by kernel_rfl)) (fun _ _ _ h => h) (Or.inl ⟨by rfl, ?_⟩) ?_ ?_
  rotate_left
  ·intro w'
   go_simp
   with_reducible rfl
  rotate_left
  ·simp only [Act.put, sA, sB, sC, i64_w, i32_w]
   rfl
  refine one_ (i := 21) (N := some 33) #[T,T,T,T,T,T,T,T,T,T,T,T,T,T,T,T,T,T,T,T,T,T,T,F,F,F] rfl rfl (one_of HT_.out (by kernel_rfl)) (by decide) (fun K hK => ?_)
  refine goes_ Try.func44 (by kernel_rfl) rfl #[.agg #[.int .i32 a0_0, .int .i32 a0_1], .agg #[.int .i32 a1_0, .int .i32 a1_1], .agg #[.int .i32 a3_0, .int .i32 a3_1]] (by rfl) rfl rfl (by (try simp only [List.map_toArray, List.map_cons, List.map_nil]); first | done | rfl | (simp only [List.length_drop, List.length_take]; rfl)) ?_
  with_reducible refine (billiardref12_Nearest.calls a0_0 a0_1 a1_0 a1_1 a3_0 a3_1 t336 t337 _ A8.out).mono ?_
  rintro e w19 ⟨rfl, hb⟩
  refine ⟨_, rfl, ?_⟩
  have n0_ := aM (bB (by (with_reducible repeat first | apply bN | apply bD | apply bA); exact BK325.out) hb)
  have n1_ := aM (bB (by (with_reducible repeat first | apply bN | apply bD | apply bA); exact BK326.out) hb)
  have n2_ := aM (bB (by (with_reducible repeat first | apply bN | apply bD | apply bA); exact BK327.out) hb)
  have n3_ := aM (bB (by (with_reducible repeat first | apply bN | apply bD | apply bA); exact BK328.out) hb)
  have n4_ := aM (bB (by (with_reducible repeat first | apply bN | apply bD | apply bA); exact BK329.out) hb)
  have n5_ := aM (lT (by repeat (first | (with_reducible first | exact HB.out | apply lA | apply lN | apply lD | refine lS ?_ GE325.out | refine lS ?_ GE326.out | refine lS ?_ GE327.out | refine lS ?_ GE328.out | refine lS ?_ GE329.out) | exact HB.out)) hb)
  clear BK325
  clear BK326
  clear BK327
  clear BK328
  clear BK329
  clear HB
  have BK325 := n0_
  have BK326 := n1_
  have BK327 := n2_
  have BK328 := n3_
  have BK329 := n4_
  have HB := n5_
  clear n0_ n1_ n2_ n3_ n4_ n5_
  (try clear hb)
  (try clear hb2)
  (try clear hk)
  (try clear hi)
  refine hK.out _ _ ⟨(bC BK325.out 0).trans rfl, (bC BK325.out 1).trans rfl, (bC BK327.out 0).trans rfl, (bC BK327.out 1).trans rfl, (bC BK328.out 0).trans rfl, (bC BK328.out 1).trans rfl, (bC BK326.out 0).trans rfl, (bC BK326.out 1).trans rfl⟩ (fun hHeld => ?_)
  clear hK K
  refine norm_ (a' := ?_) ?_ ?_
  rotate_left
  ·show Act.put _ (some 33) _ = _
   simp only [Act.put, sA, sB, sC, i64_w, i32_w]
   rfl
  refine pure_ (i := 23) (N := some 35) (v := ?_) (a' := ?_) #[T,T,T,T,T,T,T,T,T,T,T,T,T,T,T,T,T,T,T,T,T,T,T,T,F,F] rfl rfl (any_of HT_.out (by kernel_rfl)) (fun _ _ _ h => h) (Or.inl ⟨by rfl, ?_⟩) ?_ ?_
  rotate_left
  ·intro w'
   go_simp
   with_reducible rfl
  rotate_left
  ·simp only [Act.put, sA, sB, sC, i64_w, i32_w]
   rfl
  refine one_ (i := 24) (N := some 36) #[T,T,T,T,T,T,T,T,T,T,T,T,T,T,T,T,T,T,T,T,T,T,T,T,T,F] rfl rfl (one_of HT_.out (by kernel_rfl)) (by decide) (fun K hK => ?_)
  refine Kd.R_lit_step k55 _ 55 ?hg (N := 36) ?hd (xs := ([(⟨(⟨a0_0, a0_1⟩ : S24), (⟨t330, t331⟩ : S24)⟩ : S55), (⟨(⟨a1_0, a1_1⟩ : S24), (⟨t332, t333⟩ : S24)⟩ : S55), (⟨(⟨t334, t335⟩ : S24), (⟨a2_0, a2_1⟩ : S24)⟩ : S55), (⟨(⟨t336, t337⟩ : S24), (⟨a3_0, a3_1⟩ : S24)⟩ : S55)] : List (S55))) (inner := [.int .i32 a0_0, .int .i32 a0_1, .int .i32 t330, .int .i32 t331, .int .i32 a1_0, .int .i32 a1_1, .int .i32 t332, .int .i32 t333, .int .i32 t334, .int .i32 t335, .int .i32 a2_0, .int .i32 a2_1, .int .i32 t336, .int .i32 t337, .int .i32 a3_0, .int .i32 a3_1]) (ok := fun _ => True) (okp := fun _ => True) ?hr ?hp (fun _ hk => hk) trivial (Below.refl _ _) (Nat.le_refl _) (by simp) ?_; (case hd => rfl); (case hg => rfl); (case hr => first | (go_simp; done) | (go_simp; rfl)); (case hp => exact (Reps.c4 (show Kd.M k55 _ _ _ (⟨(⟨a0_0, a0_1⟩ : S24), (⟨t330, t331⟩ : S24)⟩ : S55) [.int .i32 a0_0, .int .i32 a0_1, .int .i32 t330, .int .i32 t331] from (k55_mkM _ _ _ (⟨(⟨a0_0, a0_1⟩ : S24), (⟨t330, t331⟩ : S24)⟩ : S55) )) (Reps.c4 (show Kd.M k55 _ _ _ (⟨(⟨a1_0, a1_1⟩ : S24), (⟨t332, t333⟩ : S24)⟩ : S55) [.int .i32 a1_0, .int .i32 a1_1, .int .i32 t332, .int .i32 t333] from (k55_mkM _ _ _ (⟨(⟨a1_0, a1_1⟩ : S24), (⟨t332, t333⟩ : S24)⟩ : S55) )) (Reps.c4 (show Kd.M k55 _ _ _ (⟨(⟨t334, t335⟩ : S24), (⟨a2_0, a2_1⟩ : S24)⟩ : S55) [.int .i32 t334, .int .i32 t335, .int .i32 a2_0, .int .i32 a2_1] from (k55_mkM _ _ _ (⟨(⟨t334, t335⟩ : S24), (⟨a2_0, a2_1⟩ : S24)⟩ : S55) )) (Reps.c4 (show Kd.M k55 _ _ _ (⟨(⟨t336, t337⟩ : S24), (⟨a3_0, a3_1⟩ : S24)⟩ : S55) [.int .i32 t336, .int .i32 t337, .int .i32 a3_0, .int .i32 a3_1] from (k55_mkM _ _ _ (⟨(⟨t336, t337⟩ : S24), (⟨a3_0, a3_1⟩ : S24)⟩ : S55) )) (Reps.none _ _))))))
  intro v339 w20 ho21 hb hg_ hnew_
  clear hg_ hnew_
  (first | rw [← Ny338.out] at ho21 | (simp only [Int.reduceToNat] at ho21; rw [← Ny338.out] at ho21))
  have n0_ := aM (Kd.R_lower (Kd.R_newB ho21 (g := b329) (o := .cells #[.int .i32 0, .int .i32 0, .int .i32 0, .int .i32 0] 55 (0, 0)) (by (with_reducible repeat first | apply bN | apply bD | apply bA); exact BK329.out)) (lZ (by repeat (first | (with_reducible first | exact HB.out | apply lA | apply lN | apply lD | refine lS ?_ GE325.out | refine lS ?_ GE326.out | refine lS ?_ GE327.out | refine lS ?_ GE328.out | refine lS ?_ GE329.out) | exact HB.out))))
  have n1_ := aM (bB (by (with_reducible repeat first | apply bN | apply bD | apply bA); exact BK325.out) hb)
  have n2_ := aM (bB (by (with_reducible repeat first | apply bN | apply bD | apply bA); exact BK326.out) hb)
  have n3_ := aM (bB (by (with_reducible repeat first | apply bN | apply bD | apply bA); exact BK327.out) hb)
  have n4_ := aM (bB (by (with_reducible repeat first | apply bN | apply bD | apply bA); exact BK328.out) hb)
  have n5_ := aM (bB (by (with_reducible repeat first | apply bN | apply bD | apply bA); exact BK329.out) hb)
  have n6_ := aM (lT (by repeat (first | (with_reducible first | exact HB.out | apply lA | apply lN | apply lD | refine lS ?_ GE325.out | refine lS ?_ GE326.out | refine lS ?_ GE327.out | refine lS ?_ GE328.out | refine lS ?_ GE329.out) | exact HB.out)) hb)
  clear BK325
  clear BK326
  clear BK327
  clear BK328
  clear BK329
  clear HB
  have HO340 := n0_
  have BK325 := n1_
  have BK326 := n2_
  have BK327 := n3_
  have BK328 := n4_
  have BK329 := n5_
  have HB := n6_
  clear n0_ n1_ n2_ n3_ n4_ n5_ n6_
  clear hb ho21
  refine hK.out _ _ ⟨(bC BK325.out 0).trans rfl, (bC BK325.out 1).trans rfl, (bC BK327.out 0).trans rfl, (bC BK327.out 1).trans rfl, (bC BK328.out 0).trans rfl, (bC BK328.out 1).trans rfl, (bC BK326.out 0).trans rfl, (bC BK326.out 1).trans rfl⟩ (fun hHeld => ?_)
  clear hK K
  refine norm_ (a' := ?_) ?_ ?_
  rotate_left
  ·show Act.put _ (some 36) _ = _
   simp only [Act.put, sA, sB, sC, i64_w, i32_w]
   rfl
  refine pure_ (i := 25) (N := some 9) (v := ?_) (a' := ?_) #[T,T,T,T,T,T,T,T,T,T,T,T,T,T,T,T,T,T,T,T,T,T,T,T,T,T] rfl rfl (any_of HT_.out (by kernel_rfl)) (fun _ _ _ h => h) (Or.inl ⟨by rfl, ?_⟩) ?_ ?_
  rotate_left
  ·intro w'
   go_simp
   with_reducible rfl
  rotate_left
  ·simp only [Act.put, sA, sB, sC, i64_w, i32_w]
   rfl
  refine done_ (done_of HT_.out (by kernel_rfl)) ?_
  obtain ⟨Ao22, co22, eo22⟩ := Kd.R_slice HO340.out
  subst eo22
  have p341 : 0 ≤ (0 : Int) := (by omega)
  have q341 : 0 < (y338.length : Int) := of_decide_eq_true (by first | (with_reducible assumption) | assumption)
  obtain ⟨ad341, e341, hx341_0, hx341_1, hx341_2, hx341_3⟩ := at_T55 (Kd.R_reads' HO340.out).2.2 0 p341 q341
  cases e341
  have qi341 : (0 < y338.length) = True := eq_true (by omega)
  (try rw [show ((0 : Int)).toNat = 0 from rfl] at hx341_0)
  (try rw [show 0 * 4 = 0 from rfl] at hx341_0)
  (try rw [Addr.add_zero'] at hx341_0)
  (try rw [show ((0 : Int)).toNat = 0 from rfl] at hx341_1)
  (try rw [show 0 * 4 = 0 from rfl] at hx341_1)
  (try rw [Addr.add_zero'] at hx341_1)
  (try rw [show ((0 : Int)).toNat = 0 from rfl] at hx341_2)
  (try rw [show 0 * 4 = 0 from rfl] at hx341_2)
  (try rw [Addr.add_zero'] at hx341_2)
  (try rw [show ((0 : Int)).toNat = 0 from rfl] at hx341_3)
  (try rw [show 0 * 4 = 0 from rfl] at hx341_3)
  (try rw [Addr.add_zero'] at hx341_3)
  replace p341 := eq_true p341
  replace q341 := eq_true q341
  try go_wp2_with (first | ((with_reducible refine gate_dst (N := 10) rfl ?_); refine box_event ?hg (N := 10) ?hd (cs := #[.int .i32 0, .int .i32 0, .int .i32 0, .int .i32 0]) (t := 55) ?hr ?_; (case hd => rfl); (case hg => rfl); (case hr => first | (go_simp; done) | (go_simp; rfl)); intro b342 hg w23 hbox hb; have n0_ := aM (Kd.R_below (Kd.R_elderB (by (with_reducible repeat (first | apply Kd.R_alloc | apply Kd.R_drewN | apply Kd.R_drew)); exact HO340.out) b342 (Nat.le_of_eq hg.symm)) hb); have n1_ := aM (bB (by (with_reducible repeat first | apply bN | apply bD | apply bA); exact BK325.out) hb); have n2_ := aM (bB (by (with_reducible repeat first | apply bN | apply bD | apply bA); exact BK326.out) hb); have n3_ := aM (bB (by (with_reducible repeat first | apply bN | apply bD | apply bA); exact BK327.out) hb); have n4_ := aM (bB (by (with_reducible repeat first | apply bN | apply bD | apply bA); exact BK328.out) hb); have n5_ := aM (bB (by (with_reducible repeat first | apply bN | apply bD | apply bA); exact BK329.out) hb); have n6_ := aM (lT (by repeat (first | (with_reducible first | exact HB.out | apply lA | apply lN | apply lD | refine lS ?_ GE325.out | refine lS ?_ GE326.out | refine lS ?_ GE327.out | refine lS ?_ GE328.out | refine lS ?_ GE329.out) | exact HB.out)) hb); have n7_ := aM (hbox); have n8_ := aM ((by rw [hg]; exact (lZ (by repeat (first | (with_reducible first | exact HB.out | apply lA | apply lN | apply lD | refine lS ?_ GE325.out | refine lS ?_ GE326.out | refine lS ?_ GE327.out | refine lS ?_ GE328.out | refine lS ?_ GE329.out) | exact HB.out))) : w.heap.size ≤ b342)); have n9_ := aM ((by rw [hg]; exact (lZ (by repeat (first | (with_reducible first | exact HB.out | apply lA | apply lN | apply lD | refine lS ?_ GE325.out | refine lS ?_ GE326.out | refine lS ?_ GE327.out | refine lS ?_ GE328.out | refine lS ?_ GE329.out) | exact HB.out))) : w.heap.size ≤ b342)); have n10_ := aM ((by rw [hg]; exact Nat.ne_of_lt (bL (g := b325) (by (with_reducible repeat first | apply bN | apply bD | apply bA); exact BK325.out)) : b325 ≠ b342)); have n11_ := aM ((by rw [hg]; exact Nat.ne_of_gt (bL (g := b325) (by (with_reducible repeat first | apply bN | apply bD | apply bA); exact BK325.out)) : b342 ≠ b325)); have n12_ := aM ((by rw [hg]; exact Nat.ne_of_lt (bL (g := b326) (by (with_reducible repeat first | apply bN | apply bD | apply bA); exact BK326.out)) : b326 ≠ b342)); have n13_ := aM ((by rw [hg]; exact Nat.ne_of_gt (bL (g := b326) (by (with_reducible repeat first | apply bN | apply bD | apply bA); exact BK326.out)) : b342 ≠ b326)); have n14_ := aM ((by rw [hg]; exact Nat.ne_of_lt (bL (g := b327) (by (with_reducible repeat first | apply bN | apply bD | apply bA); exact BK327.out)) : b327 ≠ b342)); have n15_ := aM ((by rw [hg]; exact Nat.ne_of_gt (bL (g := b327) (by (with_reducible repeat first | apply bN | apply bD | apply bA); exact BK327.out)) : b342 ≠ b327)); have n16_ := aM ((by rw [hg]; exact Nat.ne_of_lt (bL (g := b328) (by (with_reducible repeat first | apply bN | apply bD | apply bA); exact BK328.out)) : b328 ≠ b342)); have n17_ := aM ((by rw [hg]; exact Nat.ne_of_gt (bL (g := b328) (by (with_reducible repeat first | apply bN | apply bD | apply bA); exact BK328.out)) : b342 ≠ b328)); have n18_ := aM ((by rw [hg]; exact Nat.ne_of_lt (bL (g := b329) (by (with_reducible repeat first | apply bN | apply bD | apply bA); exact BK329.out)) : b329 ≠ b342)); have n19_ := aM ((by rw [hg]; exact Nat.ne_of_gt (bL (g := b329) (by (with_reducible repeat first | apply bN | apply bD | apply bA); exact BK329.out)) : b342 ≠ b329)); clear HO340; clear BK325; clear BK326; clear BK327; clear BK328; clear BK329; clear HB; have HO340 := n0_; have BK325 := n1_; have BK326 := n2_; have BK327 := n3_; have BK328 := n4_; have BK329 := n5_; have HB := n6_; have BK342 := n7_; have GW342 := n8_; have GE342 := n9_; have N20_ := n10_; have N21_ := n11_; have N22_ := n12_; have N23_ := n13_; have N24_ := n14_; have N25_ := n15_; have N26_ := n16_; have N27_ := n17_; have N28_ := n18_; have N29_ := n19_; clear n0_ n1_ n2_ n3_ n4_ n5_ n6_ n7_ n8_ n9_ n10_ n11_ n12_ n13_ n14_ n15_ n16_ n17_ n18_ n19_; clear hb hbox hg; have hnb24 := N21_.out; have hnc24 := N20_.out; have hnb25 := N23_.out; have hnc25 := N22_.out; have hnb26 := N25_.out; have hnc26 := N24_.out; have hnb27 := N27_.out; have hnc27 := N26_.out; have hnb28 := N29_.out; have hnc28 := N28_.out; have hcz29_0 : w23.cell? ⟨b342, 0, none⟩ = some (.int .i32 0) := (bC BK342.out 0).trans rfl; have hcz29_1 : w23.cell? ⟨b342, 1, none⟩ = some (.int .i32 0) := (bC BK342.out 1).trans rfl; have hcz29_2 : w23.cell? ⟨b342, 2, none⟩ = some (.int .i32 0) := (bC BK342.out 2).trans rfl; have hcz29_3 : w23.cell? ⟨b342, 3, none⟩ = some (.int .i32 0) := (bC BK342.out 3).trans rfl; have hfz29_0 := bF BK342.out 0; have hfz29_1 := bF BK342.out 1; have hfz29_2 := bF BK342.out 2; have hfz29_3 := bF BK342.out 3))
  go_loopg [11] k (fun kq v11 w' => ∃ (x11_1 : Int) (x343000_1 : Int) (x343001_1 : Int) (x343002_1 : Int) (x343003_1 : Int), v11 = .int .i64 x11_1 ∧ Aside0 (billiardref13_Chosen.l0 kq y338 x11_1 x343000_1 x343001_1 x343002_1 x343003_1 = some (r1, r2, r3, r4)) ∧ Aside0 (kq ≤ k) ∧ Aside0 (Kd.R k55 55 w' w.heap.size (fun k_ => k_ ≠ b329 ∧ k_ ≠ b342) (.slice (some ad341) y338.length co22) y338) ∧ Aside0 (w'.heap[b325]? = some (.cells #[.int .i32 a0_0, .int .i32 a0_1] 24 (0, 0))) ∧ Aside0 (w'.heap[b326]? = some (.cells #[.int .i32 a1_0, .int .i32 a1_1] 24 (0, 0))) ∧ Aside0 (w'.heap[b327]? = some (.cells #[.int .i32 a2_0, .int .i32 a2_1] 24 (0, 0))) ∧ Aside0 (w'.heap[b328]? = some (.cells #[.int .i32 a3_0, .int .i32 a3_1] 24 (0, 0))) ∧ Aside0 (w'.heap[b329]? = some (.cells #[.int .i32 0, .int .i32 0, .int .i32 0, .int .i32 0] 55 (0, 0))) ∧ Aside0 (w'.heap[b342]? = some (.cells #[.int .i32 x343000_1, .int .i32 x343001_1, .int .i32 x343002_1, .int .i32 x343003_1] 55 (0, 0))) ∧ Aside0 (Below w.heap.size w w'))
  case atStart => exact ⟨(1), ((rd_T55 y338 0).f0.f0), ((rd_T55 y338 0).f0.f1), ((rd_T55 y338 0).f1.f0), ((rd_T55 y338 0).f1.f1), (by first | rfl | (simp; done) | (simp [*]; done)), H', ⟨Nat.le_refl _⟩, ⟨by (with_reducible repeat (first | apply Kd.R_alloc | apply Kd.R_drewN | apply Kd.R_drew)); exact Kd.R_mono (Kd.R_far (p := ⟨b342, 3, none⟩) (Kd.R_far (p := ⟨b342, 2, none⟩) (Kd.R_far (p := ⟨b342, 1, none⟩) (Kd.R_far (p := ⟨b342, 0, none⟩) (Kd.R_mono HO340.out (fun k_ hk => (⟨hk, hk.2⟩ : _ ∧ k_ ≠ b342))) (fun _ hk => hk.2) (.int .i32 ((rd_T55 y338 0).f0.f0))) (fun _ hk => hk.2) (.int .i32 ((rd_T55 y338 0).f0.f1))) (fun _ hk => hk.2) (.int .i32 ((rd_T55 y338 0).f1.f0))) (fun _ hk => hk.2) (.int .i32 ((rd_T55 y338 0).f1.f1))) (fun _ hk => ⟨hk.1.1.2, hk.1.2⟩)⟩, ⟨by (with_reducible repeat first | apply bN | apply bD | apply bA); refine bR ?_ N20_.out _; (with_reducible repeat first | apply bN | apply bD | apply bA); refine bR ?_ N20_.out _; (with_reducible repeat first | apply bN | apply bD | apply bA); refine bR ?_ N20_.out _; (with_reducible repeat first | apply bN | apply bD | apply bA); refine bR ?_ N20_.out _; (with_reducible repeat first | apply bN | apply bD | apply bA); exact BK325.out⟩, ⟨by (with_reducible repeat first | apply bN | apply bD | apply bA); refine bR ?_ N22_.out _; (with_reducible repeat first | apply bN | apply bD | apply bA); refine bR ?_ N22_.out _; (with_reducible repeat first | apply bN | apply bD | apply bA); refine bR ?_ N22_.out _; (with_reducible repeat first | apply bN | apply bD | apply bA); refine bR ?_ N22_.out _; (with_reducible repeat first | apply bN | apply bD | apply bA); exact BK326.out⟩, ⟨by (with_reducible repeat first | apply bN | apply bD | apply bA); refine bR ?_ N24_.out _; (with_reducible repeat first | apply bN | apply bD | apply bA); refine bR ?_ N24_.out _; (with_reducible repeat first | apply bN | apply bD | apply bA); refine bR ?_ N24_.out _; (with_reducible repeat first | apply bN | apply bD | apply bA); refine bR ?_ N24_.out _; (with_reducible repeat first | apply bN | apply bD | apply bA); exact BK327.out⟩, ⟨by (with_reducible repeat first | apply bN | apply bD | apply bA); refine bR ?_ N26_.out _; (with_reducible repeat first | apply bN | apply bD | apply bA); refine bR ?_ N26_.out _; (with_reducible repeat first | apply bN | apply bD | apply bA); refine bR ?_ N26_.out _; (with_reducible repeat first | apply bN | apply bD | apply bA); refine bR ?_ N26_.out _; (with_reducible repeat first | apply bN | apply bD | apply bA); exact BK328.out⟩, ⟨by (with_reducible repeat first | apply bN | apply bD | apply bA); refine bR ?_ N28_.out _; (with_reducible repeat first | apply bN | apply bD | apply bA); refine bR ?_ N28_.out _; (with_reducible repeat first | apply bN | apply bD | apply bA); refine bR ?_ N28_.out _; (with_reducible repeat first | apply bN | apply bD | apply bA); refine bR ?_ N28_.out _; (with_reducible repeat first | apply bN | apply bD | apply bA); exact BK329.out⟩, ⟨by (with_reducible repeat first | apply bN | apply bD | apply bA); refine bP (cs := #[.int .i32 ((rd_T55 y338 0).f0.f0), .int .i32 ((rd_T55 y338 0).f0.f1), .int .i32 ((rd_T55 y338 0).f1.f0), .int .i32 0]) ?_ 3 _ rfl; (with_reducible repeat first | apply bN | apply bD | apply bA); refine bP (cs := #[.int .i32 ((rd_T55 y338 0).f0.f0), .int .i32 ((rd_T55 y338 0).f0.f1), .int .i32 0, .int .i32 0]) ?_ 2 _ rfl; (with_reducible repeat first | apply bN | apply bD | apply bA); refine bP (cs := #[.int .i32 ((rd_T55 y338 0).f0.f0), .int .i32 0, .int .i32 0, .int .i32 0]) ?_ 1 _ rfl; (with_reducible repeat first | apply bN | apply bD | apply bA); refine bP (cs := #[.int .i32 0, .int .i32 0, .int .i32 0, .int .i32 0]) ?_ 0 _ rfl; (with_reducible repeat first | apply bN | apply bD | apply bA); exact BK342.out⟩, ⟨by repeat (first | (with_reducible first | exact HB.out | apply lA | apply lN | apply lD | refine lS ?_ GE325.out | refine lS ?_ GE326.out | refine lS ?_ GE327.out | refine lS ?_ GE328.out | refine lS ?_ GE329.out | refine lS ?_ GE342.out) | exact HB.out)⟩⟩
  case round =>
   clear H'
   try clear c2
   try clear p2
   try clear c3
   try clear p3
   try clear q3
   try clear hx3
   try clear qi3
   try clear c4
   try clear c9
   try clear c9b0
   try clear c9b1
   try clear c24
   try clear c25
   try clear c26
   try clear c27
   try clear c28
   try clear hcz29_0
   try clear hcz29_1
   try clear hcz29_2
   try clear hcz29_3
   try clear hfz29_0
   try clear hfz29_1
   try clear hfz29_2
   try clear hfz29_3
   try clear hx341_0
   try clear hx341_1
   try clear hx341_2
   try clear hx341_3
   try clear p341
   try clear q341
   obtain ⟨x11_1, x343000_1, x343001_1, x343002_1, x343003_1, rfl, HA, HK1, HO_9, BK325, BK326, BK327, BK328, BK329, BK342, HB⟩ := hrel
   cases gk with
   | zero => exact absurd HA.out (by simp [billiardref13_Chosen.l0])
   | succ k1 =>
    have H := HA.out
    clear HA
    simp only [billiardref13_Chosen.l0] at H
    by_cases c30 : x11_1 < (y338.length : Int)
    ·rw [if_pos c30] at H
     have c30b0 : decide (x11_1 < (y338.length : Int)) = true := decide_eq_true c30
     clear c30
     by_cases c31 : 0 ≤ x11_1
     ·rw [if_pos c31] at H
      have c31b0 : decide (0 ≤ x11_1) = true := decide_eq_true c31
      clear c31
      replace H := Option.bind_eq_some_iff.mp H
      obtain ⟨t344, A320, H⟩ := H
      replace H : ((billiardref13_DistSq.f x343000_1 x343001_1 x343002_1 x343003_1).bind fun t345 => (if t344 < t345 then (billiardref13_Chosen.l0 k1 y338 (wrap64 (x11_1 + 1)) ((rd_T55 y338 x11_1).f0.f0) ((rd_T55 y338 x11_1).f0.f1) ((rd_T55 y338 x11_1).f1.f0) ((rd_T55 y338 x11_1).f1.f1)) else (billiardref13_Chosen.l0 k1 y338 (wrap64 (x11_1 + 1)) x343000_1 x343001_1 x343002_1 x343003_1))) = some (r1, r2, r3, r4) := H
      have A32 := aM A320
      clear A320
      replace H := Option.bind_eq_some_iff.mp H
      obtain ⟨t345, A330, H⟩ := H
      replace H : (if t344 < t345 then (billiardref13_Chosen.l0 k1 y338 (wrap64 (x11_1 + 1)) ((rd_T55 y338 x11_1).f0.f0) ((rd_T55 y338 x11_1).f0.f1) ((rd_T55 y338 x11_1).f1.f0) ((rd_T55 y338 x11_1).f1.f1)) else (billiardref13_Chosen.l0 k1 y338 (wrap64 (x11_1 + 1)) x343000_1 x343001_1 x343002_1 x343003_1)) = some (r1, r2, r3, r4) := H
      have A33 := aM A330
      clear A330
      by_cases c34 : t344 < t345
      ·rw [if_pos c34] at H
       have c34b0 : decide (t344 < t345) = true := decide_eq_true c34
       clear c34
       have H' := aM H
       clear H
       try go_wp2
       have n0_ := aM (Kd.R_drew HO_9.out)
       have n1_ := aM (bD BK325.out)
       have n2_ := aM (bD BK326.out)
       have n3_ := aM (bD BK327.out)
       have n4_ := aM (bD BK328.out)
       have n5_ := aM (bD BK329.out)
       have n6_ := aM (bD BK342.out)
       have n7_ := aM (lD HB.out)
       clear HO_9
       clear BK325
       clear BK326
       clear BK327
       clear BK328
       clear BK329
       clear BK342
       clear HB
       have HO_9 := n0_
       have BK325 := n1_
       have BK326 := n2_
       have BK327 := n3_
       have BK328 := n4_
       have BK329 := n5_
       have BK342 := n6_
       have HB := n7_
       clear n0_ n1_ n2_ n3_ n4_ n5_ n6_ n7_
       have p343 : 0 ≤ (x11_1 : Int) := of_decide_eq_true (by first | (with_reducible assumption) | assumption)
       have q343 : x11_1 < (y338.length : Int) := of_decide_eq_true (by first | (with_reducible assumption) | assumption)
       obtain ⟨ad343, e343, hx343_0, hx343_1, hx343_2, hx343_3⟩ := at_T55 (Kd.R_reads' HO_9.out).2.2 x11_1 p343 q343
       obtain rfl : ad341 = ad343 := (by injection e343)
       replace p343 := eq_true p343
       replace q343 := eq_true q343
       refine start_ (n := 8) (S := fun w' => w'.cell? ⟨b342, 0, none⟩ = some (.int .i32 x343000_1) ∧ w'.cell? ⟨b342, 1, none⟩ = some (.int .i32 x343001_1) ∧ w'.cell? ⟨b342, 2, none⟩ = some (.int .i32 x343002_1) ∧ w'.cell? ⟨b342, 3, none⟩ = some (.int .i32 x343003_1) ∧ w'.cell? (ad341.add ((x11_1).toNat * 4)) = some (.int .i32 ((rd_T55 y338 x11_1).f0.f0)) ∧ w'.cell? ⟨(ad341.add ((x11_1).toNat * 4)).block, (ad341.add ((x11_1).toNat * 4)).off + 1, none⟩ = some (.int .i32 ((rd_T55 y338 x11_1).f0.f1)) ∧ w'.cell? ⟨(ad341.add ((x11_1).toNat * 4)).block, (ad341.add ((x11_1).toNat * 4)).off + 2, none⟩ = some (.int .i32 ((rd_T55 y338 x11_1).f1.f0)) ∧ w'.cell? ⟨(ad341.add ((x11_1).toNat * 4)).block, (ad341.add ((x11_1).toNat * 4)).off + 3, none⟩ = some (.int .i32 ((rd_T55 y338 x11_1).f1.f1))) (ds := []) #[F,F,F,F,F,F,F,F] (by kernel_rfl) rfl rfl ⟨(bC BK342.out 0).trans rfl, (bC BK342.out 1).trans rfl, (bC BK342.out 2).trans rfl, (bC BK342.out 3).trans rfl, hx343_0, hx343_1, hx343_2, hx343_3⟩ (fun hHeld => ?_); refine with_tabW billiardref13_Chosen.tab6 billiardref13_Chosen.bits6 (fun HT_ HW_ => ?_)
       generalize wr.drew = w35 at HO_9 BK325 BK326 BK327 BK328 BK329 BK342 HB hx343_0 hx343_1 hx343_2 hx343_3 hHeld ⊢
       refine pure_ (i := 0) (N := some 46) (v := ?_) (a' := ?_) #[T,F,F,F,F,F,F,F] rfl rfl (any_of HT_.out (by kernel_rfl)) (fun _ _ _ h => h) (Or.inl ⟨by rfl, ?_⟩) ?_ ?_
       rotate_left
       ·intro w'
        go_simp
        with_reducible rfl
       rotate_left
       ·simp only [Act.put, sA, sB, sC, i64_w, i32_w]
        rfl
       refine pure_ (i := 1) (N := some 47) (v := ?_) (a' := ?_) #[T,T,F,F,F,F,F,F] rfl rfl (any_of HT_.out (by kernel_rfl)) (fun _ _ _ h => h) (Or.inl ⟨by rfl, ?_⟩) ?_ ?_
       rotate_left
       ·intro w'
        go_simp
        with_reducible rfl
       rotate_left
       ·simp only [Act.put, sA, sB, sC, i64_w, i32_w]
        rfl
       refine pure_ (i := 2) (N := some 48) (v := ?_) (a' := ?_) #[T,T,T,F,F,F,F,F] rfl rfl (any_of HT_.out (by kernel_rfl)) (fun _ _ _ h => h) (Or.inl ⟨by rfl, ?_⟩) ?_ ?_
       rotate_left
       ·intro w'
        go_simp
        with_reducible rfl
       rotate_left
       ·simp only [Act.put, sA, sB, sC, i64_w, i32_w]
        rfl
       refine take_ (i := 3) (N := some 49) (v := ?_) (a' := ?_) #[T,T,T,T,F,F,F,F] rfl rfl (take_ofW HT_.out HW_.out (by kernel_rfl)) (fun _ _ _ h => h) (Or.inl ⟨by rfl, ?_⟩) hHeld ?_ ?_
       rotate_left
       ·rintro w' ⟨s0, s1, s2, s3, s4, s5, s6, s7⟩
        go_simp
        with_reducible rfl
       rotate_left
       ·simp only [Act.put, sA, sB, sC, i64_w, i32_w]
        rfl
       refine take_ (i := 5) (N := some 51) (v := ?_) (a' := ?_) #[T,T,T,T,F,T,F,F] rfl rfl (take_ofW HT_.out HW_.out (by kernel_rfl)) (fun _ _ _ h => h) (Or.inl ⟨by rfl, ?_⟩) hHeld ?_ ?_
       rotate_left
       ·rintro w' ⟨s0, s1, s2, s3, s4, s5, s6, s7⟩
        go_simp
        with_reducible rfl
       rotate_left
       ·simp only [Act.put, sA, sB, sC, i64_w, i32_w]
        rfl
       refine one_ (i := 4) (N := some 50) #[T,T,T,T,T,T,F,F] rfl rfl (one_of HT_.out (by kernel_rfl)) (by decide) (fun K hK => ?_)
       refine goes_ Try.func25 (by kernel_rfl) rfl #[.agg #[.int .i32 ((rd_T55 y338 x11_1).f0.f0), .int .i32 ((rd_T55 y338 x11_1).f0.f1), .int .i32 ((rd_T55 y338 x11_1).f1.f0), .int .i32 ((rd_T55 y338 x11_1).f1.f1)]] (by rfl) rfl rfl (by (try simp only [List.map_toArray, List.map_cons, List.map_nil]); first | done | rfl | (simp only [List.length_drop, List.length_take]; rfl)) ?_
       with_reducible refine (billiardref13_DistSq.calls ((rd_T55 y338 x11_1).f0.f0) ((rd_T55 y338 x11_1).f0.f1) ((rd_T55 y338 x11_1).f1.f0) ((rd_T55 y338 x11_1).f1.f1) t344 _ A32.out).mono ?_
       rintro e w36 ⟨rfl, hb⟩
       have HS4_ := (hb.cell (World.block_lt_of_cell? _ _ (hHeld.2.2.2.2.1))).trans (hHeld.2.2.2.2.1)
       have HS5_ := (hb.cell (World.block_lt_of_cell? _ _ (hHeld.2.2.2.2.2.1))).trans (hHeld.2.2.2.2.2.1)
       have HS6_ := (hb.cell (World.block_lt_of_cell? _ _ (hHeld.2.2.2.2.2.2.1))).trans (hHeld.2.2.2.2.2.2.1)
       have HS7_ := (hb.cell (World.block_lt_of_cell? _ _ (hHeld.2.2.2.2.2.2.2))).trans (hHeld.2.2.2.2.2.2.2)
       refine ⟨_, rfl, ?_⟩
       have n0_ := aM (Kd.R_below (by (with_reducible repeat (first | apply Kd.R_alloc | apply Kd.R_drewN | apply Kd.R_drew)); exact HO_9.out) hb)
       have n1_ := aM (bB (by (with_reducible repeat first | apply bN | apply bD | apply bA); exact BK325.out) hb)
       have n2_ := aM (bB (by (with_reducible repeat first | apply bN | apply bD | apply bA); exact BK326.out) hb)
       have n3_ := aM (bB (by (with_reducible repeat first | apply bN | apply bD | apply bA); exact BK327.out) hb)
       have n4_ := aM (bB (by (with_reducible repeat first | apply bN | apply bD | apply bA); exact BK328.out) hb)
       have n5_ := aM (bB (by (with_reducible repeat first | apply bN | apply bD | apply bA); exact BK329.out) hb)
       have n6_ := aM (bB (by (with_reducible repeat first | apply bN | apply bD | apply bA); exact BK342.out) hb)
       have n7_ := aM (lT (by repeat (first | (with_reducible first | exact HB.out | apply lA | apply lN | apply lD | refine lS ?_ GE325.out | refine lS ?_ GE326.out | refine lS ?_ GE327.out | refine lS ?_ GE328.out | refine lS ?_ GE329.out | refine lS ?_ GE342.out) | exact HB.out)) hb)
       clear HO_9
       clear BK325
       clear BK326
       clear BK327
       clear BK328
       clear BK329
       clear BK342
       clear HB
       have HO_9 := n0_
       have BK325 := n1_
       have BK326 := n2_
       have BK327 := n3_
       have BK328 := n4_
       have BK329 := n5_
       have BK342 := n6_
       have HB := n7_
       clear n0_ n1_ n2_ n3_ n4_ n5_ n6_ n7_
       (try clear hb)
       (try clear hb2)
       (try clear hk)
       (try clear hi)
       refine hK.out _ _ ⟨(bC BK342.out 0).trans rfl, (bC BK342.out 1).trans rfl, (bC BK342.out 2).trans rfl, (bC BK342.out 3).trans rfl, HS4_, HS5_, HS6_, HS7_⟩ (fun hHeld => ?_)
       clear hK K
       refine norm_ (a' := ?_) ?_ ?_
       rotate_left
       ·show Act.put _ (some 50) _ = _
        simp only [Act.put, sA, sB, sC, i64_w, i32_w]
        rfl
       refine one_ (i := 6) (N := some 52) #[T,T,T,T,T,T,T,F] rfl rfl (one_of HT_.out (by kernel_rfl)) (by decide) (fun K hK => ?_)
       refine goes_ Try.func25 (by kernel_rfl) rfl #[.agg #[.int .i32 x343000_1, .int .i32 x343001_1, .int .i32 x343002_1, .int .i32 x343003_1]] (by rfl) rfl rfl (by (try simp only [List.map_toArray, List.map_cons, List.map_nil]); first | done | rfl | (simp only [List.length_drop, List.length_take]; rfl)) ?_
       with_reducible refine (billiardref13_DistSq.calls x343000_1 x343001_1 x343002_1 x343003_1 t345 _ A33.out).mono ?_
       rintro e w37 ⟨rfl, hb⟩
       have HS4_ := (hb.cell (World.block_lt_of_cell? _ _ (hHeld.2.2.2.2.1))).trans (hHeld.2.2.2.2.1)
       have HS5_ := (hb.cell (World.block_lt_of_cell? _ _ (hHeld.2.2.2.2.2.1))).trans (hHeld.2.2.2.2.2.1)
       have HS6_ := (hb.cell (World.block_lt_of_cell? _ _ (hHeld.2.2.2.2.2.2.1))).trans (hHeld.2.2.2.2.2.2.1)
       have HS7_ := (hb.cell (World.block_lt_of_cell? _ _ (hHeld.2.2.2.2.2.2.2))).trans (hHeld.2.2.2.2.2.2.2)
       refine ⟨_, rfl, ?_⟩
       have n0_ := aM (Kd.R_below (by (with_reducible repeat (first | apply Kd.R_alloc | apply Kd.R_drewN | apply Kd.R_drew)); exact HO_9.out) hb)
       have n1_ := aM (bB (by (with_reducible repeat first | apply bN | apply bD | apply bA); exact BK325.out) hb)
       have n2_ := aM (bB (by (with_reducible repeat first | apply bN | apply bD | apply bA); exact BK326.out) hb)
       have n3_ := aM (bB (by (with_reducible repeat first | apply bN | apply bD | apply bA); exact BK327.out) hb)
       have n4_ := aM (bB (by (with_reducible repeat first | apply bN | apply bD | apply bA); exact BK328.out) hb)
       have n5_ := aM (bB (by (with_reducible repeat first | apply bN | apply bD | apply bA); exact BK329.out) hb)
       have n6_ := aM (bB (by (with_reducible repeat first | apply bN | apply bD | apply bA); exact BK342.out) hb)
       have n7_ := aM (lT (by repeat (first | (with_reducible first | exact HB.out | apply lA | apply lN | apply lD | refine lS ?_ GE325.out | refine lS ?_ GE326.out | refine lS ?_ GE327.out | refine lS ?_ GE328.out | refine lS ?_ GE329.out | refine lS ?_ GE342.out) | exact HB.out)) hb)
       clear HO_9
       clear BK325
       clear BK326
       clear BK327
       clear BK328
       clear BK329
       clear BK342
       clear HB
       have HO_9 := n0_
       have BK325 := n1_
       have BK326 := n2_
       have BK327 := n3_
       have BK328 := n4_
       have BK329 := n5_
       have BK342 := n6_
       have HB := n7_
       clear n0_ n1_ n2_ n3_ n4_ n5_ n6_ n7_
       (try clear hb)
       (try clear hb2)
       (try clear hk)
       (try clear hi)
       refine hK.out _ _ ⟨(bC BK342.out 0).trans rfl, (bC BK342.out 1).trans rfl, (bC BK342.out 2).trans rfl, (bC BK342.out 3).trans rfl, HS4_, HS5_, HS6_, HS7_⟩ (fun hHeld => ?_)
       clear hK K
       refine norm_ (a' := ?_) ?_ ?_
       rotate_left
       ·show Act.put _ (some 52) _ = _
        simp only [Act.put, sA, sB, sC, i64_w, i32_w]
        rfl
       refine pure_ (i := 7) (N := some 53) (v := ?_) (a' := ?_) #[T,T,T,T,T,T,T,T] rfl rfl (any_of HT_.out (by kernel_rfl)) (fun _ _ _ h => h) (Or.inl ⟨by rfl, ?_⟩) ?_ ?_
       rotate_left
       ·intro w'
        go_simp
        with_reducible rfl
       rotate_left
       ·simp only [Act.put, sA, sB, sC, i64_w, i32_w]
        rfl
       refine done_ (done_of HT_.out (by kernel_rfl)) ?_
       have p346 : 0 ≤ (x11_1 : Int) := of_decide_eq_true (by first | (with_reducible assumption) | assumption)
       have q346 : x11_1 < (y338.length : Int) := of_decide_eq_true (by first | (with_reducible assumption) | assumption)
       obtain ⟨ad346, e346, hx346_0, hx346_1, hx346_2, hx346_3⟩ := at_T55 (Kd.R_reads' HO_9.out).2.2 x11_1 p346 q346
       obtain rfl : ad341 = ad346 := (by injection e346)
       replace p346 := eq_true p346
       replace q346 := eq_true q346
       have hnb38 := N21_.out
       have hnc38 := N20_.out
       have hnb39 := N23_.out
       have hnc39 := N22_.out
       have hnb40 := N25_.out
       have hnc40 := N24_.out
       have hnb41 := N27_.out
       have hnc41 := N26_.out
       have hnb42 := N29_.out
       have hnc42 := N28_.out
       have hcz43_0 : w37.cell? ⟨b342, 0, none⟩ = some (.int .i32 x343000_1) := (bC BK342.out 0).trans rfl
       have hcz43_1 : w37.cell? ⟨b342, 1, none⟩ = some (.int .i32 x343001_1) := (bC BK342.out 1).trans rfl
       have hcz43_2 : w37.cell? ⟨b342, 2, none⟩ = some (.int .i32 x343002_1) := (bC BK342.out 2).trans rfl
       have hcz43_3 : w37.cell? ⟨b342, 3, none⟩ = some (.int .i32 x343003_1) := (bC BK342.out 3).trans rfl
       have hfz43_0 := bF BK342.out 0
       have hfz43_1 := bF BK342.out 1
       have hfz43_2 := bF BK342.out 2
       have hfz43_3 := bF BK342.out 3
       try go_wp2
       go_roundg k1
       case measure => have := HK1.out; omega
       case rel => exact ⟨(wrap64 (x11_1 + 1)), ((rd_T55 y338 x11_1).f0.f0), ((rd_T55 y338 x11_1).f0.f1), ((rd_T55 y338 x11_1).f1.f0), ((rd_T55 y338 x11_1).f1.f1), (by first | rfl | (simp; done) | (simp [*]; done)), H', ⟨by have := HK1.out; omega⟩, ⟨by (with_reducible repeat (first | apply Kd.R_alloc | apply Kd.R_drewN | apply Kd.R_drew)); exact Kd.R_mono (Kd.R_far (p := ⟨b342, 3, none⟩) (Kd.R_far (p := ⟨b342, 2, none⟩) (Kd.R_far (p := ⟨b342, 1, none⟩) (Kd.R_far (p := ⟨b342, 0, none⟩) (Kd.R_mono HO_9.out (fun k_ hk => (⟨hk, hk.2⟩ : _ ∧ k_ ≠ b342))) (fun _ hk => hk.2) (.int .i32 ((rd_T55 y338 x11_1).f0.f0))) (fun _ hk => hk.2) (.int .i32 ((rd_T55 y338 x11_1).f0.f1))) (fun _ hk => hk.2) (.int .i32 ((rd_T55 y338 x11_1).f1.f0))) (fun _ hk => hk.2) (.int .i32 ((rd_T55 y338 x11_1).f1.f1))) (fun _ hk => ⟨hk.1.1, hk.1.2⟩)⟩, ⟨by (with_reducible repeat first | apply bN | apply bD | apply bA); refine bR ?_ N20_.out _; (with_reducible repeat first | apply bN | apply bD | apply bA); refine bR ?_ N20_.out _; (with_reducible repeat first | apply bN | apply bD | apply bA); refine bR ?_ N20_.out _; (with_reducible repeat first | apply bN | apply bD | apply bA); refine bR ?_ N20_.out _; (with_reducible repeat first | apply bN | apply bD | apply bA); exact BK325.out⟩, ⟨by (with_reducible repeat first | apply bN | apply bD | apply bA); refine bR ?_ N22_.out _; (with_reducible repeat first | apply bN | apply bD | apply bA); refine bR ?_ N22_.out _; (with_reducible repeat first | apply bN | apply bD | apply bA); refine bR ?_ N22_.out _; (with_reducible repeat first | apply bN | apply bD | apply bA); refine bR ?_ N22_.out _; (with_reducible repeat first | apply bN | apply bD | apply bA); exact BK326.out⟩, ⟨by (with_reducible repeat first | apply bN | apply bD | apply bA); refine bR ?_ N24_.out _; (with_reducible repeat first | apply bN | apply bD | apply bA); refine bR ?_ N24_.out _; (with_reducible repeat first | apply bN | apply bD | apply bA); refine bR ?_ N24_.out _; (with_reducible repeat first | apply bN | apply bD | apply bA); refine bR ?_ N24_.out _; (with_reducible repeat first | apply bN | apply bD | apply bA); exact BK327.out⟩, ⟨by (with_reducible repeat first | apply bN | apply bD | apply bA); refine bR ?_ N26_.out _; (with_reducible repeat first | apply bN | apply bD | apply bA); refine bR ?_ N26_.out _; (with_reducible repeat first | apply bN | apply bD | apply bA); refine bR ?_ N26_.out _; (with_reducible repeat first | apply bN | apply bD | apply bA); refine bR ?_ N26_.out _; (with_reducible repeat first | apply bN | apply bD | apply bA); exact BK328.out⟩, ⟨by (with_reducible repeat first | apply bN | apply bD | apply bA); refine bR ?_ N28_.out _; (with_reducible repeat first | apply bN | apply bD | apply bA); refine bR ?_ N28_.out _; (with_reducible repeat first | apply bN | apply bD | apply bA); refine bR ?_ N28_.out _; (with_reducible repeat first | apply bN | apply bD | apply bA); refine bR ?_ N28_.out _; (with_reducible repeat first | apply bN | apply bD | apply bA); exact BK329.out⟩, ⟨by (with_reducible repeat first | apply bN | apply bD | apply bA); refine bP (cs := #[.int .i32 ((rd_T55 y338 x11_1).f0.f0), .int .i32 ((rd_T55 y338 x11_1).f0.f1), .int .i32 ((rd_T55 y338 x11_1).f1.f0), .int .i32 x343003_1]) ?_ 3 _ rfl; (with_reducible repeat first | apply bN | apply bD | apply bA); refine bP (cs := #[.int .i32 ((rd_T55 y338 x11_1).f0.f0), .int .i32 ((rd_T55 y338 x11_1).f0.f1), .int .i32 x343002_1, .int .i32 x343003_1]) ?_ 2 _ rfl; (with_reducible repeat first | apply bN | apply bD | apply bA); refine bP (cs := #[.int .i32 ((rd_T55 y338 x11_1).f0.f0), .int .i32 x343001_1, .int .i32 x343002_1, .int .i32 x343003_1]) ?_ 1 _ rfl; (with_reducible repeat first | apply bN | apply bD | apply bA); refine bP (cs := #[.int .i32 x343000_1, .int .i32 x343001_1, .int .i32 x343002_1, .int .i32 x343003_1]) ?_ 0 _ rfl; (with_reducible repeat first | apply bN | apply bD | apply bA); exact BK342.out⟩, ⟨by repeat (first | (with_reducible first | exact HB.out | apply lA | apply lN | apply lD | refine lS ?_ GE325.out | refine lS ?_ GE326.out | refine lS ?_ GE327.out | refine lS ?_ GE328.out | refine lS ?_ GE329.out | refine lS ?_ GE342.out) | exact HB.out)⟩⟩
      ·rw [if_neg c34] at H
       have c34b0 : decide (t344 < t345) = false := decide_eq_false c34
       clear c34
       have H' := aM H
       clear H
       try go_wp2
       have n0_ := aM (Kd.R_drew HO_9.out)
       have n1_ := aM (bD BK325.out)
       have n2_ := aM (bD BK326.out)
       have n3_ := aM (bD BK327.out)
       have n4_ := aM (bD BK328.out)
       have n5_ := aM (bD BK329.out)
       have n6_ := aM (bD BK342.out)
       have n7_ := aM (lD HB.out)
       clear HO_9
       clear BK325
       clear BK326
       clear BK327
       clear BK328
       clear BK329
       clear BK342
       clear HB
       have HO_9 := n0_
       have BK325 := n1_
       have BK326 := n2_
       have BK327 := n3_
       have BK328 := n4_
       have BK329 := n5_
       have BK342 := n6_
       have HB := n7_
       clear n0_ n1_ n2_ n3_ n4_ n5_ n6_ n7_
       have p343 : 0 ≤ (x11_1 : Int) := of_decide_eq_true (by first | (with_reducible assumption) | assumption)
       have q343 : x11_1 < (y338.length : Int) := of_decide_eq_true (by first | (with_reducible assumption) | assumption)
       obtain ⟨ad343, e343, hx343_0, hx343_1, hx343_2, hx343_3⟩ := at_T55 (Kd.R_reads' HO_9.out).2.2 x11_1 p343 q343
       obtain rfl : ad341 = ad343 := (by injection e343)
       replace p343 := eq_true p343
       replace q343 := eq_true q343
       refine start_ (n := 8) (S := fun w' => w'.cell? ⟨b342, 0, none⟩ = some (.int .i32 x343000_1) ∧ w'.cell? ⟨b342, 1, none⟩ = some (.int .i32 x343001_1) ∧ w'.cell? ⟨b342, 2, none⟩ = some (.int .i32 x343002_1) ∧ w'.cell? ⟨b342, 3, none⟩ = some (.int .i32 x343003_1) ∧ w'.cell? (ad341.add ((x11_1).toNat * 4)) = some (.int .i32 ((rd_T55 y338 x11_1).f0.f0)) ∧ w'.cell? ⟨(ad341.add ((x11_1).toNat * 4)).block, (ad341.add ((x11_1).toNat * 4)).off + 1, none⟩ = some (.int .i32 ((rd_T55 y338 x11_1).f0.f1)) ∧ w'.cell? ⟨(ad341.add ((x11_1).toNat * 4)).block, (ad341.add ((x11_1).toNat * 4)).off + 2, none⟩ = some (.int .i32 ((rd_T55 y338 x11_1).f1.f0)) ∧ w'.cell? ⟨(ad341.add ((x11_1).toNat * 4)).block, (ad341.add ((x11_1).toNat * 4)).off + 3, none⟩ = some (.int .i32 ((rd_T55 y338 x11_1).f1.f1))) (ds := []) #[F,F,F,F,F,F,F,F] (by kernel_rfl) rfl rfl ⟨(bC BK342.out 0).trans rfl, (bC BK342.out 1).trans rfl, (bC BK342.out 2).trans rfl, (bC BK342.out 3).trans rfl, hx343_0, hx343_1, hx343_2, hx343_3⟩ (fun hHeld => ?_); refine with_tabW billiardref13_Chosen.tab6 billiardref13_Chosen.bits6 (fun HT_ HW_ => ?_)
       generalize wr.drew = w44 at HO_9 BK325 BK326 BK327 BK328 BK329 BK342 HB hx343_0 hx343_1 hx343_2 hx343_3 hHeld ⊢
       refine pure_ (i := 0) (N := some 46) (v := ?_) (a' := ?_) #[T,F,F,F,F,F,F,F] rfl rfl (any_of HT_.out (by kernel_rfl)) (fun _ _ _ h => h) (Or.inl ⟨by rfl, ?_⟩) ?_ ?_
       rotate_left
       ·intro w'
        go_simp
        with_reducible rfl
       rotate_left
       ·simp only [Act.put, sA, sB, sC, i64_w, i32_w]
        rfl
       refine pure_ (i := 1) (N := some 47) (v := ?_) (a' := ?_) #[T,T,F,F,F,F,F,F] rfl rfl (any_of HT_.out (by kernel_rfl)) (fun _ _ _ h => h) (Or.inl ⟨by rfl, ?_⟩) ?_ ?_
       rotate_left
       ·intro w'
        go_simp
        with_reducible rfl
       rotate_left
       ·simp only [Act.put, sA, sB, sC, i64_w, i32_w]
        rfl
       refine pure_ (i := 2) (N := some 48) (v := ?_) (a' := ?_) #[T,T,T,F,F,F,F,F] rfl rfl (any_of HT_.out (by kernel_rfl)) (fun _ _ _ h => h) (Or.inl ⟨by rfl, ?_⟩) ?_ ?_
       rotate_left
       ·intro w'
        go_simp
        with_reducible rfl
       rotate_left
       ·simp only [Act.put, sA, sB, sC, i64_w, i32_w]
        rfl
       refine take_ (i := 3) (N := some 49) (v := ?_) (a' := ?_) #[T,T,T,T,F,F,F,F] rfl rfl (take_ofW HT_.out HW_.out (by kernel_rfl)) (fun _ _ _ h => h) (Or.inl ⟨by rfl, ?_⟩) hHeld ?_ ?_
       rotate_left
       ·rintro w' ⟨s0, s1, s2, s3, s4, s5, s6, s7⟩
        go_simp
        with_reducible rfl
       rotate_left
       ·simp only [Act.put, sA, sB, sC, i64_w, i32_w]
        rfl
       refine take_ (i := 5) (N := some 51) (v := ?_) (a' := ?_) #[T,T,T,T,F,T,F,F] rfl rfl (take_ofW HT_.out HW_.out (by kernel_rfl)) (fun _ _ _ h => h) (Or.inl ⟨by rfl, ?_⟩) hHeld ?_ ?_
       rotate_left
       ·rintro w' ⟨s0, s1, s2, s3, s4, s5, s6, s7⟩
        go_simp
        with_reducible rfl
       rotate_left
       ·simp only [Act.put, sA, sB, sC, i64_w, i32_w]
        rfl
       refine one_ (i := 4) (N := some 50) #[T,T,T,T,T,T,F,F] rfl rfl (one_of HT_.out (by kernel_rfl)) (by decide) (fun K hK => ?_)
       refine goes_ Try.func25 (by kernel_rfl) rfl #[.agg #[.int .i32 ((rd_T55 y338 x11_1).f0.f0), .int .i32 ((rd_T55 y338 x11_1).f0.f1), .int .i32 ((rd_T55 y338 x11_1).f1.f0), .int .i32 ((rd_T55 y338 x11_1).f1.f1)]] (by rfl) rfl rfl (by (try simp only [List.map_toArray, List.map_cons, List.map_nil]); first | done | rfl | (simp only [List.length_drop, List.length_take]; rfl)) ?_
       with_reducible refine (billiardref13_DistSq.calls ((rd_T55 y338 x11_1).f0.f0) ((rd_T55 y338 x11_1).f0.f1) ((rd_T55 y338 x11_1).f1.f0) ((rd_T55 y338 x11_1).f1.f1) t344 _ A32.out).mono ?_
       rintro e w45 ⟨rfl, hb⟩
       have HS4_ := (hb.cell (World.block_lt_of_cell? _ _ (hHeld.2.2.2.2.1))).trans (hHeld.2.2.2.2.1)
       have HS5_ := (hb.cell (World.block_lt_of_cell? _ _ (hHeld.2.2.2.2.2.1))).trans (hHeld.2.2.2.2.2.1)
       have HS6_ := (hb.cell (World.block_lt_of_cell? _ _ (hHeld.2.2.2.2.2.2.1))).trans (hHeld.2.2.2.2.2.2.1)
       have HS7_ := (hb.cell (World.block_lt_of_cell? _ _ (hHeld.2.2.2.2.2.2.2))).trans (hHeld.2.2.2.2.2.2.2)
       refine ⟨_, rfl, ?_⟩
       have n0_ := aM (Kd.R_below (by (with_reducible repeat (first | apply Kd.R_alloc | apply Kd.R_drewN | apply Kd.R_drew)); exact HO_9.out) hb)
       have n1_ := aM (bB (by (with_reducible repeat first | apply bN | apply bD | apply bA); exact BK325.out) hb)
       have n2_ := aM (bB (by (with_reducible repeat first | apply bN | apply bD | apply bA); exact BK326.out) hb)
       have n3_ := aM (bB (by (with_reducible repeat first | apply bN | apply bD | apply bA); exact BK327.out) hb)
       have n4_ := aM (bB (by (with_reducible repeat first | apply bN | apply bD | apply bA); exact BK328.out) hb)
       have n5_ := aM (bB (by (with_reducible repeat first | apply bN | apply bD | apply bA); exact BK329.out) hb)
       have n6_ := aM (bB (by (with_reducible repeat first | apply bN | apply bD | apply bA); exact BK342.out) hb)
       have n7_ := aM (lT (by repeat (first | (with_reducible first | exact HB.out | apply lA | apply lN | apply lD | refine lS ?_ GE325.out | refine lS ?_ GE326.out | refine lS ?_ GE327.out | refine lS ?_ GE328.out | refine lS ?_ GE329.out | refine lS ?_ GE342.out) | exact HB.out)) hb)
       clear HO_9
       clear BK325
       clear BK326
       clear BK327
       clear BK328
       clear BK329
       clear BK342
       clear HB
       have HO_9 := n0_
       have BK325 := n1_
       have BK326 := n2_
       have BK327 := n3_
       have BK328 := n4_
       have BK329 := n5_
       have BK342 := n6_
       have HB := n7_
       clear n0_ n1_ n2_ n3_ n4_ n5_ n6_ n7_
       (try clear hb)
       (try clear hb2)
       (try clear hk)
       (try clear hi)
       refine hK.out _ _ ⟨(bC BK342.out 0).trans rfl, (bC BK342.out 1).trans rfl, (bC BK342.out 2).trans rfl, (bC BK342.out 3).trans rfl, HS4_, HS5_, HS6_, HS7_⟩ (fun hHeld => ?_)
       clear hK K
       refine norm_ (a' := ?_) ?_ ?_
       rotate_left
       ·show Act.put _ (some 50) _ = _
        simp only [Act.put, sA, sB, sC, i64_w, i32_w]
        rfl
       refine one_ (i := 6) (N := some 52) #[T,T,T,T,T,T,T,F] rfl rfl (one_of HT_.out (by kernel_rfl)) (by decide) (fun K hK => ?_)
       refine goes_ Try.func25 (by kernel_rfl) rfl #[.agg #[.int .i32 x343000_1, .int .i32 x343001_1, .int .i32 x343002_1, .int .i32 x343003_1]] (by rfl) rfl rfl (by (try simp only [List.map_toArray, List.map_cons, List.map_nil]); first | done | rfl | (simp only [List.length_drop, List.length_take]; rfl)) ?_
       with_reducible refine (billiardref13_DistSq.calls x343000_1 x343001_1 x343002_1 x343003_1 t345 _ A33.out).mono ?_
       rintro e w46 ⟨rfl, hb⟩
       have HS4_ := (hb.cell (World.block_lt_of_cell? _ _ (hHeld.2.2.2.2.1))).trans (hHeld.2.2.2.2.1)
       have HS5_ := (hb.cell (World.block_lt_of_cell? _ _ (hHeld.2.2.2.2.2.1))).trans (hHeld.2.2.2.2.2.1)
       have HS6_ := (hb.cell (World.block_lt_of_cell? _ _ (hHeld.2.2.2.2.2.2.1))).trans (hHeld.2.2.2.2.2.2.1)
       have HS7_ := (hb.cell (World.block_lt_of_cell? _ _ (hHeld.2.2.2.2.2.2.2))).trans (hHeld.2.2.2.2.2.2.2)
       refine ⟨_, rfl, ?_⟩
       have n0_ := aM (Kd.R_below (by (with_reducible repeat (first | apply Kd.R_alloc | apply Kd.R_drewN | apply Kd.R_drew)); exact HO_9.out) hb)
       have n1_ := aM (bB (by (with_reducible repeat first | apply bN | apply bD | apply bA); exact BK325.out) hb)
       have n2_ := aM (bB (by (with_reducible repeat first | apply bN | apply bD | apply bA); exact BK326.out) hb)
       have n3_ := aM (bB (by (with_reducible repeat first | apply bN | apply bD | apply bA); exact BK327.out) hb)
       have n4_ := aM (bB (by (with_reducible repeat first | apply bN | apply bD | apply bA); exact BK328.out) hb)
       have n5_ := aM (bB (by (with_reducible repeat first | apply bN | apply bD | apply bA); exact BK329.out) hb)
       have n6_ := aM (bB (by (with_reducible repeat first | apply bN | apply bD | apply bA); exact BK342.out) hb)
       have n7_ := aM (lT (by repeat (first | (with_reducible first | exact HB.out | apply lA | apply lN | apply lD | refine lS ?_ GE325.out | refine lS ?_ GE326.out | refine lS ?_ GE327.out | refine lS ?_ GE328.out | refine lS ?_ GE329.out | refine lS ?_ GE342.out) | exact HB.out)) hb)
       clear HO_9
       clear BK325
       clear BK326
       clear BK327
       clear BK328
       clear BK329
       clear BK342
       clear HB
       have HO_9 := n0_
       have BK325 := n1_
       have BK326 := n2_
       have BK327 := n3_
       have BK328 := n4_
       have BK329 := n5_
       have BK342 := n6_
       have HB := n7_
       clear n0_ n1_ n2_ n3_ n4_ n5_ n6_ n7_
       (try clear hb)
       (try clear hb2)
       (try clear hk)
       (try clear hi)
       refine hK.out _ _ ⟨(bC BK342.out 0).trans rfl, (bC BK342.out 1).trans rfl, (bC BK342.out 2).trans rfl, (bC BK342.out 3).trans rfl, HS4_, HS5_, HS6_, HS7_⟩ (fun hHeld => ?_)
       clear hK K
       refine norm_ (a' := ?_) ?_ ?_
       rotate_left
       ·show Act.put _ (some 52) _ = _
        simp only [Act.put, sA, sB, sC, i64_w, i32_w]
        rfl
       refine pure_ (i := 7) (N := some 53) (v := ?_) (a' := ?_) #[T,T,T,T,T,T,T,T] rfl rfl (any_of HT_.out (by kernel_rfl)) (fun _ _ _ h => h) (Or.inl ⟨by rfl, ?_⟩) ?_ ?_
       rotate_left
       ·intro w'
        go_simp
        with_reducible rfl
       rotate_left
       ·simp only [Act.put, sA, sB, sC, i64_w, i32_w]
        rfl
       refine done_ (done_of HT_.out (by kernel_rfl)) ?_
       try go_wp2
       go_roundg k1
       case measure => have := HK1.out; omega
       case rel => exact ⟨(wrap64 (x11_1 + 1)), (x343000_1), (x343001_1), (x343002_1), (x343003_1), (by first | rfl | (simp; done) | (simp [*]; done)), H', ⟨by have := HK1.out; omega⟩, ⟨by (with_reducible repeat (first | apply Kd.R_alloc | apply Kd.R_drewN | apply Kd.R_drew)); exact HO_9.out⟩, ⟨by (with_reducible repeat first | apply bN | apply bD | apply bA); exact BK325.out⟩, ⟨by (with_reducible repeat first | apply bN | apply bD | apply bA); exact BK326.out⟩, ⟨by (with_reducible repeat first | apply bN | apply bD | apply bA); exact BK327.out⟩, ⟨by (with_reducible repeat first | apply bN | apply bD | apply bA); exact BK328.out⟩, ⟨by (with_reducible repeat first | apply bN | apply bD | apply bA); exact BK329.out⟩, ⟨by (with_reducible repeat first | apply bN | apply bD | apply bA); exact BK342.out⟩, ⟨by repeat (first | (with_reducible first | exact HB.out | apply lA | apply lN | apply lD | refine lS ?_ GE325.out | refine lS ?_ GE326.out | refine lS ?_ GE327.out | refine lS ?_ GE328.out | refine lS ?_ GE329.out | refine lS ?_ GE342.out) | exact HB.out)⟩⟩
     ·rw [if_neg c31] at H
      exact absurd H (by simp)
    ·rw [if_neg c30] at H
     have c30b0 : decide (x11_1 < (y338.length : Int)) = false := decide_eq_false c30
     clear c30
     simp only [Option.some.injEq, Prod.mk.injEq] at H
     obtain ⟨rfl, rfl, rfl, rfl⟩ := H
     have hnb47 := N21_.out
     have hnc47 := N20_.out
     have hnb48 := N23_.out
     have hnc48 := N22_.out
     have hnb49 := N25_.out
     have hnc49 := N24_.out
     have hnb50 := N27_.out
     have hnc50 := N26_.out
     have hnb51 := N29_.out
     have hnc51 := N28_.out
     have hcz52_0 : wr.cell? ⟨b342, 0, none⟩ = some (.int .i32 x343000_1) := (bC BK342.out 0).trans rfl
     have hcz52_1 : wr.cell? ⟨b342, 1, none⟩ = some (.int .i32 x343001_1) := (bC BK342.out 1).trans rfl
     have hcz52_2 : wr.cell? ⟨b342, 2, none⟩ = some (.int .i32 x343002_1) := (bC BK342.out 2).trans rfl
     have hcz52_3 : wr.cell? ⟨b342, 3, none⟩ = some (.int .i32 x343003_1) := (bC BK342.out 3).trans rfl
     have hfz52_0 := bF BK342.out 0
     have hfz52_1 := bF BK342.out 1
     have hfz52_2 := bF BK342.out 2
     have hfz52_3 := bF BK342.out 3
     have hnb53 := N13_.out
     have hnc53 := N12_.out
     have hnb54 := N15_.out
     have hnc54 := N14_.out
     have hnb55 := N17_.out
     have hnc55 := N16_.out
     have hnb56 := N19_.out
     have hnc56 := N18_.out
     have hcz57_0 : wr.cell? ⟨b329, 0, none⟩ = some (.int .i32 0) := (bC BK329.out 0).trans rfl
     have hcz57_1 : wr.cell? ⟨b329, 1, none⟩ = some (.int .i32 0) := (bC BK329.out 1).trans rfl
     have hcz57_2 : wr.cell? ⟨b329, 2, none⟩ = some (.int .i32 0) := (bC BK329.out 2).trans rfl
     have hcz57_3 : wr.cell? ⟨b329, 3, none⟩ = some (.int .i32 0) := (bC BK329.out 3).trans rfl
     have hfz57_0 := bF BK329.out 0
     have hfz57_1 := bF BK329.out 1
     have hfz57_2 := bF BK329.out 2
     have hfz57_3 := bF BK329.out 3
     go_wp2
     refine bodyPost_ret (results_cell_row rfl _ _ b329 55 #[.int .i32 x343000_1, .int .i32 x343001_1, .int .i32 x343002_1, .int .i32 x343003_1] (0, 0) _ rfl (by (with_reducible repeat first | apply bN | apply bD | apply bA); refine bP (cs := #[.int .i32 x343000_1, .int .i32 x343001_1, .int .i32 x343002_1, .int .i32 0]) ?_ 3 _ rfl; (with_reducible repeat first | apply bN | apply bD | apply bA); refine bP (cs := #[.int .i32 x343000_1, .int .i32 x343001_1, .int .i32 0, .int .i32 0]) ?_ 2 _ rfl; (with_reducible repeat first | apply bN | apply bD | apply bA); refine bP (cs := #[.int .i32 x343000_1, .int .i32 0, .int .i32 0, .int .i32 0]) ?_ 1 _ rfl; (with_reducible repeat first | apply bN | apply bD | apply bA); refine bP (cs := #[.int .i32 0, .int .i32 0, .int .i32 0, .int .i32 0]) ?_ 0 _ rfl; (with_reducible repeat first | apply bN | apply bD | apply bA); exact BK329.out) Try.underlying55 rfl (by kernel_rfl)) rfl ?_
     exact ⟨by first | rfl | (simp [errW_none, errW_some] <;> rfl) | (simp [*, errW_none, errW_some] <;> rfl), by repeat (first | (with_reducible first | exact HB.out | apply lA | apply lN | apply lD | refine lS ?_ GE325.out | refine lS ?_ GE326.out | refine lS ?_ GE327.out | refine lS ?_ GE328.out | refine lS ?_ GE329.out | refine lS ?_ GE342.out) | exact HB.out)⟩
 ·rw [if_neg c9] at H
  exact absurd H (by simp)

end Go.Proofs.Ytahbfafnodeimaa.Q
