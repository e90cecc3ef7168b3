-- PRINTED by print.py (a twelfth state) out of the translation. Not trusted: Lean checks it.
import Derived.Test.YtabcnaceffpekaaQ0
import Derived.Test.YtabcnaceffpekaaMspec
import Derived.Test.YtabcnaceffpekaaQbilliardlaw24
import Derived.Test.YtabcnaceffpekaaQbilliardref05
import Derived.Test.YtabcnaceffpekaaQbilliardref08
import Derived.Test.YtabcnaceffpekaaQbilliardref12
import Derived.Test.YtabcnaceffpekaaQquery
namespace Go.Proofs.Ytabcnaceffpekaa.Q
open Go.RowKit.Below renaming refl → lR
open Go.RowKit Go.Proofs.YtabcnaceffpekaaW.PrintWords Go.Proofs.YtabcnaceffpekaaW.PrintLast Go.Proofs.YtabcnaceffpekaaW.PrintMore
open Go.Proofs.YtabcnaceffpekaaW.PrintWords renaming blk_drewN → bN, blk_drew → bD, blk_alloc → bA, blk_below → bB, blk_cell → bC, blk_frozen → bF, blk_lt → bL, below_alloc → lA, pw_below_drewN → lN, below_drew1 → lD, below_set → lS, below_step → lT, below_size → lZ, Aside0.mk → aM
open List renaming setIfInBounds_toArray → sA, set_cons_zero → sB, set_cons_succ → sC
open Bool renaming true → T, false → F
attribute [local go_sem] max2_int min2_int max_two min_two max_three min_three max_four min_four   -- for this text's walks alone
set_option linter.unusedVariables false
set_option linter.unusedSimpArgs false

/-! ### billiardlaw24_QueryBodies: function 5 -/
mutual
def billiardlaw24_QueryBodies.j0 : Nat → Bool → Int → Int → Int → Int → Int → Int → Int → Int → Int → Int → Int → Int → Option (Bool)
 | 0, _, _, _, _, _, _, _, _, _, _, _, _, _ => none
 | k + 1, x18, x336000, x336001, x336002, x336003, x336004, x336005, x336006, x336007, x336008, x336009, x337000, x337001 => if x18 = true then ((billiardlaw24_awake.f k).bind fun t340 => (some t340)) else ((query_Distance.f k x336000 x336001 x336002 x336003 x336004 x336005 x336006 x336007 x336008 x336009 x337000 x337001).bind fun t341 => ((query_In.f x336000 x336001 x336002 x336003 x336004 x336005 x336006 x336007 x336008 x336009 x337000 x337001).bind fun t342 => (if t342 = true then (if t341 > 0 then (billiardlaw24_QueryBodies.j1 k true x336000 x336001 x336002 x336003 x336004 x336005 x336006 x336007 x336008 x336009) else ((billiardref08_Of.f x336000 x336001 x336002 x336003 x336004 x336005 x336006 x336007 x336008 x336009).bind fun bt343 => ((billiardref08_Contains.f bt343.1 bt343.2.1 bt343.2.2.1 bt343.2.2.2 x337000 x337001).bind fun t347 => (if t347 = true then (billiardlaw24_QueryBodies.j1 k false x336000 x336001 x336002 x336003 x336004 x336005 x336006 x336007 x336008 x336009) else (billiardlaw24_QueryBodies.j1 k true x336000 x336001 x336002 x336003 x336004 x336005 x336006 x336007 x336008 x336009))))) else (billiardlaw24_QueryBodies.j1 k (decide (t341 < 0)) x336000 x336001 x336002 x336003 x336004 x336005 x336006 x336007 x336008 x336009))))
def billiardlaw24_QueryBodies.j1 : Nat → Bool → Int → Int → Int → Int → Int → Int → Int → Int → Int → Int → Option (Bool)
 | 0, _, _, _, _, _, _, _, _, _, _, _ => none
 | k + 1, x45, x336000, x336001, x336002, x336003, x336004, x336005, x336006, x336007, x336008, x336009 => if x45 = true then (some false) else ((billiardref05_First.f x336000 x336001 x336002 x336003 x336004 x336005 x336006 x336007 x336008 x336009).bind fun bt348 => ((query_In.f x336000 x336001 x336002 x336003 x336004 x336005 x336006 x336007 x336008 x336009 bt348.1 bt348.2).bind fun t350 => (if t350 = true then ((billiardref05_Second.f x336000 x336001 x336002 x336003 x336004 x336005 x336006 x336007 x336008 x336009).bind fun bt351 => ((query_In.f x336000 x336001 x336002 x336003 x336004 x336005 x336006 x336007 x336008 x336009 bt351.1 bt351.2).bind fun t353 => (if t353 = true then ((query_In.f x336000 x336001 x336002 x336003 x336004 x336005 x336006 x336007 x336008 x336009 x336006 x336007).bind fun t354 => (if t354 = true then ((billiardref05_First.f x336000 x336001 x336002 x336003 x336004 x336005 x336006 x336007 x336008 x336009).bind fun bt355 => ((query_Distance.f k x336000 x336001 x336002 x336003 x336004 x336005 x336006 x336007 x336008 x336009 bt355.1 bt355.2).bind fun t357 => (some (t357 == (wrap64 (-(wrap64 (x336001)))))))) else (some false))) else (some false)))) else (some false))))
end
def billiardlaw24_QueryBodies.f (k : Nat) (a0_0 : Int) (a0_1 : Int) (a0_2 : Int) (a0_3 : Int) (a0_4 : Int) (a0_5 : Int) (a0_6 : Int) (a0_7 : Int) (a0_8 : Int) (a0_9 : Int) (a1_0 : Int) (a1_1 : Int) : Option (Bool) := (billiardlaw24_awake.f k).bind fun t337 => (if t337 = true then ((billiardref05_Check.f k a0_0 a0_1 a0_2 a0_3 a0_4 a0_5 a0_6 a0_7 a0_8 a0_9).bind fun t338 => (if t338 = 0 then ((billiardref12_In.f a1_0 a1_1).bind fun t339 => (billiardlaw24_QueryBodies.j0 k (!t339) a0_0 a0_1 a0_2 a0_3 a0_4 a0_5 a0_6 a0_7 a0_8 a0_9 a1_0 a1_1)) else (billiardlaw24_QueryBodies.j0 k true a0_0 a0_1 a0_2 a0_3 a0_4 a0_5 a0_6 a0_7 a0_8 a0_9 a1_0 a1_1))) else (billiardlaw24_QueryBodies.j0 k true a0_0 a0_1 a0_2 a0_3 a0_4 a0_5 a0_6 a0_7 a0_8 a0_9 a1_0 a1_1))
theorem billiardlaw24_QueryBodies.mono_l : ∀ k, (∀ y0 y1 y2 y3 y4 y5 y6 y7 y8 y9 y10 y11 y12, LeO (billiardlaw24_QueryBodies.j0 k y0 y1 y2 y3 y4 y5 y6 y7 y8 y9 y10 y11 y12) (billiardlaw24_QueryBodies.j0 (k + 1) y0 y1 y2 y3 y4 y5 y6 y7 y8 y9 y10 y11 y12)) ∧ (∀ y0 y1 y2 y3 y4 y5 y6 y7 y8 y9 y10, LeO (billiardlaw24_QueryBodies.j1 k y0 y1 y2 y3 y4 y5 y6 y7 y8 y9 y10) (billiardlaw24_QueryBodies.j1 (k + 1) y0 y1 y2 y3 y4 y5 y6 y7 y8 y9 y10))
 | 0 => ⟨fun _ _ _ _ _ _ _ _ _ _ _ _ _ r h => by simp [billiardlaw24_QueryBodies.j0] at h, fun _ _ _ _ _ _ _ _ _ _ _ r h => by simp [billiardlaw24_QueryBodies.j1] at h⟩
 | k + 1 => by
  obtain ⟨ih0, ih1⟩ := billiardlaw24_QueryBodies.mono_l k
  refine ⟨?_, ?_⟩
  ·intro y0 y1 y2 y3 y4 y5 y6 y7 y8 y9 y10 y11 y12
   unfold billiardlaw24_QueryBodies.j0
   repeat' first
   | (with_reducible exact ih0 _ _ _ _ _ _ _ _ _ _ _ _ _)
   | (with_reducible exact ih1 _ _ _ _ _ _ _ _ _ _ _)
   | (with_reducible exact billiardlaw24_awake.mono _)
   | (with_reducible exact billiardref05_Check.mono _ _ _ _ _ _ _ _ _ _ _)
   | (with_reducible exact query_Distance.mono _ _ _ _ _ _ _ _ _ _ _ _ _)
   | (with_reducible exact LeO.refl _)
   | (with_reducible exact LeO.none _)
   | (with_reducible refine LeO.ite ?_ ?_)
   | (with_reducible refine LeO.bind ?_ (fun _ => ?_))
   | exact ih0 _ _ _ _ _ _ _ _ _ _ _ _ _
   | exact ih1 _ _ _ _ _ _ _ _ _ _ _
   | exact billiardlaw24_awake.mono _
   | exact billiardref05_Check.mono _ _ _ _ _ _ _ _ _ _ _
   | exact query_Distance.mono _ _ _ _ _ _ _ _ _ _ _ _ _
   | exact LeO.none _
   | refine LeO.ite ?_ ?_
   | refine LeO.bind ?_ (fun _ => ?_)
  ·intro y0 y1 y2 y3 y4 y5 y6 y7 y8 y9 y10
   unfold billiardlaw24_QueryBodies.j1
   repeat' first
   | (with_reducible exact ih0 _ _ _ _ _ _ _ _ _ _ _ _ _)
   | (with_reducible exact ih1 _ _ _ _ _ _ _ _ _ _ _)
   | (with_reducible exact billiardlaw24_awake.mono _)
   | (with_reducible exact billiardref05_Check.mono _ _ _ _ _ _ _ _ _ _ _)
   | (with_reducible exact query_Distance.mono _ _ _ _ _ _ _ _ _ _ _ _ _)
   | (with_reducible exact LeO.refl _)
   | (with_reducible exact LeO.none _)
   | (with_reducible refine LeO.ite ?_ ?_)
   | (with_reducible refine LeO.bind ?_ (fun _ => ?_))
   | exact ih0 _ _ _ _ _ _ _ _ _ _ _ _ _
   | exact ih1 _ _ _ _ _ _ _ _ _ _ _
   | exact billiardlaw24_awake.mono _
   | exact billiardref05_Check.mono _ _ _ _ _ _ _ _ _ _ _
   | exact query_Distance.mono _ _ _ _ _ _ _ _ _ _ _ _ _
   | exact LeO.none _
   | refine LeO.ite ?_ ?_
   | refine LeO.bind ?_ (fun _ => ?_)
theorem billiardlaw24_QueryBodies.mono : ∀ a0 a1 a2 a3 a4 a5 a6 a7 a8 a9 a10 a11 k, LeO (billiardlaw24_QueryBodies.f k a0 a1 a2 a3 a4 a5 a6 a7 a8 a9 a10 a11) (billiardlaw24_QueryBodies.f (k + 1) a0 a1 a2 a3 a4 a5 a6 a7 a8 a9 a10 a11) := by
 intro a0 a1 a2 a3 a4 a5 a6 a7 a8 a9 a10 a11 k
 obtain ⟨ih0, ih1⟩ := billiardlaw24_QueryBodies.mono_l k
 unfold billiardlaw24_QueryBodies.f
 repeat' first
   | (with_reducible exact ih0 _ _ _ _ _ _ _ _ _ _ _ _ _)
   | (with_reducible exact ih1 _ _ _ _ _ _ _ _ _ _ _)
   | (with_reducible exact billiardlaw24_awake.mono _)
   | (with_reducible exact billiardref05_Check.mono _ _ _ _ _ _ _ _ _ _ _)
   | (with_reducible exact query_Distance.mono _ _ _ _ _ _ _ _ _ _ _ _ _)
   | (with_reducible exact LeO.refl _)
   | (with_reducible exact LeO.none _)
   | (with_reducible refine LeO.ite ?_ ?_)
   | (with_reducible refine LeO.bind ?_ (fun _ => ?_))
   | exact ih0 _ _ _ _ _ _ _ _ _ _ _ _ _
   | exact ih1 _ _ _ _ _ _ _ _ _ _ _
   | exact billiardlaw24_awake.mono _
   | exact billiardref05_Check.mono _ _ _ _ _ _ _ _ _ _ _
   | exact query_Distance.mono _ _ _ _ _ _ _ _ _ _ _ _ _
   | exact LeO.none _
   | refine LeO.ite ?_ ?_
   | refine LeO.bind ?_ (fun _ => ?_)
def billiardlaw24_QueryBodies.T5 : Bool × List (List Nat × List Nat) := (true, [([], []), ([0], [0]), ([1], [1]), ([2, 1], [1, 2]), ([3, 1, 1], [1, 3]), ([4], [4]), ([5, 4, 4], [4, 5]), ([4], [4]), ([6, 7, 6, 4], [4, 6, 7]), ([8, 4], [4, 8]), ([4, 9, 1], [1, 4, 9]), ([1, 10], [1, 10]), ([11, 8], [11]), ([12], [12]), ([13, 12], [12, 13]), ([14, 12, 12], [12, 14]), ([15], [15]), ([16, 15], [15, 16]), ([15, 17, 12], [12, 15, 17]), ([12, 18], [12, 18])])
def billiardlaw24_QueryBodies.B5 : List Nat := [0, 1, 3, 7, 15, 31, 63, 31, 255, 511, 1023, 2047, 4095, 8191, 16383, 32767, 65535, 131071, 262143, 524287]
theorem billiardlaw24_QueryBodies.tab5 : rtab .any (opsOf Try.f5 5) = billiardlaw24_QueryBodies.T5 := by kernel_rfl
theorem billiardlaw24_QueryBodies.bits5 : waitsOk billiardlaw24_QueryBodies.T5.2 billiardlaw24_QueryBodies.B5 = true := by kernel_rfl
def billiardlaw24_QueryBodies.T7 : Bool × List (List Nat × List Nat) := (true, [([], []), ([], []), ([1], [1]), ([0, 2, 2], [0, 2]), ([3, 3], [3]), ([4], [4]), ([4], [4]), ([6, 4, 4], [4, 6]), ([5, 7, 7, 4], [4, 5, 7]), ([4, 8], [4, 8]), ([9, 8], [9]), ([10], [10]), ([10], [10]), ([12, 10], [10, 12]), ([11, 13, 10, 10], [10, 11, 13]), ([10, 14], [10, 14]), ([15, 14], [15]), ([16], [16]), ([16], [16]), ([18, 16, 16], [16, 18]), ([17, 19, 19, 16], [16, 17, 19]), ([16], [16]), ([21, 16], [16, 21]), ([22, 16], [16, 22]), ([23, 16], [16, 23]), ([20, 24, 16], [16, 20, 24]), ([16, 25], [16, 25]), ([26, 20, 0, 1, 2, 3, 4, 5, 6, 7, 8, 9, 10, 11, 12, 13, 14, 15, 16, 17, 18, 19, 20, 21, 22, 23, 24, 25, 26], [26])])
def billiardlaw24_QueryBodies.B7 : List Nat := [0, 0, 2, 7, 15, 31, 31, 95, 255, 511, 1023, 2047, 2047, 6143, 16383, 32767, 65535, 131071, 131071, 393215, 1048575, 131071, 2228223, 6422527, 14811135, 33554431, 67108863, 134217727]
theorem billiardlaw24_QueryBodies.tab7 : rtab .any (opsOf Try.f5 7) = billiardlaw24_QueryBodies.T7 := by kernel_rfl
theorem billiardlaw24_QueryBodies.bits7 : waitsOk billiardlaw24_QueryBodies.T7.2 billiardlaw24_QueryBodies.B7 = true := by kernel_rfl
theorem billiardlaw24_QueryBodies.j1.dead {k : Nat} {p1 : Int} {p2 : Int} {p3 : Int} {p4 : Int} {p5 : Int} {p6 : Int} {p7 : Int} {p8 : Int} {p9 : Int} {p10 : Int} {r : Bool} (h : billiardlaw24_QueryBodies.j1 k true p1 p2 p3 p4 p5 p6 p7 p8 p9 p10 = some r) (hr : r = true) : False := by
 cases k with
 | zero => simp only [billiardlaw24_QueryBodies.j1] at h; cases h
 | succ k =>
  have e : billiardlaw24_QueryBodies.j1 (k + 1) true p1 p2 p3 p4 p5 p6 p7 p8 p9 p10 = some false := by simp only [billiardlaw24_QueryBodies.j1]; rfl
  rw [e, hr] at h; cases h
set_option maxHeartbeats 8000000 in
set_option maxRecDepth 100000 in
theorem billiardlaw24_QueryBodies.calls (k : Nat) (a0_0 : Int) (a0_1 : Int) (a0_2 : Int) (a0_3 : Int) (a0_4 : Int) (a0_5 : Int) (a0_6 : Int) (a0_7 : Int) (a0_8 : Int) (a0_9 : Int) (a1_0 : Int) (a1_1 : Int) (r : Bool) (w : World) (h : billiardlaw24_QueryBodies.f k a0_0 a0_1 a0_2 a0_3 a0_4 a0_5 a0_6 a0_7 a0_8 a0_9 a1_0 a1_1 = some r) (hr : r = true) :
  Calls Try.prog 5 #[.agg #[.int .u32 a0_0, .int .i32 a0_1, .int .i32 a0_2, .int .i32 a0_3, .int .i32 a0_4, .int .i32 a0_5, .int .i32 a0_6, .int .i32 a0_7, .int .i32 a0_8, .int .i32 a0_9], .agg #[.int .i32 a1_0, .int .i32 a1_1]] w fun e w' => e = .returned (.bool r) ∧ Below w.heap.size w w' := by
 have HR := aM hr
 clear hr
 have hu32 := Try.underlying32
 have hu24 := Try.underlying24
 have HB := aM (Below.refl w.heap.size w)
 have H : ((billiardlaw24_awake.f k).bind fun t337 => (if t337 = true then ((billiardref05_Check.f k a0_0 a0_1 a0_2 a0_3 a0_4 a0_5 a0_6 a0_7 a0_8 a0_9).bind fun t338 => (if t338 = 0 then ((billiardref12_In.f a1_0 a1_1).bind fun t339 => (billiardlaw24_QueryBodies.j0 k (!t339) a0_0 a0_1 a0_2 a0_3 a0_4 a0_5 a0_6 a0_7 a0_8 a0_9 a1_0 a1_1)) else (billiardlaw24_QueryBodies.j0 k true a0_0 a0_1 a0_2 a0_3 a0_4 a0_5 a0_6 a0_7 a0_8 a0_9 a1_0 a1_1))) else (billiardlaw24_QueryBodies.j0 k true a0_0 a0_1 a0_2 a0_3 a0_4 a0_5 a0_6 a0_7 a0_8 a0_9 a1_0 a1_1))) = some r := h
 clear h
 have HC3 := aM H
 clear H
 go_enter Try.func5, Try.ntmps5
 go_upto_region 1 with (first | ((with_reducible refine gate_dst (N := 2) rfl ?_); refine box_event ?hg (N := 2) ?hd (cs := #[.int .u32 a0_0, .int .i32 a0_1, .int .i32 a0_2, .int .i32 a0_3, .int .i32 a0_4, .int .i32 a0_5, .int .i32 a0_6, .int .i32 a0_7, .int .i32 a0_8, .int .i32 a0_9]) (t := 32) ?hr ?_; (case hd => rfl); (case hg => rfl); (case hr => first | (go_simp; done) | (go_simp; rfl)); intro b335 hg w4 hbox hb; have n0_ := aM (lT (by repeat (first | (with_reducible first | exact HB.out | apply lA | apply lN | apply lD) | exact HB.out)) hb); have n1_ := aM (hbox); have n2_ := aM ((by rw [hg]; exact (lZ (by repeat (first | (with_reducible first | exact HB.out | apply lA | apply lN | apply lD) | exact HB.out))) : w.heap.size ≤ b335)); have n3_ := aM ((by rw [hg]; exact (lZ (by repeat (first | (with_reducible first | exact HB.out | apply lA | apply lN | apply lD) | exact HB.out))) : w.heap.size ≤ b335)); clear HB; have HB := n0_; have BK335 := n1_; have GW335 := n2_; have GE335 := n3_; clear n0_ n1_ n2_ n3_; clear hb hbox hg) | ((with_reducible refine gate_dst (N := 3) rfl ?_); refine box_event ?hg (N := 3) ?hd (cs := #[.int .i32 a1_0, .int .i32 a1_1]) (t := 24) ?hr ?_; (case hd => rfl); (case hg => rfl); (case hr => first | (go_simp; done) | (go_simp; rfl)); intro b336 hg w5 hbox hb; have n0_ := aM (bB (by (with_reducible repeat first | apply bN | apply bD | apply bA); exact BK335.out) hb); have n1_ := aM (lT (by repeat (first | (with_reducible first | exact HB.out | apply lA | apply lN | apply lD | refine lS ?_ GE335.out) | exact HB.out)) hb); have n2_ := aM (hbox); have n3_ := aM ((by rw [hg]; exact (lZ (by repeat (first | (with_reducible first | exact HB.out | apply lA | apply lN | apply lD | refine lS ?_ GE335.out) | exact HB.out))) : w.heap.size ≤ b336)); have n4_ := aM ((by rw [hg]; exact (lZ (by repeat (first | (with_reducible first | exact HB.out | apply lA | apply lN | apply lD | refine lS ?_ GE335.out) | exact HB.out))) : w.heap.size ≤ b336)); have n5_ := aM ((by rw [hg]; exact Nat.ne_of_lt (bL (g := b335) (by (with_reducible repeat first | apply bN | apply bD | apply bA); exact BK335.out)) : b335 ≠ b336)); have n6_ := aM ((by rw [hg]; exact Nat.ne_of_gt (bL (g := b335) (by (with_reducible repeat first | apply bN | apply bD | apply bA); exact BK335.out)) : b336 ≠ b335)); clear BK335; clear HB; have BK335 := n0_; have HB := n1_; have BK336 := n2_; have GW336 := n3_; have GE336 := n4_; have N0_ := n5_; have N1_ := n6_; clear n0_ n1_ n2_ n3_ n4_ n5_ n6_; clear hb hbox hg))
 (try simp only [Act.put, sA, sB, sC])
 go_cut [18] (fun v18 wc => ∃ (kq : Nat) (x18_2 : Bool), v18 = .bool x18_2 ∧ Aside0 (billiardlaw24_QueryBodies.j0 kq x18_2 a0_0 a0_1 a0_2 a0_3 a0_4 a0_5 a0_6 a0_7 a0_8 a0_9 a1_0 a1_1 = some r) ∧ Aside0 (kq ≤ k) ∧ Aside0 (wc.heap[b335]? = some (.cells #[.int .u32 a0_0, .int .i32 a0_1, .int .i32 a0_2, .int .i32 a0_3, .int .i32 a0_4, .int .i32 a0_5, .int .i32 a0_6, .int .i32 a0_7, .int .i32 a0_8, .int .i32 a0_9] 32 (0, 0))) ∧ Aside0 (wc.heap[b336]? = some (.cells #[.int .i32 a1_0, .int .i32 a1_1] 24 (0, 0))) ∧ Aside0 (Below w.heap.size w wc))
 case first =>
  have H := HC3.out
  clear HC3
  replace H := Option.bind_eq_some_iff.mp H
  obtain ⟨t337, A60, H⟩ := H
  try dsimp only at H
  have A6 := aM A60
  clear A60
  by_cases c7 : t337 = true
  ·subst c7
   rw [if_pos rfl] at H
   replace H := Option.bind_eq_some_iff.mp H
   obtain ⟨t338, A80, H⟩ := H
   try dsimp only at H
   have A8 := aM A80
   clear A80
   by_cases c9 : t338 = 0
   ·rw [if_pos c9] at H
    have c9b0 : (t338 == 0) = true := beq_iff_eq.mpr c9
    have c9b1 : (t338 != 0) = false := bne_eq_false_iff_eq.mpr c9
    clear c9
    (first | rw [c9b0] | (simp only [i64_w, i32_w]; rw [c9b0]) | skip)
    replace H := Option.bind_eq_some_iff.mp H
    obtain ⟨t339, A100, H⟩ := H
    try dsimp only at H
    have A10 := aM A100
    clear A100
    have H' := aM H
    clear H
    go_wp2_with (first | ((with_reducible refine gate_callee (f := 8) rfl ?_); refine goesL_ (some 7) rfl rfl Try.func8 (by kernel_rfl) rfl #[] rfl (by (try simp only [List.map_toArray, List.map_cons, List.map_nil]); first | done | rfl | (simp only [List.length_drop, List.length_take]; rfl)) ?_; (with_reducible refine (billiardlaw24_awake.calls k  true _ A6.out).mono ?_); rintro e w11 ⟨rfl, hb⟩; refine ⟨_, rfl, ?_⟩; have n_ := kB2 BK335 BK336 HB (by repeat first | exact lR _ _ | apply lN | apply lD | apply lA) hb; clear BK335 BK336 HB; obtain ⟨BK335, BK336, HB⟩ := n_; (try clear hb); (try clear hb2); (try clear hk); (try clear hi); have hcz13_0 : w11.cell? ⟨b335, 0, none⟩ = some (.int .u32 a0_0) := (bC BK335.out 0).trans rfl; have hcz13_1 : w11.cell? ⟨b335, 1, none⟩ = some (.int .i32 a0_1) := (bC BK335.out 1).trans rfl; have hcz13_2 : w11.cell? ⟨b335, 2, none⟩ = some (.int .i32 a0_2) := (bC BK335.out 2).trans rfl; have hcz13_3 : w11.cell? ⟨b335, 3, none⟩ = some (.int .i32 a0_3) := (bC BK335.out 3).trans rfl; have hcz13_4 : w11.cell? ⟨b335, 4, none⟩ = some (.int .i32 a0_4) := (bC BK335.out 4).trans rfl; have hcz13_5 : w11.cell? ⟨b335, 5, none⟩ = some (.int .i32 a0_5) := (bC BK335.out 5).trans rfl; have hcz13_6 : w11.cell? ⟨b335, 6, none⟩ = some (.int .i32 a0_6) := (bC BK335.out 6).trans rfl; have hcz13_7 : w11.cell? ⟨b335, 7, none⟩ = some (.int .i32 a0_7) := (bC BK335.out 7).trans rfl; have hcz13_8 : w11.cell? ⟨b335, 8, none⟩ = some (.int .i32 a0_8) := (bC BK335.out 8).trans rfl; have hcz13_9 : w11.cell? ⟨b335, 9, none⟩ = some (.int .i32 a0_9) := (bC BK335.out 9).trans rfl) | (go_at_call 21; (with_reducible refine (billiardref05_Check.calls k a0_0 a0_1 a0_2 a0_3 a0_4 a0_5 a0_6 a0_7 a0_8 a0_9 t338 _ A8.out).mono ?_); rintro e w14 ⟨rfl, hb⟩; have n_ := kB2 BK335 BK336 HB (by repeat first | exact lR _ _ | apply lN | apply lD | apply lA) hb; clear BK335 BK336 HB; obtain ⟨BK335, BK336, HB⟩ := n_; (try clear hb); (try clear hb2); (try clear hk); (try clear hi); have hcz15_0 : w14.cell? ⟨b336, 0, none⟩ = some (.int .i32 a1_0) := (bC BK336.out 0).trans rfl; have hcz15_1 : w14.cell? ⟨b336, 1, none⟩ = some (.int .i32 a1_1) := (bC BK336.out 1).trans rfl) | (go_at_call 9; (with_reducible refine (billiardref12_In.calls a1_0 a1_1 t339 _ A10.out).mono ?_); rintro e w16 ⟨rfl, hb⟩; have n_ := kB2 BK335 BK336 HB (by repeat first | exact lR _ _ | apply lN | apply lD | apply lA) hb; clear BK335 BK336 HB; obtain ⟨BK335, BK336, HB⟩ := n_; (try clear hb); (try clear hb2); (try clear hk); (try clear hi)))
    go_meet
    case rel => exact ⟨_, (!t339), (by first | rfl | (simp; done) | (simp [*]; done)), H', ⟨by first | omega | exact Nat.le_refl _⟩, ⟨by (with_reducible repeat first | apply bN | apply bD | apply bA); exact BK335.out⟩, ⟨by (with_reducible repeat first | apply bN | apply bD | apply bA); exact BK336.out⟩, ⟨by repeat (first | (with_reducible first | exact HB.out | apply lA | apply lN | apply lD) | exact HB.out)⟩⟩
   ·rw [if_neg c9] at H
    have c9b0 : (t338 == 0) = false := beq_eq_false_iff_ne.mpr c9
    have c9b1 : (t338 != 0) = true := bne_iff_ne.mpr c9
    (first | rw [c9b0] | (simp only [i64_w, i32_w]; rw [c9b0]) | skip)
    have H' := aM H
    clear H
    go_wp2_with (first | ((with_reducible refine gate_callee (f := 8) rfl ?_); refine goesL_ (some 7) rfl rfl Try.func8 (by kernel_rfl) rfl #[] rfl (by (try simp only [List.map_toArray, List.map_cons, List.map_nil]); first | done | rfl | (simp only [List.length_drop, List.length_take]; rfl)) ?_; (with_reducible refine (billiardlaw24_awake.calls k  true _ A6.out).mono ?_); rintro e w17 ⟨rfl, hb⟩; refine ⟨_, rfl, ?_⟩; have n_ := kB2 BK335 BK336 HB (by repeat first | exact lR _ _ | apply lN | apply lD | apply lA) hb; clear BK335 BK336 HB; obtain ⟨BK335, BK336, HB⟩ := n_; (try clear hb); (try clear hb2); (try clear hk); (try clear hi); have hcz19_0 : w17.cell? ⟨b335, 0, none⟩ = some (.int .u32 a0_0) := (bC BK335.out 0).trans rfl; have hcz19_1 : w17.cell? ⟨b335, 1, none⟩ = some (.int .i32 a0_1) := (bC BK335.out 1).trans rfl; have hcz19_2 : w17.cell? ⟨b335, 2, none⟩ = some (.int .i32 a0_2) := (bC BK335.out 2).trans rfl; have hcz19_3 : w17.cell? ⟨b335, 3, none⟩ = some (.int .i32 a0_3) := (bC BK335.out 3).trans rfl; have hcz19_4 : w17.cell? ⟨b335, 4, none⟩ = some (.int .i32 a0_4) := (bC BK335.out 4).trans rfl; have hcz19_5 : w17.cell? ⟨b335, 5, none⟩ = some (.int .i32 a0_5) := (bC BK335.out 5).trans rfl; have hcz19_6 : w17.cell? ⟨b335, 6, none⟩ = some (.int .i32 a0_6) := (bC BK335.out 6).trans rfl; have hcz19_7 : w17.cell? ⟨b335, 7, none⟩ = some (.int .i32 a0_7) := (bC BK335.out 7).trans rfl; have hcz19_8 : w17.cell? ⟨b335, 8, none⟩ = some (.int .i32 a0_8) := (bC BK335.out 8).trans rfl; have hcz19_9 : w17.cell? ⟨b335, 9, none⟩ = some (.int .i32 a0_9) := (bC BK335.out 9).trans rfl) | (go_at_call 21; (with_reducible refine (billiardref05_Check.calls k a0_0 a0_1 a0_2 a0_3 a0_4 a0_5 a0_6 a0_7 a0_8 a0_9 t338 _ A8.out).mono ?_); rintro e w20 ⟨rfl, hb⟩; have n_ := kB2 BK335 BK336 HB (by repeat first | exact lR _ _ | apply lN | apply lD | apply lA) hb; clear BK335 BK336 HB; obtain ⟨BK335, BK336, HB⟩ := n_; (try clear hb); (try clear hb2); (try clear hk); (try clear hi)))
    go_meet
    case rel => exact ⟨_, (true), (by first | rfl | (simp; done) | (simp [*]; done)), H', ⟨by first | omega | exact Nat.le_refl _⟩, ⟨by (with_reducible repeat first | apply bN | apply bD | apply bA); exact BK335.out⟩, ⟨by (with_reducible repeat first | apply bN | apply bD | apply bA); exact BK336.out⟩, ⟨by repeat (first | (with_reducible first | exact HB.out | apply lA | apply lN | apply lD) | exact HB.out)⟩⟩
  ·replace c7 := Bool.eq_false_iff.mpr c7
   subst c7
   exact absurd (billiardlaw24_awake.only A6.out) (by decide)
 case rest =>
  clear HC3
  try clear c1
  try clear p2
  try clear c5
  try clear c7
  try clear c8
  try clear c9
  try clear c9b0
  try clear c9b1
  try clear c12
  try clear c18
  try clear hcz13_0
  try clear hcz13_1
  try clear hcz13_2
  try clear hcz13_3
  try clear hcz13_4
  try clear hcz13_5
  try clear hcz13_6
  try clear hcz13_7
  try clear hcz13_8
  try clear hcz13_9
  try clear hcz15_0
  try clear hcz15_1
  try clear hcz19_0
  try clear hcz19_1
  try clear hcz19_2
  try clear hcz19_3
  try clear hcz19_4
  try clear hcz19_5
  try clear hcz19_6
  try clear hcz19_7
  try clear hcz19_8
  try clear hcz19_9
  try clear hfz13_0
  try clear hfz13_1
  try clear hfz13_2
  try clear hfz13_3
  try clear hfz13_4
  try clear hfz13_5
  try clear hfz13_6
  try clear hfz13_7
  try clear hfz13_8
  try clear hfz13_9
  try clear hfz15_0
  try clear hfz15_1
  try clear hfz19_0
  try clear hfz19_1
  try clear hfz19_2
  try clear hfz19_3
  try clear hfz19_4
  try clear hfz19_5
  try clear hfz19_6
  try clear hfz19_7
  try clear hfz19_8
  try clear hfz19_9
  obtain ⟨kq, x18_2, rfl, HA, HJ2, BK335, BK336, HB⟩ := hcut
  cases kq with
  | zero => exact absurd HA.out (by simp [billiardlaw24_QueryBodies.j0])
  | succ kj2 =>
   have H := HA.out
   clear HA
   simp only [billiardlaw24_QueryBodies.j0] at H
   by_cases c21 : x18_2 = true
   ·subst c21
    rw [if_pos rfl] at H
    replace H := Option.bind_eq_some_iff.mp H
    obtain ⟨t340, A220, H⟩ := H
    try dsimp only at H
    have A22 := aM A220
    clear A220
    obtain rfl := Option.some.inj H
    go_wp2_with (first | ((with_reducible refine gate_callee (f := 8) rfl ?_); refine goesL_ (some 19) rfl rfl Try.func8 (by kernel_rfl) rfl #[] rfl (by (try simp only [List.map_toArray, List.map_cons, List.map_nil]); first | done | rfl | (simp only [List.length_drop, List.length_take]; rfl)) ?_; (with_reducible refine (billiardlaw24_awake.calls kj2  t340 _ A22.out).mono ?_); rintro e w23 ⟨rfl, hb⟩; refine ⟨_, rfl, ?_⟩; have n_ := kB2 BK335 BK336 HB (by repeat first | exact lR _ _ | apply lN | apply lD | apply lA) hb; clear BK335 BK336 HB; obtain ⟨BK335, BK336, HB⟩ := n_; (try clear hb); (try clear hb2); (try clear hk); (try clear hi)))
    go_ret
    exact ⟨by first | rfl | (simp [errW_none, errW_some] <;> rfl) | (simp [*, errW_none, errW_some] <;> rfl), by repeat (first | (with_reducible first | exact HB.out | apply lA | apply lN | apply lD) | exact HB.out)⟩
   ·replace c21 := Bool.eq_false_iff.mpr c21
    subst c21
    rw [if_neg (show ¬ (false = true) by decide)] at H
    replace H := Option.bind_eq_some_iff.mp H
    obtain ⟨t341, A240, H⟩ := H
    try dsimp only at H
    have A24 := aM A240
    clear A240
    replace H := Option.bind_eq_some_iff.mp H
    obtain ⟨t342, A250, H⟩ := H
    try dsimp only at H
    have A25 := aM A250
    clear A250
    have HC26 := aM H
    clear H
    have hcz28_0 : wc.cell? ⟨b335, 0, none⟩ = some (.int .u32 a0_0) := (bC BK335.out 0).trans rfl
    have hcz28_1 : wc.cell? ⟨b335, 1, none⟩ = some (.int .i32 a0_1) := (bC BK335.out 1).trans rfl
    have hcz28_2 : wc.cell? ⟨b335, 2, none⟩ = some (.int .i32 a0_2) := (bC BK335.out 2).trans rfl
    have hcz28_3 : wc.cell? ⟨b335, 3, none⟩ = some (.int .i32 a0_3) := (bC BK335.out 3).trans rfl
    have hcz28_4 : wc.cell? ⟨b335, 4, none⟩ = some (.int .i32 a0_4) := (bC BK335.out 4).trans rfl
    have hcz28_5 : wc.cell? ⟨b335, 5, none⟩ = some (.int .i32 a0_5) := (bC BK335.out 5).trans rfl
    have hcz28_6 : wc.cell? ⟨b335, 6, none⟩ = some (.int .i32 a0_6) := (bC BK335.out 6).trans rfl
    have hcz28_7 : wc.cell? ⟨b335, 7, none⟩ = some (.int .i32 a0_7) := (bC BK335.out 7).trans rfl
    have hcz28_8 : wc.cell? ⟨b335, 8, none⟩ = some (.int .i32 a0_8) := (bC BK335.out 8).trans rfl
    have hcz28_9 : wc.cell? ⟨b335, 9, none⟩ = some (.int .i32 a0_9) := (bC BK335.out 9).trans rfl
    have hcz29_0 : wc.cell? ⟨b336, 0, none⟩ = some (.int .i32 a1_0) := (bC BK336.out 0).trans rfl
    have hcz29_1 : wc.cell? ⟨b336, 1, none⟩ = some (.int .i32 a1_1) := (bC BK336.out 1).trans rfl
    go_upto_region 5 with (first | ((with_reducible refine gate_callee (f := 10) rfl ?_); refine goesL_ (some 22) rfl rfl Try.func10 (by kernel_rfl) rfl #[.agg #[.int .u32 a0_0, .int .i32 a0_1, .int .i32 a0_2, .int .i32 a0_3, .int .i32 a0_4, .int .i32 a0_5, .int .i32 a0_6, .int .i32 a0_7, .int .i32 a0_8, .int .i32 a0_9], .agg #[.int .i32 a1_0, .int .i32 a1_1]] rfl (by (try simp only [List.map_toArray, List.map_cons, List.map_nil]); first | done | rfl | (simp only [List.length_drop, List.length_take]; rfl)) ?_; (with_reducible refine (query_Distance.calls kj2 a0_0 a0_1 a0_2 a0_3 a0_4 a0_5 a0_6 a0_7 a0_8 a0_9 a1_0 a1_1 t341 _ A24.out).mono ?_); rintro e w30 ⟨rfl, hb⟩; refine ⟨_, rfl, ?_⟩; have n_ := kB2 BK335 BK336 HB (by repeat first | exact lR _ _ | apply lN | apply lD | apply lA) hb; clear BK335 BK336 HB; obtain ⟨BK335, BK336, HB⟩ := n_; (try clear hb); (try clear hb2); (try clear hk); (try clear hi); have hcz31_0 : w30.cell? ⟨b335, 0, none⟩ = some (.int .u32 a0_0) := (bC BK335.out 0).trans rfl; have hcz31_1 : w30.cell? ⟨b335, 1, none⟩ = some (.int .i32 a0_1) := (bC BK335.out 1).trans rfl; have hcz31_2 : w30.cell? ⟨b335, 2, none⟩ = some (.int .i32 a0_2) := (bC BK335.out 2).trans rfl; have hcz31_3 : w30.cell? ⟨b335, 3, none⟩ = some (.int .i32 a0_3) := (bC BK335.out 3).trans rfl; have hcz31_4 : w30.cell? ⟨b335, 4, none⟩ = some (.int .i32 a0_4) := (bC BK335.out 4).trans rfl; have hcz31_5 : w30.cell? ⟨b335, 5, none⟩ = some (.int .i32 a0_5) := (bC BK335.out 5).trans rfl; have hcz31_6 : w30.cell? ⟨b335, 6, none⟩ = some (.int .i32 a0_6) := (bC BK335.out 6).trans rfl; have hcz31_7 : w30.cell? ⟨b335, 7, none⟩ = some (.int .i32 a0_7) := (bC BK335.out 7).trans rfl; have hcz31_8 : w30.cell? ⟨b335, 8, none⟩ = some (.int .i32 a0_8) := (bC BK335.out 8).trans rfl; have hcz31_9 : w30.cell? ⟨b335, 9, none⟩ = some (.int .i32 a0_9) := (bC BK335.out 9).trans rfl; have hcz32_0 : w30.cell? ⟨b336, 0, none⟩ = some (.int .i32 a1_0) := (bC BK336.out 0).trans rfl; have hcz32_1 : w30.cell? ⟨b336, 1, none⟩ = some (.int .i32 a1_1) := (bC BK336.out 1).trans rfl) | ((with_reducible refine gate_callee (f := 12) rfl ?_); refine goesL_ (some 25) rfl rfl Try.func12 (by kernel_rfl) rfl #[.agg #[.int .u32 a0_0, .int .i32 a0_1, .int .i32 a0_2, .int .i32 a0_3, .int .i32 a0_4, .int .i32 a0_5, .int .i32 a0_6, .int .i32 a0_7, .int .i32 a0_8, .int .i32 a0_9], .agg #[.int .i32 a1_0, .int .i32 a1_1]] rfl (by (try simp only [List.map_toArray, List.map_cons, List.map_nil]); first | done | rfl | (simp only [List.length_drop, List.length_take]; rfl)) ?_; (with_reducible refine (query_In.calls a0_0 a0_1 a0_2 a0_3 a0_4 a0_5 a0_6 a0_7 a0_8 a0_9 a1_0 a1_1 t342 _ A25.out).mono ?_); rintro e w33 ⟨rfl, hb⟩; refine ⟨_, rfl, ?_⟩; have n_ := kB2 BK335 BK336 HB (by repeat first | exact lR _ _ | apply lN | apply lD | apply lA) hb; clear BK335 BK336 HB; obtain ⟨BK335, BK336, HB⟩ := n_; (try clear hb); (try clear hb2); (try clear hk); (try clear hi)))
    (try simp only [Act.put, sA, sB, sC])
    go_cut [45] (fun v45 wc => ∃ (kq : Nat) (x45_25 : Bool), v45 = .bool x45_25 ∧ Aside0 (billiardlaw24_QueryBodies.j1 kq x45_25 a0_0 a0_1 a0_2 a0_3 a0_4 a0_5 a0_6 a0_7 a0_8 a0_9 = some r) ∧ Aside0 (kq ≤ kj2) ∧ Aside0 (wc.heap[b335]? = some (.cells #[.int .u32 a0_0, .int .i32 a0_1, .int .i32 a0_2, .int .i32 a0_3, .int .i32 a0_4, .int .i32 a0_5, .int .i32 a0_6, .int .i32 a0_7, .int .i32 a0_8, .int .i32 a0_9] 32 (0, 0))) ∧ Aside0 (wc.heap[b336]? = some (.cells #[.int .i32 a1_0, .int .i32 a1_1] 24 (0, 0))) ∧ Aside0 (Below w.heap.size w wc))
    case first =>
     have H := HC26.out
     clear HC26
     by_cases c34 : t342 = true
     ·subst c34
      rw [if_pos rfl] at H
      by_cases c35 : t341 > 0
      ·rw [if_pos c35] at H
       have c35b0 : decide (0 < t341) = true := decide_eq_true c35
       clear c35
       (first | rw [c35b0] | (simp only [i64_w, i32_w]; rw [c35b0]) | skip)
       have H' := aM H
       clear H
       try go_wp2
       have n_ := kA2 BK335 BK336 HB (lD (lR _ _))
       clear BK335 BK336 HB
       obtain ⟨BK335, BK336, HB⟩ := n_
       refine start_ (n := 20) (S := fun w' => True) (ds := []) #[F,F,F,F,F,F,F,F,F,F,F,F,F,F,F,F,F,F,F,F] (by kernel_rfl) rfl rfl trivial (fun hHeld => ?_); refine with_tabW billiardlaw24_QueryBodies.tab5 billiardlaw24_QueryBodies.bits5 (fun HT_ HW_ => ?_)
       generalize w33.drew = w36 at BK335 BK336 HB hHeld ⊢
       refine pure_ (i := 0) (N := some 26) (v := ?_) (a' := ?_) #[T,F,F,F,F,F,F,F,F,F,F,F,F,F,F,F,F,F,F,F] rfl rfl (any_of HT_.out (by kernel_rfl)) (fun _ _ _ h => h) (Or.inl ⟨by rfl, ?_⟩) ?_ ?_
       rotate_left
       ·intro w'
        go_simp
        with_reducible rfl
       rotate_left
       ·simp only [Act.put, sA, sB, sC, i64_w, i32_w]
        rfl
       refine pure_ (i := 1) (N := some 27) (v := ?_) (a' := ?_) #[T,T,F,F,F,F,F,F,F,F,F,F,F,F,F,F,F,F,F,F] rfl rfl (any_of HT_.out (by kernel_rfl)) (fun _ _ _ h => h) (Or.inl ⟨by rfl, ?_⟩) ?_ ?_
       rotate_left
       ·intro w'
        go_simp
        with_reducible rfl
       rotate_left
       ·simp only [Act.put, sA, sB, sC, i64_w, i32_w]
        rfl
       refine pure_ (i := 2) (N := some 28) (v := ?_) (a' := ?_) #[T,T,T,F,F,F,F,F,F,F,F,F,F,F,F,F,F,F,F,F] rfl rfl (any_of HT_.out (by kernel_rfl)) (fun _ _ _ h => h) (Or.inl ⟨by rfl, ?_⟩) ?_ ?_
       rotate_left
       ·intro w'
        go_simp
        with_reducible rfl
       rotate_left
       ·simp only [Act.put, sA, sB, sC, i64_w, i32_w]
        rfl
       refine pure_ (i := 3) (N := some 29) (v := ?_) (a' := ?_) #[T,T,T,T,F,F,F,F,F,F,F,F,F,F,F,F,F,F,F,F] rfl rfl (any_of HT_.out (by kernel_rfl)) (fun _ _ _ h => h) (Or.inl ⟨by rfl, ?_⟩) ?_ ?_
       rotate_left
       ·intro w'
        go_simp
        with_reducible rfl
       rotate_left
       ·simp only [Act.put, sA, sB, sC, i64_w, i32_w]
        rfl
       refine pure_ (i := 4) (N := some 30) (v := ?_) (a' := ?_) #[T,T,T,T,T,F,F,F,F,F,F,F,F,F,F,F,F,F,F,F] rfl rfl (any_of HT_.out (by kernel_rfl)) (fun _ _ _ h => h) (Or.inl ⟨by rfl, ?_⟩) ?_ ?_
       rotate_left
       ·intro w'
        go_simp
        with_reducible rfl
       rotate_left
       ·simp only [Act.put, sA, sB, sC, i64_w, i32_w]
        rfl
       refine pure_ (i := 5) (N := some 31) (v := undef) (a' := ?_) #[T,T,T,T,T,T,F,F,F,F,F,F,F,F,F,F,F,F,F,F] rfl rfl (any_of HT_.out (by kernel_rfl)) (fun _ _ _ h => h) (Or.inr ⟨by rfl, rfl⟩) ?_ ?_
       rotate_left
       ·simp only [Act.put, sA, sB, sC, i64_w, i32_w]
        rfl
       refine pure_ (i := 6) (N := some 32) (v := undef) (a' := ?_) #[T,T,T,T,T,T,T,F,F,F,F,F,F,F,F,F,F,F,F,F] rfl rfl (any_of HT_.out (by kernel_rfl)) (fun _ _ _ h => h) (Or.inr ⟨by rfl, rfl⟩) ?_ ?_
       rotate_left
       ·simp only [Act.put, sA, sB, sC, i64_w, i32_w]
        rfl
       refine pure_ (i := 7) (N := some 33) (v := undef) (a' := ?_) #[T,T,T,T,T,T,T,T,F,F,F,F,F,F,F,F,F,F,F,F] rfl rfl (any_of HT_.out (by kernel_rfl)) (fun _ _ _ h => h) (Or.inr ⟨by rfl, rfl⟩) ?_ ?_
       rotate_left
       ·simp only [Act.put, sA, sB, sC, i64_w, i32_w]
        rfl
       refine pure_ (i := 8) (N := some 34) (v := undef) (a' := ?_) #[T,T,T,T,T,T,T,T,T,F,F,F,F,F,F,F,F,F,F,F] rfl rfl (any_of HT_.out (by kernel_rfl)) (fun _ _ _ h => h) (Or.inr ⟨by rfl, rfl⟩) ?_ ?_
       rotate_left
       ·simp only [Act.put, sA, sB, sC, i64_w, i32_w]
        rfl
       refine pure_ (i := 9) (N := some 35) (v := undef) (a' := ?_) #[T,T,T,T,T,T,T,T,T,T,F,F,F,F,F,F,F,F,F,F] rfl rfl (any_of HT_.out (by kernel_rfl)) (fun _ _ _ h => h) (Or.inr ⟨by rfl, rfl⟩) ?_ ?_
       rotate_left
       ·simp only [Act.put, sA, sB, sC, i64_w, i32_w]
        rfl
       refine pure_ (i := 10) (N := some 36) (v := ?_) (a' := ?_) #[T,T,T,T,T,T,T,T,T,T,T,F,F,F,F,F,F,F,F,F] rfl rfl (any_of HT_.out (by kernel_rfl)) (fun _ _ _ h => h) (Or.inl ⟨by rfl, ?_⟩) ?_ ?_
       rotate_left
       ·intro w'
        go_simp
        with_reducible rfl
       rotate_left
       ·simp only [Act.put, sA, sB, sC, i64_w, i32_w]
        rfl
       refine pure_ (i := 11) (N := some 37) (v := ?_) (a' := ?_) #[T,T,T,T,T,T,T,T,T,T,T,T,F,F,F,F,F,F,F,F] rfl rfl (any_of HT_.out (by kernel_rfl)) (fun _ _ _ h => h) (Or.inl ⟨by rfl, ?_⟩) ?_ ?_
       rotate_left
       ·intro w'
        go_simp
        with_reducible rfl
       rotate_left
       ·simp only [Act.put, sA, sB, sC, i64_w, i32_w]
        rfl
       refine pure_ (i := 12) (N := some 38) (v := ?_) (a' := ?_) #[T,T,T,T,T,T,T,T,T,T,T,T,T,F,F,F,F,F,F,F] rfl rfl (any_of HT_.out (by kernel_rfl)) (fun _ _ _ h => h) (Or.inl ⟨by rfl, ?_⟩) ?_ ?_
       rotate_left
       ·intro w'
        go_simp
        with_reducible rfl
       rotate_left
       ·simp only [Act.put, sA, sB, sC, i64_w, i32_w]
        rfl
       refine pure_ (i := 13) (N := some 39) (v := undef) (a' := ?_) #[T,T,T,T,T,T,T,T,T,T,T,T,T,T,F,F,F,F,F,F] rfl rfl (any_of HT_.out (by kernel_rfl)) (fun _ _ _ h => h) (Or.inr ⟨by rfl, rfl⟩) ?_ ?_
       rotate_left
       ·simp only [Act.put, sA, sB, sC, i64_w, i32_w]
        rfl
       refine pure_ (i := 14) (N := some 40) (v := undef) (a' := ?_) #[T,T,T,T,T,T,T,T,T,T,T,T,T,T,T,F,F,F,F,F] rfl rfl (any_of HT_.out (by kernel_rfl)) (fun _ _ _ h => h) (Or.inr ⟨by rfl, rfl⟩) ?_ ?_
       rotate_left
       ·simp only [Act.put, sA, sB, sC, i64_w, i32_w]
        rfl
       refine pure_ (i := 15) (N := some 41) (v := undef) (a' := ?_) #[T,T,T,T,T,T,T,T,T,T,T,T,T,T,T,T,F,F,F,F] rfl rfl (any_of HT_.out (by kernel_rfl)) (fun _ _ _ h => h) (Or.inr ⟨by rfl, rfl⟩) ?_ ?_
       rotate_left
       ·simp only [Act.put, sA, sB, sC, i64_w, i32_w]
        rfl
       refine pure_ (i := 16) (N := some 42) (v := undef) (a' := ?_) #[T,T,T,T,T,T,T,T,T,T,T,T,T,T,T,T,T,F,F,F] rfl rfl (any_of HT_.out (by kernel_rfl)) (fun _ _ _ h => h) (Or.inr ⟨by rfl, rfl⟩) ?_ ?_
       rotate_left
       ·simp only [Act.put, sA, sB, sC, i64_w, i32_w]
        rfl
       refine pure_ (i := 17) (N := some 43) (v := undef) (a' := ?_) #[T,T,T,T,T,T,T,T,T,T,T,T,T,T,T,T,T,T,F,F] rfl rfl (any_of HT_.out (by kernel_rfl)) (fun _ _ _ h => h) (Or.inr ⟨by rfl, rfl⟩) ?_ ?_
       rotate_left
       ·simp only [Act.put, sA, sB, sC, i64_w, i32_w]
        rfl
       refine pure_ (i := 18) (N := some 44) (v := undef) (a' := ?_) #[T,T,T,T,T,T,T,T,T,T,T,T,T,T,T,T,T,T,T,F] rfl rfl (any_of HT_.out (by kernel_rfl)) (fun _ _ _ h => h) (Or.inr ⟨by rfl, rfl⟩) ?_ ?_
       rotate_left
       ·simp only [Act.put, sA, sB, sC, i64_w, i32_w]
        rfl
       refine pure_ (i := 19) (N := some 45) (v := ?_) (a' := ?_) #[T,T,T,T,T,T,T,T,T,T,T,T,T,T,T,T,T,T,T,T] rfl rfl (any_of HT_.out (by kernel_rfl)) (fun _ _ _ h => h) (Or.inl ⟨by rfl, ?_⟩) ?_ ?_
       rotate_left
       ·intro w'
        go_simp
        with_reducible rfl
       rotate_left
       ·simp only [Act.put, sA, sB, sC, i64_w, i32_w]
        rfl
       refine done_ (done_of HT_.out (by kernel_rfl)) ?_
       try go_wp2
       go_meet
       case rel => exact ⟨_, (true), (by first | rfl | (simp; done) | (simp [*]; done)), H', ⟨by have := HJ2.out; first | omega | exact Nat.le_refl _⟩, ⟨by (with_reducible repeat first | apply bN | apply bD | apply bA); exact BK335.out⟩, ⟨by (with_reducible repeat first | apply bN | apply bD | apply bA); exact BK336.out⟩, ⟨by repeat (first | (with_reducible first | exact HB.out | apply lA | apply lN | apply lD) | exact HB.out)⟩⟩
      ·rw [if_neg c35] at H
       have c35b0 : decide (0 < t341) = false := decide_eq_false c35
       clear c35
       (first | rw [c35b0] | (simp only [i64_w, i32_w]; rw [c35b0]) | skip)
       replace H := Option.bind_eq_some_iff.mp H
       obtain ⟨⟨t343, t344, t345, t346⟩, A370, H⟩ := H
       try dsimp only at H
       have A37 := aM A370
       clear A370
       replace H := Option.bind_eq_some_iff.mp H
       obtain ⟨t347, A380, H⟩ := H
       try dsimp only at H
       have A38 := aM A380
       clear A380
       by_cases c39 : t347 = true
       ·subst c39
        rw [if_pos rfl] at H
        have H' := aM H
        clear H
        try go_wp2
        have n_ := kA2 BK335 BK336 HB (lD (lR _ _))
        clear BK335 BK336 HB
        obtain ⟨BK335, BK336, HB⟩ := n_
        refine start_ (n := 20) (S := fun w' => w'.cell? ⟨b335, 0, none⟩ = some (.int .u32 a0_0) ∧ w'.cell? ⟨b335, 1, none⟩ = some (.int .i32 a0_1) ∧ w'.cell? ⟨b335, 2, none⟩ = some (.int .i32 a0_2) ∧ w'.cell? ⟨b335, 3, none⟩ = some (.int .i32 a0_3) ∧ w'.cell? ⟨b335, 4, none⟩ = some (.int .i32 a0_4) ∧ w'.cell? ⟨b335, 5, none⟩ = some (.int .i32 a0_5) ∧ w'.cell? ⟨b335, 6, none⟩ = some (.int .i32 a0_6) ∧ w'.cell? ⟨b335, 7, none⟩ = some (.int .i32 a0_7) ∧ w'.cell? ⟨b335, 8, none⟩ = some (.int .i32 a0_8) ∧ w'.cell? ⟨b335, 9, none⟩ = some (.int .i32 a0_9) ∧ w'.cell? ⟨b336, 0, none⟩ = some (.int .i32 a1_0) ∧ w'.cell? ⟨b336, 1, none⟩ = some (.int .i32 a1_1)) (ds := []) #[F,F,F,F,F,F,F,F,F,F,F,F,F,F,F,F,F,F,F,F] (by kernel_rfl) rfl rfl ⟨(bC BK335.out 0).trans rfl, (bC BK335.out 1).trans rfl, (bC BK335.out 2).trans rfl, (bC BK335.out 3).trans rfl, (bC BK335.out 4).trans rfl, (bC BK335.out 5).trans rfl, (bC BK335.out 6).trans rfl, (bC BK335.out 7).trans rfl, (bC BK335.out 8).trans rfl, (bC BK335.out 9).trans rfl, (bC BK336.out 0).trans rfl, (bC BK336.out 1).trans rfl⟩ (fun hHeld => ?_); refine with_tabW billiardlaw24_QueryBodies.tab5 billiardlaw24_QueryBodies.bits5 (fun HT_ HW_ => ?_)
        generalize w33.drew = w40 at BK335 BK336 HB hHeld ⊢
        refine pure_ (i := 0) (N := some 26) (v := ?_) (a' := ?_) #[T,F,F,F,F,F,F,F,F,F,F,F,F,F,F,F,F,F,F,F] rfl rfl (any_of HT_.out (by kernel_rfl)) (fun _ _ _ h => h) (Or.inl ⟨by rfl, ?_⟩) ?_ ?_
        rotate_left
        ·intro w'
         go_simp
         with_reducible rfl
        rotate_left
        ·simp only [Act.put, sA, sB, sC, i64_w, i32_w]
         rfl
        refine pure_ (i := 1) (N := some 27) (v := ?_) (a' := ?_) #[T,T,F,F,F,F,F,F,F,F,F,F,F,F,F,F,F,F,F,F] rfl rfl (any_of HT_.out (by kernel_rfl)) (fun _ _ _ h => h) (Or.inl ⟨by rfl, ?_⟩) ?_ ?_
        rotate_left
        ·intro w'
         go_simp
         with_reducible rfl
        rotate_left
        ·simp only [Act.put, sA, sB, sC, i64_w, i32_w]
         rfl
        refine pure_ (i := 2) (N := some 28) (v := ?_) (a' := ?_) #[T,T,T,F,F,F,F,F,F,F,F,F,F,F,F,F,F,F,F,F] rfl rfl (any_of HT_.out (by kernel_rfl)) (fun _ _ _ h => h) (Or.inl ⟨by rfl, ?_⟩) ?_ ?_
        rotate_left
        ·intro w'
         go_simp
         with_reducible rfl
        rotate_left
        ·simp only [Act.put, sA, sB, sC, i64_w, i32_w]
         rfl
        refine pure_ (i := 3) (N := some 29) (v := ?_) (a' := ?_) #[T,T,T,T,F,F,F,F,F,F,F,F,F,F,F,F,F,F,F,F] rfl rfl (any_of HT_.out (by kernel_rfl)) (fun _ _ _ h => h) (Or.inl ⟨by rfl, ?_⟩) ?_ ?_
        rotate_left
        ·intro w'
         go_simp
         with_reducible rfl
        rotate_left
        ·simp only [Act.put, sA, sB, sC, i64_w, i32_w]
         rfl
        refine pure_ (i := 4) (N := some 30) (v := ?_) (a' := ?_) #[T,T,T,T,T,F,F,F,F,F,F,F,F,F,F,F,F,F,F,F] rfl rfl (any_of HT_.out (by kernel_rfl)) (fun _ _ _ h => h) (Or.inl ⟨by rfl, ?_⟩) ?_ ?_
        rotate_left
        ·intro w'
         go_simp
         with_reducible rfl
        rotate_left
        ·simp only [Act.put, sA, sB, sC, i64_w, i32_w]
         rfl
        refine take_ (i := 5) (N := some 31) (v := ?_) (a' := ?_) #[T,T,T,T,T,T,F,F,F,F,F,F,F,F,F,F,F,F,F,F] rfl rfl (take_ofW HT_.out HW_.out (by kernel_rfl)) (fun _ _ _ h => h) (Or.inl ⟨by rfl, ?_⟩) hHeld ?_ ?_
        rotate_left
        ·rintro w' ⟨s0, s1, s2, s3, s4, s5, s6, s7, s8, s9, s10, s11⟩
         go_simp
         with_reducible rfl
        rotate_left
        ·simp only [Act.put, sA, sB, sC, i64_w, i32_w]
         rfl
        refine take_ (i := 7) (N := some 33) (v := ?_) (a' := ?_) #[T,T,T,T,T,T,F,T,F,F,F,F,F,F,F,F,F,F,F,F] rfl rfl (take_ofW HT_.out HW_.out (by kernel_rfl)) (fun _ _ _ h => h) (Or.inl ⟨by rfl, ?_⟩) hHeld ?_ ?_
        rotate_left
        ·rintro w' ⟨s0, s1, s2, s3, s4, s5, s6, s7, s8, s9, s10, s11⟩
         go_simp
         with_reducible rfl
        rotate_left
        ·simp only [Act.put, sA, sB, sC, i64_w, i32_w]
         rfl
        refine one_ (i := 6) (N := some 32) #[T,T,T,T,T,T,T,T,F,F,F,F,F,F,F,F,F,F,F,F] rfl rfl (one_of HT_.out (by kernel_rfl)) (by decide) (fun K hK => ?_)
        refine goes_ Try.func23 (by kernel_rfl) rfl #[.agg #[.int .u32 a0_0, .int .i32 a0_1, .int .i32 a0_2, .int .i32 a0_3, .int .i32 a0_4, .int .i32 a0_5, .int .i32 a0_6, .int .i32 a0_7, .int .i32 a0_8, .int .i32 a0_9]] (by rfl) rfl rfl (by (try simp only [List.map_toArray, List.map_cons, List.map_nil]); first | done | rfl | (simp only [List.length_drop, List.length_take]; rfl)) ?_
        with_reducible refine (billiardref08_Of.calls a0_0 a0_1 a0_2 a0_3 a0_4 a0_5 a0_6 a0_7 a0_8 a0_9 t343 t344 t345 t346 _ A37.out).mono ?_
        rintro e w41 ⟨rfl, hb⟩
        refine ⟨_, rfl, ?_⟩
        have n_ := kB2 BK335 BK336 HB (by repeat first | exact lR _ _ | apply lN | apply lD | apply lA) hb
        clear BK335 BK336 HB
        obtain ⟨BK335, BK336, HB⟩ := n_
        (try clear hb)
        (try clear hb2)
        (try clear hk)
        (try clear hi)
        refine hK.out _ _ ⟨(bC BK335.out 0).trans rfl, (bC BK335.out 1).trans rfl, (bC BK335.out 2).trans rfl, (bC BK335.out 3).trans rfl, (bC BK335.out 4).trans rfl, (bC BK335.out 5).trans rfl, (bC BK335.out 6).trans rfl, (bC BK335.out 7).trans rfl, (bC BK335.out 8).trans rfl, (bC BK335.out 9).trans rfl, (bC BK336.out 0).trans rfl, (bC BK336.out 1).trans rfl⟩ (fun hHeld => ?_)
        clear hK K
        refine norm_ (a' := ?_) ?_ ?_
        rotate_left
        ·show Act.put _ (some 32) _ = _
         simp only [Act.put, sA, sB, sC, i64_w, i32_w]
         rfl
        refine one_ (i := 8) (N := some 34) #[T,T,T,T,T,T,T,T,T,F,F,F,F,F,F,F,F,F,F,F] rfl rfl (one_of HT_.out (by kernel_rfl)) (by decide) (fun K hK => ?_)
        refine goes_ Try.func22 (by kernel_rfl) rfl #[.agg #[.int .i32 t343, .int .i32 t344, .int .i32 t345, .int .i32 t346], .agg #[.int .i32 a1_0, .int .i32 a1_1]] (by rfl) rfl rfl (by (try simp only [List.map_toArray, List.map_cons, List.map_nil]); first | done | rfl | (simp only [List.length_drop, List.length_take]; rfl)) ?_
        with_reducible refine (billiardref08_Contains.calls t343 t344 t345 t346 a1_0 a1_1 true _ A38.out).mono ?_
        rintro e w42 ⟨rfl, hb⟩
        refine ⟨_, rfl, ?_⟩
        have n_ := kB2 BK335 BK336 HB (by repeat first | exact lR _ _ | apply lN | apply lD | apply lA) hb
        clear BK335 BK336 HB
        obtain ⟨BK335, BK336, HB⟩ := n_
        (try clear hb)
        (try clear hb2)
        (try clear hk)
        (try clear hi)
        refine hK.out _ _ ⟨(bC BK335.out 0).trans rfl, (bC BK335.out 1).trans rfl, (bC BK335.out 2).trans rfl, (bC BK335.out 3).trans rfl, (bC BK335.out 4).trans rfl, (bC BK335.out 5).trans rfl, (bC BK335.out 6).trans rfl, (bC BK335.out 7).trans rfl, (bC BK335.out 8).trans rfl, (bC BK335.out 9).trans rfl, (bC BK336.out 0).trans rfl, (bC BK336.out 1).trans rfl⟩ (fun hHeld => ?_)
        clear hK K
        refine norm_ (a' := ?_) ?_ ?_
        rotate_left
        ·show Act.put _ (some 34) _ = _
         simp only [Act.put, sA, sB, sC, i64_w, i32_w]
         rfl
        refine pure_ (i := 9) (N := some 35) (v := ?_) (a' := ?_) #[T,T,T,T,T,T,T,T,T,T,F,F,F,F,F,F,F,F,F,F] rfl rfl (any_of HT_.out (by kernel_rfl)) (fun _ _ _ h => h) (Or.inl ⟨by rfl, ?_⟩) ?_ ?_
        rotate_left
        ·intro w'
         go_simp
         with_reducible rfl
        rotate_left
        ·simp only [Act.put, sA, sB, sC, i64_w, i32_w]
         rfl
        refine pure_ (i := 10) (N := some 36) (v := ?_) (a' := ?_) #[T,T,T,T,T,T,T,T,T,T,T,F,F,F,F,F,F,F,F,F] rfl rfl (any_of HT_.out (by kernel_rfl)) (fun _ _ _ h => h) (Or.inl ⟨by rfl, ?_⟩) ?_ ?_
        rotate_left
        ·intro w'
         go_simp
         with_reducible rfl
        rotate_left
        ·simp only [Act.put, sA, sB, sC, i64_w, i32_w]
         rfl
        refine pure_ (i := 11) (N := some 37) (v := ?_) (a' := ?_) #[T,T,T,T,T,T,T,T,T,T,T,T,F,F,F,F,F,F,F,F] rfl rfl (any_of HT_.out (by kernel_rfl)) (fun _ _ _ h => h) (Or.inl ⟨by rfl, ?_⟩) ?_ ?_
        rotate_left
        ·intro w'
         go_simp
         with_reducible rfl
        rotate_left
        ·simp only [Act.put, sA, sB, sC, i64_w, i32_w]
         rfl
        refine pure_ (i := 12) (N := some 38) (v := ?_) (a' := ?_) #[T,T,T,T,T,T,T,T,T,T,T,T,T,F,F,F,F,F,F,F] rfl rfl (any_of HT_.out (by kernel_rfl)) (fun _ _ _ h => h) (Or.inl ⟨by rfl, ?_⟩) ?_ ?_
        rotate_left
        ·intro w'
         go_simp
         with_reducible rfl
        rotate_left
        ·simp only [Act.put, sA, sB, sC, i64_w, i32_w]
         rfl
        refine pure_ (i := 13) (N := some 39) (v := ?_) (a' := ?_) #[T,T,T,T,T,T,T,T,T,T,T,T,T,T,F,F,F,F,F,F] rfl rfl (any_of HT_.out (by kernel_rfl)) (fun _ _ _ h => h) (Or.inl ⟨by rfl, ?_⟩) ?_ ?_
        rotate_left
        ·intro w'
         go_simp
         with_reducible rfl
        rotate_left
        ·simp only [Act.put, sA, sB, sC, i64_w, i32_w]
         rfl
        refine pure_ (i := 14) (N := some 40) (v := ?_) (a' := ?_) #[T,T,T,T,T,T,T,T,T,T,T,T,T,T,T,F,F,F,F,F] rfl rfl (any_of HT_.out (by kernel_rfl)) (fun _ _ _ h => h) (Or.inl ⟨by rfl, ?_⟩) ?_ ?_
        rotate_left
        ·intro w'
         go_simp
         with_reducible rfl
        rotate_left
        ·simp only [Act.put, sA, sB, sC, i64_w, i32_w]
         rfl
        refine pure_ (i := 15) (N := some 41) (v := ?_) (a' := ?_) #[T,T,T,T,T,T,T,T,T,T,T,T,T,T,T,T,F,F,F,F] rfl rfl (any_of HT_.out (by kernel_rfl)) (fun _ _ _ h => h) (Or.inl ⟨by rfl, ?_⟩) ?_ ?_
        rotate_left
        ·intro w'
         go_simp
         with_reducible rfl
        rotate_left
        ·simp only [Act.put, sA, sB, sC, i64_w, i32_w]
         rfl
        refine pure_ (i := 16) (N := some 42) (v := undef) (a' := ?_) #[T,T,T,T,T,T,T,T,T,T,T,T,T,T,T,T,T,F,F,F] rfl rfl (any_of HT_.out (by kernel_rfl)) (fun _ _ _ h => h) (Or.inr ⟨by rfl, rfl⟩) ?_ ?_
        rotate_left
        ·simp only [Act.put, sA, sB, sC, i64_w, i32_w]
         rfl
        refine pure_ (i := 17) (N := some 43) (v := undef) (a' := ?_) #[T,T,T,T,T,T,T,T,T,T,T,T,T,T,T,T,T,T,F,F] rfl rfl (any_of HT_.out (by kernel_rfl)) (fun _ _ _ h => h) (Or.inr ⟨by rfl, rfl⟩) ?_ ?_
        rotate_left
        ·simp only [Act.put, sA, sB, sC, i64_w, i32_w]
         rfl
        refine pure_ (i := 18) (N := some 44) (v := ?_) (a' := ?_) #[T,T,T,T,T,T,T,T,T,T,T,T,T,T,T,T,T,T,T,F] rfl rfl (any_of HT_.out (by kernel_rfl)) (fun _ _ _ h => h) (Or.inl ⟨by rfl, ?_⟩) ?_ ?_
        rotate_left
        ·intro w'
         go_simp
         with_reducible rfl
        rotate_left
        ·simp only [Act.put, sA, sB, sC, i64_w, i32_w]
         rfl
        refine pure_ (i := 19) (N := some 45) (v := ?_) (a' := ?_) #[T,T,T,T,T,T,T,T,T,T,T,T,T,T,T,T,T,T,T,T] rfl rfl (any_of HT_.out (by kernel_rfl)) (fun _ _ _ h => h) (Or.inl ⟨by rfl, ?_⟩) ?_ ?_
        rotate_left
        ·intro w'
         go_simp
         with_reducible rfl
        rotate_left
        ·simp only [Act.put, sA, sB, sC, i64_w, i32_w]
         rfl
        refine done_ (done_of HT_.out (by kernel_rfl)) ?_
        try go_wp2
        go_meet
        case rel => exact ⟨_, (false), (by first | rfl | (simp; done) | (simp [*]; done)), H', ⟨by have := HJ2.out; first | omega | exact Nat.le_refl _⟩, ⟨by (with_reducible repeat first | apply bN | apply bD | apply bA); exact BK335.out⟩, ⟨by (with_reducible repeat first | apply bN | apply bD | apply bA); exact BK336.out⟩, ⟨by repeat (first | (with_reducible first | exact HB.out | apply lA | apply lN | apply lD) | exact HB.out)⟩⟩
       ·replace c39 := Bool.eq_false_iff.mpr c39
        subst c39
        have H1 : (billiardlaw24_QueryBodies.j1 kj2 true a0_0 a0_1 a0_2 a0_3 a0_4 a0_5 a0_6 a0_7 a0_8 a0_9) = some r := by rw [if_neg (show ¬ (false = true) by decide)] at H; exact H
        exact (billiardlaw24_QueryBodies.j1.dead H1 HR.out).elim
     ·replace c34 := Bool.eq_false_iff.mpr c34
      subst c34
      rw [if_neg (show ¬ (false = true) by decide)] at H
      have H' := aM H
      clear H
      try go_wp2
      have n_ := kA2 BK335 BK336 HB (lD (lR _ _))
      clear BK335 BK336 HB
      obtain ⟨BK335, BK336, HB⟩ := n_
      refine start_ (n := 20) (S := fun w' => True) (ds := []) #[F,F,F,F,F,F,F,F,F,F,F,F,F,F,F,F,F,F,F,F] (by kernel_rfl) rfl rfl trivial (fun hHeld => ?_); refine with_tabW billiardlaw24_QueryBodies.tab5 billiardlaw24_QueryBodies.bits5 (fun HT_ HW_ => ?_)
      generalize w33.drew = w46 at BK335 BK336 HB hHeld ⊢
      refine pure_ (i := 0) (N := some 26) (v := ?_) (a' := ?_) #[T,F,F,F,F,F,F,F,F,F,F,F,F,F,F,F,F,F,F,F] rfl rfl (any_of HT_.out (by kernel_rfl)) (fun _ _ _ h => h) (Or.inl ⟨by rfl, ?_⟩) ?_ ?_
      rotate_left
      ·intro w'
       go_simp
       with_reducible rfl
      rotate_left
      ·simp only [Act.put, sA, sB, sC, i64_w, i32_w]
       rfl
      refine pure_ (i := 1) (N := some 27) (v := ?_) (a' := ?_) #[T,T,F,F,F,F,F,F,F,F,F,F,F,F,F,F,F,F,F,F] rfl rfl (any_of HT_.out (by kernel_rfl)) (fun _ _ _ h => h) (Or.inl ⟨by rfl, ?_⟩) ?_ ?_
      rotate_left
      ·intro w'
       go_simp
       with_reducible rfl
      rotate_left
      ·simp only [Act.put, sA, sB, sC, i64_w, i32_w]
       rfl
      refine pure_ (i := 2) (N := some 28) (v := undef) (a' := ?_) #[T,T,T,F,F,F,F,F,F,F,F,F,F,F,F,F,F,F,F,F] rfl rfl (any_of HT_.out (by kernel_rfl)) (fun _ _ _ h => h) (Or.inr ⟨by rfl, rfl⟩) ?_ ?_
      rotate_left
      ·simp only [Act.put, sA, sB, sC, i64_w, i32_w]
       rfl
      refine pure_ (i := 3) (N := some 29) (v := undef) (a' := ?_) #[T,T,T,T,F,F,F,F,F,F,F,F,F,F,F,F,F,F,F,F] rfl rfl (any_of HT_.out (by kernel_rfl)) (fun _ _ _ h => h) (Or.inr ⟨by rfl, rfl⟩) ?_ ?_
      rotate_left
      ·simp only [Act.put, sA, sB, sC, i64_w, i32_w]
       rfl
      refine pure_ (i := 4) (N := some 30) (v := undef) (a' := ?_) #[T,T,T,T,T,F,F,F,F,F,F,F,F,F,F,F,F,F,F,F] rfl rfl (any_of HT_.out (by kernel_rfl)) (fun _ _ _ h => h) (Or.inr ⟨by rfl, rfl⟩) ?_ ?_
      rotate_left
      ·simp only [Act.put, sA, sB, sC, i64_w, i32_w]
       rfl
      refine pure_ (i := 5) (N := some 31) (v := undef) (a' := ?_) #[T,T,T,T,T,T,F,F,F,F,F,F,F,F,F,F,F,F,F,F] rfl rfl (any_of HT_.out (by kernel_rfl)) (fun _ _ _ h => h) (Or.inr ⟨by rfl, rfl⟩) ?_ ?_
      rotate_left
      ·simp only [Act.put, sA, sB, sC, i64_w, i32_w]
       rfl
      refine pure_ (i := 6) (N := some 32) (v := undef) (a' := ?_) #[T,T,T,T,T,T,T,F,F,F,F,F,F,F,F,F,F,F,F,F] rfl rfl (any_of HT_.out (by kernel_rfl)) (fun _ _ _ h => h) (Or.inr ⟨by rfl, rfl⟩) ?_ ?_
      rotate_left
      ·simp only [Act.put, sA, sB, sC, i64_w, i32_w]
       rfl
      refine pure_ (i := 7) (N := some 33) (v := undef) (a' := ?_) #[T,T,T,T,T,T,T,T,F,F,F,F,F,F,F,F,F,F,F,F] rfl rfl (any_of HT_.out (by kernel_rfl)) (fun _ _ _ h => h) (Or.inr ⟨by rfl, rfl⟩) ?_ ?_
      rotate_left
      ·simp only [Act.put, sA, sB, sC, i64_w, i32_w]
       rfl
      refine pure_ (i := 8) (N := some 34) (v := undef) (a' := ?_) #[T,T,T,T,T,T,T,T,T,F,F,F,F,F,F,F,F,F,F,F] rfl rfl (any_of HT_.out (by kernel_rfl)) (fun _ _ _ h => h) (Or.inr ⟨by rfl, rfl⟩) ?_ ?_
      rotate_left
      ·simp only [Act.put, sA, sB, sC, i64_w, i32_w]
       rfl
      refine pure_ (i := 9) (N := some 35) (v := undef) (a' := ?_) #[T,T,T,T,T,T,T,T,T,T,F,F,F,F,F,F,F,F,F,F] rfl rfl (any_of HT_.out (by kernel_rfl)) (fun _ _ _ h => h) (Or.inr ⟨by rfl, rfl⟩) ?_ ?_
      rotate_left
      ·simp only [Act.put, sA, sB, sC, i64_w, i32_w]
       rfl
      refine pure_ (i := 10) (N := some 36) (v := undef) (a' := ?_) #[T,T,T,T,T,T,T,T,T,T,T,F,F,F,F,F,F,F,F,F] rfl rfl (any_of HT_.out (by kernel_rfl)) (fun _ _ _ h => h) (Or.inr ⟨by rfl, rfl⟩) ?_ ?_
      rotate_left
      ·simp only [Act.put, sA, sB, sC, i64_w, i32_w]
       rfl
      refine pure_ (i := 11) (N := some 37) (v := ?_) (a' := ?_) #[T,T,T,T,T,T,T,T,T,T,T,T,F,F,F,F,F,F,F,F] rfl rfl (any_of HT_.out (by kernel_rfl)) (fun _ _ _ h => h) (Or.inl ⟨by rfl, ?_⟩) ?_ ?_
      rotate_left
      ·intro w'
       go_simp
       with_reducible rfl
      rotate_left
      ·simp only [Act.put, sA, sB, sC, i64_w, i32_w]
       rfl
      refine pure_ (i := 12) (N := some 38) (v := ?_) (a' := ?_) #[T,T,T,T,T,T,T,T,T,T,T,T,T,F,F,F,F,F,F,F] rfl rfl (any_of HT_.out (by kernel_rfl)) (fun _ _ _ h => h) (Or.inl ⟨by rfl, ?_⟩) ?_ ?_
      rotate_left
      ·intro w'
       go_simp
       with_reducible rfl
      rotate_left
      ·simp only [Act.put, sA, sB, sC, i64_w, i32_w]
       rfl
      refine pure_ (i := 13) (N := some 39) (v := ?_) (a' := ?_) #[T,T,T,T,T,T,T,T,T,T,T,T,T,T,F,F,F,F,F,F] rfl rfl (any_of HT_.out (by kernel_rfl)) (fun _ _ _ h => h) (Or.inl ⟨by rfl, ?_⟩) ?_ ?_
      rotate_left
      ·intro w'
       go_simp
       with_reducible rfl
      rotate_left
      ·simp only [Act.put, sA, sB, sC, i64_w, i32_w]
       rfl
      refine pure_ (i := 14) (N := some 40) (v := ?_) (a' := ?_) #[T,T,T,T,T,T,T,T,T,T,T,T,T,T,T,F,F,F,F,F] rfl rfl (any_of HT_.out (by kernel_rfl)) (fun _ _ _ h => h) (Or.inl ⟨by rfl, ?_⟩) ?_ ?_
      rotate_left
      ·intro w'
       go_simp
       with_reducible rfl
      rotate_left
      ·simp only [Act.put, sA, sB, sC, i64_w, i32_w]
       rfl
      refine pure_ (i := 15) (N := some 41) (v := ?_) (a' := ?_) #[T,T,T,T,T,T,T,T,T,T,T,T,T,T,T,T,F,F,F,F] rfl rfl (any_of HT_.out (by kernel_rfl)) (fun _ _ _ h => h) (Or.inl ⟨by rfl, ?_⟩) ?_ ?_
      rotate_left
      ·intro w'
       go_simp
       with_reducible rfl
      rotate_left
      ·simp only [Act.put, sA, sB, sC, i64_w, i32_w]
       rfl
      refine pure_ (i := 16) (N := some 42) (v := ?_) (a' := ?_) #[T,T,T,T,T,T,T,T,T,T,T,T,T,T,T,T,T,F,F,F] rfl rfl (any_of HT_.out (by kernel_rfl)) (fun _ _ _ h => h) (Or.inl ⟨by rfl, ?_⟩) ?_ ?_
      rotate_left
      ·intro w'
       go_simp
       with_reducible rfl
      rotate_left
      ·simp only [Act.put, sA, sB, sC, i64_w, i32_w]
       rfl
      refine pure_ (i := 17) (N := some 43) (v := ?_) (a' := ?_) #[T,T,T,T,T,T,T,T,T,T,T,T,T,T,T,T,T,T,F,F] rfl rfl (any_of HT_.out (by kernel_rfl)) (fun _ _ _ h => h) (Or.inl ⟨by rfl, ?_⟩) ?_ ?_
      rotate_left
      ·intro w'
       go_simp
       with_reducible rfl
      rotate_left
      ·simp only [Act.put, sA, sB, sC, i64_w, i32_w]
       rfl
      refine pure_ (i := 18) (N := some 44) (v := ?_) (a' := ?_) #[T,T,T,T,T,T,T,T,T,T,T,T,T,T,T,T,T,T,T,F] rfl rfl (any_of HT_.out (by kernel_rfl)) (fun _ _ _ h => h) (Or.inl ⟨by rfl, ?_⟩) ?_ ?_
      rotate_left
      ·intro w'
       go_simp
       with_reducible rfl
      rotate_left
      ·simp only [Act.put, sA, sB, sC, i64_w, i32_w]
       rfl
      refine pure_ (i := 19) (N := some 45) (v := ?_) (a' := ?_) #[T,T,T,T,T,T,T,T,T,T,T,T,T,T,T,T,T,T,T,T] rfl rfl (any_of HT_.out (by kernel_rfl)) (fun _ _ _ h => h) (Or.inl ⟨by rfl, ?_⟩) ?_ ?_
      rotate_left
      ·intro w'
       go_simp
       with_reducible rfl
      rotate_left
      ·simp only [Act.put, sA, sB, sC, i64_w, i32_w]
       rfl
      refine done_ (done_of HT_.out (by kernel_rfl)) ?_
      try go_wp2
      go_meet
      case rel => exact ⟨_, (decide (t341 < 0)), (by first | rfl | (simp; done) | (simp [*]; done)), H', ⟨by have := HJ2.out; first | omega | exact Nat.le_refl _⟩, ⟨by (with_reducible repeat first | apply bN | apply bD | apply bA); exact BK335.out⟩, ⟨by (with_reducible repeat first | apply bN | apply bD | apply bA); exact BK336.out⟩, ⟨by repeat (first | (with_reducible first | exact HB.out | apply lA | apply lN | apply lD) | exact HB.out)⟩⟩
    case rest =>
     clear HC26
     try clear c2
     try clear p2
     try clear c3
     try clear c22
     try clear c23
     try clear c34
     try clear c35
     try clear c35b0
     try clear c39
     obtain ⟨kq, x45_25, rfl, HA, HJ25, BK335, BK336, HB⟩ := hcut
     cases kq with
     | zero => exact absurd HA.out (by simp [billiardlaw24_QueryBodies.j1])
     | succ kj25 =>
      have H := HA.out
      clear HA
      simp only [billiardlaw24_QueryBodies.j1] at H
      by_cases c47 : x45_25 = true
      ·subst c47
       rw [if_pos rfl] at H
       exact absurd ((Option.some.inj H).trans HR.out) (by decide)
      ·replace c47 := Bool.eq_false_iff.mpr c47
       subst c47
       rw [if_neg (show ¬ (false = true) by decide)] at H
       replace H := Option.bind_eq_some_iff.mp H
       obtain ⟨⟨t348, t349⟩, A480, H⟩ := H
       try dsimp only at H
       have A48 := aM A480
       clear A480
       replace H := Option.bind_eq_some_iff.mp H
       obtain ⟨t350, A490, H⟩ := H
       try dsimp only at H
       have A49 := aM A490
       clear A490
       by_cases c50 : t350 = true
       ·subst c50
        rw [if_pos rfl] at H
        replace H := Option.bind_eq_some_iff.mp H
        obtain ⟨⟨t351, t352⟩, A510, H⟩ := H
        try dsimp only at H
        have A51 := aM A510
        clear A510
        replace H := Option.bind_eq_some_iff.mp H
        obtain ⟨t353, A520, H⟩ := H
        try dsimp only at H
        have A52 := aM A520
        clear A520
        by_cases c53 : t353 = true
        ·subst c53
         rw [if_pos rfl] at H
         replace H := Option.bind_eq_some_iff.mp H
         obtain ⟨t354, A540, H⟩ := H
         try dsimp only at H
         have A54 := aM A540
         clear A540
         by_cases c55 : t354 = true
         ·subst c55
          rw [if_pos rfl] at H
          replace H := Option.bind_eq_some_iff.mp H
          obtain ⟨⟨t355, t356⟩, A560, H⟩ := H
          try dsimp only at H
          have A56 := aM A560
          clear A560
          replace H := Option.bind_eq_some_iff.mp H
          obtain ⟨t357, A570, H⟩ := H
          try dsimp only at H
          have A57 := aM A570
          clear A570
          obtain rfl := Option.some.inj H
          try go_wp2
          have n_ := kA2 BK335 BK336 HB (lD (lR _ _))
          clear BK335 BK336 HB
          obtain ⟨BK335, BK336, HB⟩ := n_
          refine start_ (n := 28) (S := fun w' => w'.cell? ⟨b335, 0, none⟩ = some (.int .u32 a0_0) ∧ w'.cell? ⟨b335, 1, none⟩ = some (.int .i32 a0_1) ∧ w'.cell? ⟨b335, 2, none⟩ = some (.int .i32 a0_2) ∧ w'.cell? ⟨b335, 3, none⟩ = some (.int .i32 a0_3) ∧ w'.cell? ⟨b335, 4, none⟩ = some (.int .i32 a0_4) ∧ w'.cell? ⟨b335, 5, none⟩ = some (.int .i32 a0_5) ∧ w'.cell? ⟨b335, 6, none⟩ = some (.int .i32 a0_6) ∧ w'.cell? ⟨b335, 7, none⟩ = some (.int .i32 a0_7) ∧ w'.cell? ⟨b335, 8, none⟩ = some (.int .i32 a0_8) ∧ w'.cell? ⟨b335, 9, none⟩ = some (.int .i32 a0_9)) (ds := []) #[F,F,F,F,F,F,F,F,F,F,F,F,F,F,F,F,F,F,F,F,F,F,F,F,F,F,F,F] (by kernel_rfl) rfl rfl ⟨(bC BK335.out 0).trans rfl, (bC BK335.out 1).trans rfl, (bC BK335.out 2).trans rfl, (bC BK335.out 3).trans rfl, (bC BK335.out 4).trans rfl, (bC BK335.out 5).trans rfl, (bC BK335.out 6).trans rfl, (bC BK335.out 7).trans rfl, (bC BK335.out 8).trans rfl, (bC BK335.out 9).trans rfl⟩ (fun hHeld => ?_); refine with_tabW billiardlaw24_QueryBodies.tab7 billiardlaw24_QueryBodies.bits7 (fun HT_ HW_ => ?_)
          generalize wc.drew = w58 at BK335 BK336 HB hHeld ⊢
          refine take_ (i := 0) (N := some 46) (v := ?_) (a' := ?_) #[T,F,F,F,F,F,F,F,F,F,F,F,F,F,F,F,F,F,F,F,F,F,F,F,F,F,F,F] rfl rfl (take_ofW HT_.out HW_.out (by kernel_rfl)) (fun _ _ _ h => h) (Or.inl ⟨by rfl, ?_⟩) hHeld ?_ ?_
          rotate_left
          ·rintro w' ⟨s0, s1, s2, s3, s4, s5, s6, s7, s8, s9⟩
           go_simp
           with_reducible rfl
          rotate_left
          ·simp only [Act.put, sA, sB, sC, i64_w, i32_w]
           rfl
          refine take_ (i := 1) (N := some 47) (v := ?_) (a' := ?_) #[T,T,F,F,F,F,F,F,F,F,F,F,F,F,F,F,F,F,F,F,F,F,F,F,F,F,F,F] rfl rfl (take_ofW HT_.out HW_.out (by kernel_rfl)) (fun _ _ _ h => h) (Or.inl ⟨by rfl, ?_⟩) hHeld ?_ ?_
          rotate_left
          ·rintro w' ⟨s0, s1, s2, s3, s4, s5, s6, s7, s8, s9⟩
           go_simp
           with_reducible rfl
          rotate_left
          ·simp only [Act.put, sA, sB, sC, i64_w, i32_w]
           rfl
          refine one_ (i := 2) (N := some 48) #[T,T,T,F,F,F,F,F,F,F,F,F,F,F,F,F,F,F,F,F,F,F,F,F,F,F,F,F] rfl rfl (one_of HT_.out (by kernel_rfl)) (by decide) (fun K hK => ?_)
          refine goes_ Try.func24 (by kernel_rfl) rfl #[.agg #[.int .u32 a0_0, .int .i32 a0_1, .int .i32 a0_2, .int .i32 a0_3, .int .i32 a0_4, .int .i32 a0_5, .int .i32 a0_6, .int .i32 a0_7, .int .i32 a0_8, .int .i32 a0_9]] (by rfl) rfl rfl (by (try simp only [List.map_toArray, List.map_cons, List.map_nil]); first | done | rfl | (simp only [List.length_drop, List.length_take]; rfl)) ?_
          with_reducible refine (billiardref05_First.calls a0_0 a0_1 a0_2 a0_3 a0_4 a0_5 a0_6 a0_7 a0_8 a0_9 t348 t349 _ A48.out).mono ?_
          rintro e w59 ⟨rfl, hb⟩
          refine ⟨_, rfl, ?_⟩
          have n_ := kB2 BK335 BK336 HB (by repeat first | exact lR _ _ | apply lN | apply lD | apply lA) hb
          clear BK335 BK336 HB
          obtain ⟨BK335, BK336, HB⟩ := n_
          (try clear hb)
          (try clear hb2)
          (try clear hk)
          (try clear hi)
          refine hK.out _ _ ⟨(bC BK335.out 0).trans rfl, (bC BK335.out 1).trans rfl, (bC BK335.out 2).trans rfl, (bC BK335.out 3).trans rfl, (bC BK335.out 4).trans rfl, (bC BK335.out 5).trans rfl, (bC BK335.out 6).trans rfl, (bC BK335.out 7).trans rfl, (bC BK335.out 8).trans rfl, (bC BK335.out 9).trans rfl⟩ (fun hHeld => ?_)
          clear hK K
          refine norm_ (a' := ?_) ?_ ?_
          rotate_left
          ·show Act.put _ (some 48) _ = _
           simp only [Act.put, sA, sB, sC, i64_w, i32_w]
           rfl
          refine one_ (i := 3) (N := some 49) #[T,T,T,T,F,F,F,F,F,F,F,F,F,F,F,F,F,F,F,F,F,F,F,F,F,F,F,F] rfl rfl (one_of HT_.out (by kernel_rfl)) (by decide) (fun K hK => ?_)
          refine goes_ Try.func12 (by kernel_rfl) rfl #[.agg #[.int .u32 a0_0, .int .i32 a0_1, .int .i32 a0_2, .int .i32 a0_3, .int .i32 a0_4, .int .i32 a0_5, .int .i32 a0_6, .int .i32 a0_7, .int .i32 a0_8, .int .i32 a0_9], .agg #[.int .i32 t348, .int .i32 t349]] (by rfl) rfl rfl (by (try simp only [List.map_toArray, List.map_cons, List.map_nil]); first | done | rfl | (simp only [List.length_drop, List.length_take]; rfl)) ?_
          with_reducible refine (query_In.calls a0_0 a0_1 a0_2 a0_3 a0_4 a0_5 a0_6 a0_7 a0_8 a0_9 t348 t349 true _ A49.out).mono ?_
          rintro e w60 ⟨rfl, hb⟩
          refine ⟨_, rfl, ?_⟩
          have n_ := kB2 BK335 BK336 HB (by repeat first | exact lR _ _ | apply lN | apply lD | apply lA) hb
          clear BK335 BK336 HB
          obtain ⟨BK335, BK336, HB⟩ := n_
          (try clear hb)
          (try clear hb2)
          (try clear hk)
          (try clear hi)
          refine hK.out _ _ ⟨(bC BK335.out 0).trans rfl, (bC BK335.out 1).trans rfl, (bC BK335.out 2).trans rfl, (bC BK335.out 3).trans rfl, (bC BK335.out 4).trans rfl, (bC BK335.out 5).trans rfl, (bC BK335.out 6).trans rfl, (bC BK335.out 7).trans rfl, (bC BK335.out 8).trans rfl, (bC BK335.out 9).trans rfl⟩ (fun hHeld => ?_)
          clear hK K
          refine norm_ (a' := ?_) ?_ ?_
          rotate_left
          ·show Act.put _ (some 49) _ = _
           simp only [Act.put, sA, sB, sC, i64_w, i32_w]
           rfl
          refine pure_ (i := 4) (N := some 50) (v := ?_) (a' := ?_) #[T,T,T,T,T,F,F,F,F,F,F,F,F,F,F,F,F,F,F,F,F,F,F,F,F,F,F,F] rfl rfl (any_of HT_.out (by kernel_rfl)) (fun _ _ _ h => h) (Or.inl ⟨by rfl, ?_⟩) ?_ ?_
          rotate_left
          ·intro w'
           go_simp
           with_reducible rfl
          rotate_left
          ·simp only [Act.put, sA, sB, sC, i64_w, i32_w]
           rfl
          refine take_ (i := 5) (N := some 51) (v := ?_) (a' := ?_) #[T,T,T,T,T,T,F,F,F,F,F,F,F,F,F,F,F,F,F,F,F,F,F,F,F,F,F,F] rfl rfl (take_ofW HT_.out HW_.out (by kernel_rfl)) (fun _ _ _ h => h) (Or.inl ⟨by rfl, ?_⟩) hHeld ?_ ?_
          rotate_left
          ·rintro w' ⟨s0, s1, s2, s3, s4, s5, s6, s7, s8, s9⟩
           go_simp
           with_reducible rfl
          rotate_left
          ·simp only [Act.put, sA, sB, sC, i64_w, i32_w]
           rfl
          refine take_ (i := 6) (N := some 52) (v := ?_) (a' := ?_) #[T,T,T,T,T,T,T,F,F,F,F,F,F,F,F,F,F,F,F,F,F,F,F,F,F,F,F,F] rfl rfl (take_ofW HT_.out HW_.out (by kernel_rfl)) (fun _ _ _ h => h) (Or.inl ⟨by rfl, ?_⟩) hHeld ?_ ?_
          rotate_left
          ·rintro w' ⟨s0, s1, s2, s3, s4, s5, s6, s7, s8, s9⟩
           go_simp
           with_reducible rfl
          rotate_left
          ·simp only [Act.put, sA, sB, sC, i64_w, i32_w]
           rfl
          refine one_ (i := 7) (N := some 53) #[T,T,T,T,T,T,T,T,F,F,F,F,F,F,F,F,F,F,F,F,F,F,F,F,F,F,F,F] rfl rfl (one_of HT_.out (by kernel_rfl)) (by decide) (fun K hK => ?_)
          refine goes_ Try.func25 (by kernel_rfl) rfl #[.agg #[.int .u32 a0_0, .int .i32 a0_1, .int .i32 a0_2, .int .i32 a0_3, .int .i32 a0_4, .int .i32 a0_5, .int .i32 a0_6, .int .i32 a0_7, .int .i32 a0_8, .int .i32 a0_9]] (by rfl) rfl rfl (by (try simp only [List.map_toArray, List.map_cons, List.map_nil]); first | done | rfl | (simp only [List.length_drop, List.length_take]; rfl)) ?_
          with_reducible refine (billiardref05_Second.calls a0_0 a0_1 a0_2 a0_3 a0_4 a0_5 a0_6 a0_7 a0_8 a0_9 t351 t352 _ A51.out).mono ?_
          rintro e w61 ⟨rfl, hb⟩
          refine ⟨_, rfl, ?_⟩
          have n_ := kB2 BK335 BK336 HB (by repeat first | exact lR _ _ | apply lN | apply lD | apply lA) hb
          clear BK335 BK336 HB
          obtain ⟨BK335, BK336, HB⟩ := n_
          (try clear hb)
          (try clear hb2)
          (try clear hk)
          (try clear hi)
          refine hK.out _ _ ⟨(bC BK335.out 0).trans rfl, (bC BK335.out 1).trans rfl, (bC BK335.out 2).trans rfl, (bC BK335.out 3).trans rfl, (bC BK335.out 4).trans rfl, (bC BK335.out 5).trans rfl, (bC BK335.out 6).trans rfl, (bC BK335.out 7).trans rfl, (bC BK335.out 8).trans rfl, (bC BK335.out 9).trans rfl⟩ (fun hHeld => ?_)
          clear hK K
          refine norm_ (a' := ?_) ?_ ?_
          rotate_left
          ·show Act.put _ (some 53) _ = _
           simp only [Act.put, sA, sB, sC, i64_w, i32_w]
           rfl
          refine one_ (i := 8) (N := some 54) #[T,T,T,T,T,T,T,T,T,F,F,F,F,F,F,F,F,F,F,F,F,F,F,F,F,F,F,F] rfl rfl (one_of HT_.out (by kernel_rfl)) (by decide) (fun K hK => ?_)
          refine goes_ Try.func12 (by kernel_rfl) rfl #[.agg #[.int .u32 a0_0, .int .i32 a0_1, .int .i32 a0_2, .int .i32 a0_3, .int .i32 a0_4, .int .i32 a0_5, .int .i32 a0_6, .int .i32 a0_7, .int .i32 a0_8, .int .i32 a0_9], .agg #[.int .i32 t351, .int .i32 t352]] (by rfl) rfl rfl (by (try simp only [List.map_toArray, List.map_cons, List.map_nil]); first | done | rfl | (simp only [List.length_drop, List.length_take]; rfl)) ?_
          with_reducible refine (query_In.calls a0_0 a0_1 a0_2 a0_3 a0_4 a0_5 a0_6 a0_7 a0_8 a0_9 t351 t352 true _ A52.out).mono ?_
          rintro e w62 ⟨rfl, hb⟩
          refine ⟨_, rfl, ?_⟩
          have n_ := kB2 BK335 BK336 HB (by repeat first | exact lR _ _ | apply lN | apply lD | apply lA) hb
          clear BK335 BK336 HB
          obtain ⟨BK335, BK336, HB⟩ := n_
          (try clear hb)
          (try clear hb2)
          (try clear hk)
          (try clear hi)
          refine hK.out _ _ ⟨(bC BK335.out 0).trans rfl, (bC BK335.out 1).trans rfl, (bC BK335.out 2).trans rfl, (bC BK335.out 3).trans rfl, (bC BK335.out 4).trans rfl, (bC BK335.out 5).trans rfl, (bC BK335.out 6).trans rfl, (bC BK335.out 7).trans rfl, (bC BK335.out 8).trans rfl, (bC BK335.out 9).trans rfl⟩ (fun hHeld => ?_)
          clear hK K
          refine norm_ (a' := ?_) ?_ ?_
          rotate_left
          ·show Act.put _ (some 54) _ = _
           simp only [Act.put, sA, sB, sC, i64_w, i32_w]
           rfl
          refine pure_ (i := 9) (N := some 55) (v := ?_) (a' := ?_) #[T,T,T,T,T,T,T,T,T,T,F,F,F,F,F,F,F,F,F,F,F,F,F,F,F,F,F,F] rfl rfl (any_of HT_.out (by kernel_rfl)) (fun _ _ _ h => h) (Or.inl ⟨by rfl, ?_⟩) ?_ ?_
          rotate_left
          ·intro w'
           go_simp
           with_reducible rfl
          rotate_left
          ·simp only [Act.put, sA, sB, sC, i64_w, i32_w]
           rfl
          refine pure_ (i := 10) (N := some 56) (v := ?_) (a' := ?_) #[T,T,T,T,T,T,T,T,T,T,T,F,F,F,F,F,F,F,F,F,F,F,F,F,F,F,F,F] rfl rfl (any_of HT_.out (by kernel_rfl)) (fun _ _ _ h => h) (Or.inl ⟨by rfl, ?_⟩) ?_ ?_
          rotate_left
          ·intro w'
           go_simp
           with_reducible rfl
          rotate_left
          ·simp only [Act.put, sA, sB, sC, i64_w, i32_w]
           rfl
          refine pure_ (i := 12) (N := some 58) (v := ?_) (a' := ?_) #[T,T,T,T,T,T,T,T,T,T,T,F,T,F,F,F,F,F,F,F,F,F,F,F,F,F,F,F] rfl rfl (any_of HT_.out (by kernel_rfl)) (fun _ _ _ h => h) (Or.inl ⟨by rfl, ?_⟩) ?_ ?_
          rotate_left
          ·intro w'
           go_simp
           with_reducible rfl
          rotate_left
          ·simp only [Act.put, sA, sB, sC, i64_w, i32_w]
           rfl
          refine take_ (i := 11) (N := some 57) (v := ?_) (a' := ?_) #[T,T,T,T,T,T,T,T,T,T,T,T,T,F,F,F,F,F,F,F,F,F,F,F,F,F,F,F] rfl rfl (take_ofW HT_.out HW_.out (by kernel_rfl)) (fun _ _ _ h => h) (Or.inl ⟨by rfl, ?_⟩) hHeld ?_ ?_
          rotate_left
          ·rintro w' ⟨s0, s1, s2, s3, s4, s5, s6, s7, s8, s9⟩
           go_simp
           with_reducible rfl
          rotate_left
          ·simp only [Act.put, sA, sB, sC, i64_w, i32_w]
           rfl
          refine take_ (i := 13) (N := some 59) (v := ?_) (a' := ?_) #[T,T,T,T,T,T,T,T,T,T,T,T,T,T,F,F,F,F,F,F,F,F,F,F,F,F,F,F] rfl rfl (take_ofW HT_.out HW_.out (by kernel_rfl)) (fun _ _ _ h => h) (Or.inl ⟨by rfl, ?_⟩) hHeld ?_ ?_
          rotate_left
          ·rintro w' ⟨s0, s1, s2, s3, s4, s5, s6, s7, s8, s9⟩
           go_simp
           with_reducible rfl
          rotate_left
          ·simp only [Act.put, sA, sB, sC, i64_w, i32_w]
           rfl
          refine one_ (i := 14) (N := some 60) #[T,T,T,T,T,T,T,T,T,T,T,T,T,T,T,F,F,F,F,F,F,F,F,F,F,F,F,F] rfl rfl (one_of HT_.out (by kernel_rfl)) (by decide) (fun K hK => ?_)
          refine goes_ Try.func12 (by kernel_rfl) rfl #[.agg #[.int .u32 a0_0, .int .i32 a0_1, .int .i32 a0_2, .int .i32 a0_3, .int .i32 a0_4, .int .i32 a0_5, .int .i32 a0_6, .int .i32 a0_7, .int .i32 a0_8, .int .i32 a0_9], .agg #[.int .i32 a0_6, .int .i32 a0_7]] (by rfl) rfl rfl (by (try simp only [List.map_toArray, List.map_cons, List.map_nil]); first | done | rfl | (simp only [List.length_drop, List.length_take]; rfl)) ?_
          with_reducible refine (query_In.calls a0_0 a0_1 a0_2 a0_3 a0_4 a0_5 a0_6 a0_7 a0_8 a0_9 a0_6 a0_7 true _ A54.out).mono ?_
          rintro e w63 ⟨rfl, hb⟩
          refine ⟨_, rfl, ?_⟩
          have n_ := kB2 BK335 BK336 HB (by repeat first | exact lR _ _ | apply lN | apply lD | apply lA) hb
          clear BK335 BK336 HB
          obtain ⟨BK335, BK336, HB⟩ := n_
          (try clear hb)
          (try clear hb2)
          (try clear hk)
          (try clear hi)
          refine hK.out _ _ ⟨(bC BK335.out 0).trans rfl, (bC BK335.out 1).trans rfl, (bC BK335.out 2).trans rfl, (bC BK335.out 3).trans rfl, (bC BK335.out 4).trans rfl, (bC BK335.out 5).trans rfl, (bC BK335.out 6).trans rfl, (bC BK335.out 7).trans rfl, (bC BK335.out 8).trans rfl, (bC BK335.out 9).trans rfl⟩ (fun hHeld => ?_)
          clear hK K
          refine norm_ (a' := ?_) ?_ ?_
          rotate_left
          ·show Act.put _ (some 60) _ = _
           simp only [Act.put, sA, sB, sC, i64_w, i32_w]
           rfl
          refine pure_ (i := 15) (N := some 61) (v := ?_) (a' := ?_) #[T,T,T,T,T,T,T,T,T,T,T,T,T,T,T,T,F,F,F,F,F,F,F,F,F,F,F,F] rfl rfl (any_of HT_.out (by kernel_rfl)) (fun _ _ _ h => h) (Or.inl ⟨by rfl, ?_⟩) ?_ ?_
          rotate_left
          ·intro w'
           go_simp
           with_reducible rfl
          rotate_left
          ·simp only [Act.put, sA, sB, sC, i64_w, i32_w]
           rfl
          refine pure_ (i := 16) (N := some 62) (v := ?_) (a' := ?_) #[T,T,T,T,T,T,T,T,T,T,T,T,T,T,T,T,T,F,F,F,F,F,F,F,F,F,F,F] rfl rfl (any_of HT_.out (by kernel_rfl)) (fun _ _ _ h => h) (Or.inl ⟨by rfl, ?_⟩) ?_ ?_
          rotate_left
          ·intro w'
           go_simp
           with_reducible rfl
          rotate_left
          ·simp only [Act.put, sA, sB, sC, i64_w, i32_w]
           rfl
          refine pure_ (i := 21) (N := some 67) (v := ?_) (a' := ?_) #[T,T,T,T,T,T,T,T,T,T,T,T,T,T,T,T,T,F,F,F,F,T,F,F,F,F,F,F] rfl rfl (any_of HT_.out (by kernel_rfl)) (fun _ _ _ h => h) (Or.inl ⟨by rfl, ?_⟩) ?_ ?_
          rotate_left
          ·intro w'
           go_simp
           with_reducible rfl
          rotate_left
          ·simp only [Act.put, sA, sB, sC, i64_w, i32_w]
           rfl
          refine take_ (i := 17) (N := some 63) (v := ?_) (a' := ?_) #[T,T,T,T,T,T,T,T,T,T,T,T,T,T,T,T,T,T,F,F,F,T,F,F,F,F,F,F] rfl rfl (take_ofW HT_.out HW_.out (by kernel_rfl)) (fun _ _ _ h => h) (Or.inl ⟨by rfl, ?_⟩) hHeld ?_ ?_
          rotate_left
          ·rintro w' ⟨s0, s1, s2, s3, s4, s5, s6, s7, s8, s9⟩
           go_simp
           with_reducible rfl
          rotate_left
          ·simp only [Act.put, sA, sB, sC, i64_w, i32_w]
           rfl
          refine take_ (i := 18) (N := some 64) (v := ?_) (a' := ?_) #[T,T,T,T,T,T,T,T,T,T,T,T,T,T,T,T,T,T,T,F,F,T,F,F,F,F,F,F] rfl rfl (take_ofW HT_.out HW_.out (by kernel_rfl)) (fun _ _ _ h => h) (Or.inl ⟨by rfl, ?_⟩) hHeld ?_ ?_
          rotate_left
          ·rintro w' ⟨s0, s1, s2, s3, s4, s5, s6, s7, s8, s9⟩
           go_simp
           with_reducible rfl
          rotate_left
          ·simp only [Act.put, sA, sB, sC, i64_w, i32_w]
           rfl
          refine take_ (i := 22) (N := some 68) (v := ?_) (a' := ?_) #[T,T,T,T,T,T,T,T,T,T,T,T,T,T,T,T,T,T,T,F,F,T,T,F,F,F,F,F] rfl rfl (take_ofW HT_.out HW_.out (by kernel_rfl)) (fun _ _ _ h => h) (Or.inl ⟨by rfl, ?_⟩) hHeld ?_ ?_
          rotate_left
          ·rintro w' ⟨s0, s1, s2, s3, s4, s5, s6, s7, s8, s9⟩
           go_simp
           with_reducible rfl
          rotate_left
          ·simp only [Act.put, sA, sB, sC, i64_w, i32_w]
           rfl
          refine pure_ (i := 23) (N := some 69) (v := ?_) (a' := ?_) #[T,T,T,T,T,T,T,T,T,T,T,T,T,T,T,T,T,T,T,F,F,T,T,T,F,F,F,F] rfl rfl (any_of HT_.out (by kernel_rfl)) (fun _ _ _ h => h) (Or.inl ⟨by rfl, ?_⟩) ?_ ?_
          rotate_left
          ·intro w'
           go_simp
           with_reducible rfl
          rotate_left
          ·simp only [Act.put, sA, sB, sC, i64_w, i32_w]
           rfl
          refine pure_ (i := 24) (N := some 70) (v := ?_) (a' := ?_) #[T,T,T,T,T,T,T,T,T,T,T,T,T,T,T,T,T,T,T,F,F,T,T,T,T,F,F,F] rfl rfl (any_of HT_.out (by kernel_rfl)) (fun _ _ _ h => h) (Or.inl ⟨by rfl, ?_⟩) ?_ ?_
          rotate_left
          ·intro w'
           go_simp
           with_reducible rfl
          rotate_left
          ·simp only [Act.put, sA, sB, sC, i64_w, i32_w]
           rfl
          refine one_ (i := 19) (N := some 65) #[T,T,T,T,T,T,T,T,T,T,T,T,T,T,T,T,T,T,T,T,F,T,T,T,T,F,F,F] rfl rfl (one_of HT_.out (by kernel_rfl)) (by decide) (fun K hK => ?_)
          refine goes_ Try.func24 (by kernel_rfl) rfl #[.agg #[.int .u32 a0_0, .int .i32 a0_1, .int .i32 a0_2, .int .i32 a0_3, .int .i32 a0_4, .int .i32 a0_5, .int .i32 a0_6, .int .i32 a0_7, .int .i32 a0_8, .int .i32 a0_9]] (by rfl) rfl rfl (by (try simp only [List.map_toArray, List.map_cons, List.map_nil]); first | done | rfl | (simp only [List.length_drop, List.length_take]; rfl)) ?_
          with_reducible refine (billiardref05_First.calls a0_0 a0_1 a0_2 a0_3 a0_4 a0_5 a0_6 a0_7 a0_8 a0_9 t355 t356 _ A56.out).mono ?_
          rintro e w64 ⟨rfl, hb⟩
          refine ⟨_, rfl, ?_⟩
          have n_ := kB2 BK335 BK336 HB (by repeat first | exact lR _ _ | apply lN | apply lD | apply lA) hb
          clear BK335 BK336 HB
          obtain ⟨BK335, BK336, HB⟩ := n_
          (try clear hb)
          (try clear hb2)
          (try clear hk)
          (try clear hi)
          refine hK.out _ _ ⟨(bC BK335.out 0).trans rfl, (bC BK335.out 1).trans rfl, (bC BK335.out 2).trans rfl, (bC BK335.out 3).trans rfl, (bC BK335.out 4).trans rfl, (bC BK335.out 5).trans rfl, (bC BK335.out 6).trans rfl, (bC BK335.out 7).trans rfl, (bC BK335.out 8).trans rfl, (bC BK335.out 9).trans rfl⟩ (fun hHeld => ?_)
          clear hK K
          refine norm_ (a' := ?_) ?_ ?_
          rotate_left
          ·show Act.put _ (some 65) _ = _
           simp only [Act.put, sA, sB, sC, i64_w, i32_w]
           rfl
          refine one_ (i := 20) (N := some 66) #[T,T,T,T,T,T,T,T,T,T,T,T,T,T,T,T,T,T,T,T,T,T,T,T,T,F,F,F] rfl rfl (one_of HT_.out (by kernel_rfl)) (by decide) (fun K hK => ?_)
          refine goes_ Try.func10 (by kernel_rfl) rfl #[.agg #[.int .u32 a0_0, .int .i32 a0_1, .int .i32 a0_2, .int .i32 a0_3, .int .i32 a0_4, .int .i32 a0_5, .int .i32 a0_6, .int .i32 a0_7, .int .i32 a0_8, .int .i32 a0_9], .agg #[.int .i32 t355, .int .i32 t356]] (by rfl) rfl rfl (by (try simp only [List.map_toArray, List.map_cons, List.map_nil]); first | done | rfl | (simp only [List.length_drop, List.length_take]; rfl)) ?_
          with_reducible refine (query_Distance.calls kj25 a0_0 a0_1 a0_2 a0_3 a0_4 a0_5 a0_6 a0_7 a0_8 a0_9 t355 t356 t357 _ A57.out).mono ?_
          rintro e w65 ⟨rfl, hb⟩
          refine ⟨_, rfl, ?_⟩
          have n_ := kB2 BK335 BK336 HB (by repeat first | exact lR _ _ | apply lN | apply lD | apply lA) hb
          clear BK335 BK336 HB
          obtain ⟨BK335, BK336, HB⟩ := n_
          (try clear hb)
          (try clear hb2)
          (try clear hk)
          (try clear hi)
          refine hK.out _ _ ⟨(bC BK335.out 0).trans rfl, (bC BK335.out 1).trans rfl, (bC BK335.out 2).trans rfl, (bC BK335.out 3).trans rfl, (bC BK335.out 4).trans rfl, (bC BK335.out 5).trans rfl, (bC BK335.out 6).trans rfl, (bC BK335.out 7).trans rfl, (bC BK335.out 8).trans rfl, (bC BK335.out 9).trans rfl⟩ (fun hHeld => ?_)
          clear hK K
          refine norm_ (a' := ?_) ?_ ?_
          rotate_left
          ·show Act.put _ (some 66) _ = _
           simp only [Act.put, sA, sB, sC, i64_w, i32_w]
           rfl
          refine pure_ (i := 25) (N := some 71) (v := ?_) (a' := ?_) #[T,T,T,T,T,T,T,T,T,T,T,T,T,T,T,T,T,T,T,T,T,T,T,T,T,T,F,F] rfl rfl (any_of HT_.out (by kernel_rfl)) (fun _ _ _ h => h) (Or.inl ⟨by rfl, ?_⟩) ?_ ?_
          rotate_left
          ·intro w'
           go_simp
           with_reducible rfl
          rotate_left
          ·simp only [Act.put, sA, sB, sC, i64_w, i32_w]
           rfl
          refine pure_ (i := 26) (N := some 72) (v := ?_) (a' := ?_) #[T,T,T,T,T,T,T,T,T,T,T,T,T,T,T,T,T,T,T,T,T,T,T,T,T,T,T,F] rfl rfl (any_of HT_.out (by kernel_rfl)) (fun _ _ _ h => h) (Or.inl ⟨by rfl, ?_⟩) ?_ ?_
          rotate_left
          ·intro w'
           go_simp
           with_reducible rfl
          rotate_left
          ·simp only [Act.put, sA, sB, sC, i64_w, i32_w]
           rfl
          refine pure_ (i := 27) (N := some 4) (v := ?_) (a' := ?_) #[T,T,T,T,T,T,T,T,T,T,T,T,T,T,T,T,T,T,T,T,T,T,T,T,T,T,T,T] rfl rfl (any_of HT_.out (by kernel_rfl)) (fun _ _ _ h => h) (Or.inl ⟨by rfl, ?_⟩) ?_ ?_
          rotate_left
          ·intro w'
           go_simp
           with_reducible rfl
          rotate_left
          ·simp only [Act.put, sA, sB, sC, i64_w, i32_w]
           rfl
          refine done_ (done_of HT_.out (by kernel_rfl)) ?_
          try go_wp2
          go_ret
          exact ⟨by first | rfl | (simp [errW_none, errW_some] <;> rfl) | (simp [*, errW_none, errW_some] <;> rfl), by repeat (first | (with_reducible first | exact HB.out | apply lA | apply lN | apply lD) | exact HB.out)⟩
         ·replace c55 := Bool.eq_false_iff.mpr c55
          subst c55
          rw [if_neg (show ¬ (false = true) by decide)] at H
          exact absurd ((Option.some.inj H).trans HR.out) (by decide)
        ·replace c53 := Bool.eq_false_iff.mpr c53
         subst c53
         rw [if_neg (show ¬ (false = true) by decide)] at H
         exact absurd ((Option.some.inj H).trans HR.out) (by decide)
       ·replace c50 := Bool.eq_false_iff.mpr c50
        subst c50
        rw [if_neg (show ¬ (false = true) by decide)] at H
        exact absurd ((Option.some.inj H).trans HR.out) (by decide)

/-- THE ONE PURE STATEMENT of billiardlaw24_QueryBodies: yours. -/
def billiardlaw24_QueryBodies.Pure : Prop := ∀ (a0_0 : Int) (a0_1 : Int) (a0_2 : Int) (a0_3 : Int) (a0_4 : Int) (a0_5 : Int) (a0_6 : Int) (a0_7 : Int) (a0_8 : Int) (a0_9 : Int) (a1_0 : Int) (a1_1 : Int), (Lit.int .u32 a0_0).wf = true → (Lit.int .i32 a0_1).wf = true → (Lit.int .i32 a0_2).wf = true → (Lit.int .i32 a0_3).wf = true → (Lit.int .i32 a0_4).wf = true → (Lit.int .i32 a0_5).wf = true → (Lit.int .i32 a0_6).wf = true → (Lit.int .i32 a0_7).wf = true → (Lit.int .i32 a0_8).wf = true → (Lit.int .i32 a0_9).wf = true → (Lit.int .i32 a1_0).wf = true → (Lit.int .i32 a1_1).wf = true → ∃ k, billiardlaw24_QueryBodies.f k a0_0 a0_1 a0_2 a0_3 a0_4 a0_5 a0_6 a0_7 a0_8 a0_9 a1_0 a1_1 = some true
theorem billiardlaw24_QueryBodies.walk (P : billiardlaw24_QueryBodies.Pure) (a0_0 : Int) (a0_1 : Int) (a0_2 : Int) (a0_3 : Int) (a0_4 : Int) (a0_5 : Int) (a0_6 : Int) (a0_7 : Int) (a0_8 : Int) (a0_9 : Int) (a1_0 : Int) (a1_1 : Int) (w : World) (w0_0 : (Lit.int .u32 a0_0).wf = true) (w0_1 : (Lit.int .i32 a0_1).wf = true) (w0_2 : (Lit.int .i32 a0_2).wf = true) (w0_3 : (Lit.int .i32 a0_3).wf = true) (w0_4 : (Lit.int .i32 a0_4).wf = true) (w0_5 : (Lit.int .i32 a0_5).wf = true) (w0_6 : (Lit.int .i32 a0_6).wf = true) (w0_7 : (Lit.int .i32 a0_7).wf = true) (w0_8 : (Lit.int .i32 a0_8).wf = true) (w0_9 : (Lit.int .i32 a0_9).wf = true) (w1_0 : (Lit.int .i32 a1_0).wf = true) (w1_1 : (Lit.int .i32 a1_1).wf = true) :
  Calls Try.prog 5 #[.agg #[.int .u32 a0_0, .int .i32 a0_1, .int .i32 a0_2, .int .i32 a0_3, .int .i32 a0_4, .int .i32 a0_5, .int .i32 a0_6, .int .i32 a0_7, .int .i32 a0_8, .int .i32 a0_9], .agg #[.int .i32 a1_0, .int .i32 a1_1]] w fun e w' => e = .returned (.bool true) ∧ Below w.heap.size w w' := by
 obtain ⟨k, h⟩ := P a0_0 a0_1 a0_2 a0_3 a0_4 a0_5 a0_6 a0_7 a0_8 a0_9 a1_0 a1_1 w0_0 w0_1 w0_2 w0_3 w0_4 w0_5 w0_6 w0_7 w0_8 w0_9 w1_0 w1_1
 refine (billiardlaw24_QueryBodies.calls k a0_0 a0_1 a0_2 a0_3 a0_4 a0_5 a0_6 a0_7 a0_8 a0_9 a1_0 a1_1 true w h rfl).mono ?_
 rintro e w' ⟨rfl, hd⟩
 exact ⟨rfl, hd⟩

end Go.Proofs.Ytabcnaceffpekaa.Q
