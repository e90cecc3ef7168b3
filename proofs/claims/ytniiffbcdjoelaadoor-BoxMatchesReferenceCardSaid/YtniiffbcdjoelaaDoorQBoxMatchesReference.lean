-- PRINTED by print.py (a twelfth state) out of the translation. Not trusted: Lean checks it.
import Derived.Test.YtniiffbcdjoelaaDoorQ0
import Derived.Test.YtniiffbcdjoelaaDoorQE0
import Derived.Test.YtniiffbcdjoelaaDoorQbilliardlaw08
import Derived.Test.YtniiffbcdjoelaaDoorQbilliardref05
import Derived.Test.YtniiffbcdjoelaaDoorQbilliardref08
import Derived.Test.YtniiffbcdjoelaaDoorQbox
import Derived.Test.YtniiffbcdjoelaaDoorMglob
namespace Go.Proofs.YtniiffbcdjoelaaDoor.Q
open Go.RowKit Go.Proofs.YtniiffbcdjoelaaDoorW.PrintWords Go.Proofs.YtniiffbcdjoelaaDoorW.PrintLast Go.Proofs.YtniiffbcdjoelaaDoorW.PrintMore
attribute [local go_sem] max2_int min2_int max_two min_two max_three min_three max_four min_four   -- for this text's walks alone
set_option linter.unusedVariables false
set_option linter.unusedSimpArgs false

attribute [local go_sem high] eqA31
/-! ### billiardlaw08_BoxMatchesReference: function 3 -/
-- IMPORT Derived.Test.YtniiffbcdjoelaaDoorMglob
def billiardlaw08_BoxMatchesReference.j0 : Nat → Bool → Int → Int → Int → Int → Int → Int → Int → Int → Int → Int → Option (Bool)
  | 0, _, _, _, _, _, _, _, _, _, _, _ => none
  | k + 1, x21, x161000, x161001, x161002, x161003, x162000, x162001, x162002, x162003, x163000, x163001 => if x21 = true then (some false) else ((billiardlaw08_forward.f x161000 x161001 x161002 x161003).bind fun bt177 => ((box_Empty.f bt177.1 bt177.2.1 bt177.2.2.1 bt177.2.2.2).bind fun t181 => ((billiardref08_Empty.f x161000 x161001 x161002 x161003).bind fun t182 => (if (t181 == t182) = true then ((billiardlaw08_forward.f x161000 x161001 x161002 x161003).bind fun bt183 => ((billiardlaw08_forward.f x162000 x162001 x162002 x162003).bind fun bt187 => ((box_Overlap.f bt183.1 bt183.2.1 bt183.2.2.1 bt183.2.2.2 bt187.1 bt187.2.1 bt187.2.2.1 bt187.2.2.2).bind fun t191 => ((billiardref08_Overlap.f x161000 x161001 x161002 x161003 x162000 x162001 x162002 x162003).bind fun t192 => (if (t191 == t192) = true then ((billiardlaw08_forward.f x161000 x161001 x161002 x161003).bind fun bt193 => ((box_Contains.f bt193.1 bt193.2.1 bt193.2.2.1 bt193.2.2.2 x163000 x163001).bind fun t197 => ((billiardref08_Contains.f x161000 x161001 x161002 x161003 x163000 x163001).bind fun t198 => (some (t197 == t198))))) else (some false)))))) else (some false)))))
def billiardlaw08_BoxMatchesReference.f (k : Nat) (a0_0 : Int) (a0_1 : Int) (a0_2 : Int) (a0_3 : Int) (a0_4 : Int) (a0_5 : Int) (a0_6 : Int) (a0_7 : Int) (a0_8 : Int) (a0_9 : Int) (a1_0 : Int) (a1_1 : Int) (a1_2 : Int) (a1_3 : Int) (a2_0 : Int) (a2_1 : Int) (a2_2 : Int) (a2_3 : Int) (a3_0 : Int) (a3_1 : Int) : Option (Bool) := (billiardlaw08_awake.f).bind fun t163 => (if t163 = true then ((billiardref05_Check.f k a0_0 a0_1 a0_2 a0_3 a0_4 a0_5 a0_6 a0_7 a0_8 a0_9).bind fun t164 => (if t164 = 0 then ((box_Of.f a0_0 a0_1 a0_2 a0_3 a0_4 a0_5 a0_6 a0_7 a0_8 a0_9).bind fun bt165 => ((billiardref08_Of.f a0_0 a0_1 a0_2 a0_3 a0_4 a0_5 a0_6 a0_7 a0_8 a0_9).bind fun bt169 => ((billiardlaw08_forward.f bt169.1 bt169.2.1 bt169.2.2.1 bt169.2.2.2).bind fun bt173 => (billiardlaw08_BoxMatchesReference.j0 k (!(bt165.1 == bt173.1) || (!(bt165.2.1 == bt173.2.1) || (!(bt165.2.2.1 == bt173.2.2.1) || (!(bt165.2.2.2 == bt173.2.2.2))))) a1_0 a1_1 a1_2 a1_3 a2_0 a2_1 a2_2 a2_3 a3_0 a3_1)))) else (billiardlaw08_BoxMatchesReference.j0 k false a1_0 a1_1 a1_2 a1_3 a2_0 a2_1 a2_2 a2_3 a3_0 a3_1))) else (some false))
theorem billiardlaw08_BoxMatchesReference.mono_l : ∀ k, (∀ y0 y1 y2 y3 y4 y5 y6 y7 y8 y9 y10, LeO (billiardlaw08_BoxMatchesReference.j0 k y0 y1 y2 y3 y4 y5 y6 y7 y8 y9 y10) (billiardlaw08_BoxMatchesReference.j0 (k + 1) y0 y1 y2 y3 y4 y5 y6 y7 y8 y9 y10))
  | 0 => fun _ _ _ _ _ _ _ _ _ _ _ r h => by simp [billiardlaw08_BoxMatchesReference.j0] at h
  | k + 1 => by
    have ih0 := billiardlaw08_BoxMatchesReference.mono_l k
    · intro y0 y1 y2 y3 y4 y5 y6 y7 y8 y9 y10
      unfold billiardlaw08_BoxMatchesReference.j0
      repeat' first
      | (with_reducible exact ih0 _ _ _ _ _ _ _ _ _ _ _)
      | (with_reducible exact billiardref05_Check.mono _ _ _ _ _ _ _ _ _ _ _)
      | (with_reducible exact LeO.refl _)
      | (with_reducible exact LeO.none _)
      | (with_reducible refine LeO.ite ?_ ?_)
      | (with_reducible refine LeO.bind ?_ (fun _ => ?_))
      | exact ih0 _ _ _ _ _ _ _ _ _ _ _
      | exact billiardref05_Check.mono _ _ _ _ _ _ _ _ _ _ _
      | exact LeO.none _
      | refine LeO.ite ?_ ?_
      | refine LeO.bind ?_ (fun _ => ?_)
theorem billiardlaw08_BoxMatchesReference.mono : ∀ a0 a1 a2 a3 a4 a5 a6 a7 a8 a9 a10 a11 a12 a13 a14 a15 a16 a17 a18 a19 k, LeO (billiardlaw08_BoxMatchesReference.f k a0 a1 a2 a3 a4 a5 a6 a7 a8 a9 a10 a11 a12 a13 a14 a15 a16 a17 a18 a19) (billiardlaw08_BoxMatchesReference.f (k + 1) a0 a1 a2 a3 a4 a5 a6 a7 a8 a9 a10 a11 a12 a13 a14 a15 a16 a17 a18 a19) := by
  intro a0 a1 a2 a3 a4 a5 a6 a7 a8 a9 a10 a11 a12 a13 a14 a15 a16 a17 a18 a19 k
  have ih0 := billiardlaw08_BoxMatchesReference.mono_l k
  unfold billiardlaw08_BoxMatchesReference.f
  repeat' first
      | (with_reducible exact ih0 _ _ _ _ _ _ _ _ _ _ _)
      | (with_reducible exact billiardref05_Check.mono _ _ _ _ _ _ _ _ _ _ _)
      | (with_reducible exact LeO.refl _)
      | (with_reducible exact LeO.none _)
      | (with_reducible refine LeO.ite ?_ ?_)
      | (with_reducible refine LeO.bind ?_ (fun _ => ?_))
      | exact ih0 _ _ _ _ _ _ _ _ _ _ _
      | exact billiardref05_Check.mono _ _ _ _ _ _ _ _ _ _ _
      | exact LeO.none _
      | refine LeO.ite ?_ ?_
      | refine LeO.bind ?_ (fun _ => ?_)
def billiardlaw08_BoxMatchesReference.T3 : Bool × List (List Nat × List Nat) := (true, [([], []), ([0], [0]), ([1], [1]), ([2, 1], [2]), ([3], [3]), ([4, 3, 3], [3, 4]), ([3], [3]), ([6, 5, 3], [3, 6]), ([7, 7, 3], [3, 7]), ([5, 8, 3], [3, 5, 8]), ([3, 9], [3, 9])])
def billiardlaw08_BoxMatchesReference.B3 : List Nat := [0, 1, 3, 7, 15, 31, 15, 127, 255, 511, 1023]
theorem billiardlaw08_BoxMatchesReference.tab3 : rtab .any (opsOf Tryd.f3 3) = billiardlaw08_BoxMatchesReference.T3 := by kernel_rfl
theorem billiardlaw08_BoxMatchesReference.bits3 : waitsOk billiardlaw08_BoxMatchesReference.T3.2 billiardlaw08_BoxMatchesReference.B3 = true := by kernel_rfl
def billiardlaw08_BoxMatchesReference.T5 : Bool × List (List Nat × List Nat) := (true, [([], []), ([0], [0]), ([1, 1], [1]), ([], []), ([3, 2], [3]), ([2, 4], [2, 4]), ([5, 4], [5]), ([6], [6]), ([7, 6, 6], [6, 7]), ([6], [6]), ([9, 8, 6], [6, 9]), ([8, 10, 10, 6], [6, 8, 10]), ([6], [6]), ([6], [6]), ([12, 13, 11, 6], [6, 12, 13]), ([11, 14, 6], [6, 11, 14]), ([6, 15], [6, 15]), ([16, 14], [16]), ([17], [17]), ([18, 17, 17], [17, 18]), ([17], [17]), ([19, 20, 19, 17], [17, 19, 20]), ([17], [17]), ([17], [17]), ([22, 23, 21, 17], [17, 22, 23]), ([21, 24, 17], [17, 21, 24]), ([17, 25], [17, 25]), ([26, 24, 0, 1, 2, 3, 4, 5, 6, 7, 8, 9, 10, 11, 12, 13, 14, 15, 16, 17, 18, 19, 20, 21, 22, 23, 24, 25, 26], [26])])
def billiardlaw08_BoxMatchesReference.B5 : List Nat := [0, 1, 3, 0, 15, 31, 63, 127, 255, 127, 1023, 2047, 127, 127, 16383, 32767, 65535, 131071, 262143, 524287, 262143, 2097151, 262143, 262143, 16777215, 33554431, 67108863, 134217727]
theorem billiardlaw08_BoxMatchesReference.tab5 : rtab .any (opsOf Tryd.f3 5) = billiardlaw08_BoxMatchesReference.T5 := by kernel_rfl
theorem billiardlaw08_BoxMatchesReference.bits5 : waitsOk billiardlaw08_BoxMatchesReference.T5.2 billiardlaw08_BoxMatchesReference.B5 = true := by kernel_rfl
set_option maxHeartbeats 8000000 in
set_option maxRecDepth 100000 in
theorem billiardlaw08_BoxMatchesReference.calls (k : Nat) (a0_0 : Int) (a0_1 : Int) (a0_2 : Int) (a0_3 : Int) (a0_4 : Int) (a0_5 : Int) (a0_6 : Int) (a0_7 : Int) (a0_8 : Int) (a0_9 : Int) (a1_0 : Int) (a1_1 : Int) (a1_2 : Int) (a1_3 : Int) (a2_0 : Int) (a2_1 : Int) (a2_2 : Int) (a2_3 : Int) (a3_0 : Int) (a3_1 : Int) (r : Bool) (w : World) (h : billiardlaw08_BoxMatchesReference.f k a0_0 a0_1 a0_2 a0_3 a0_4 a0_5 a0_6 a0_7 a0_8 a0_9 a1_0 a1_1 a1_2 a1_3 a2_0 a2_1 a2_2 a2_3 a3_0 a3_1 = some r) (hr : r = true) (HGN0 : GlobN w) :
    Calls Tryd.prog 3 #[.agg #[.int .u32 a0_0, .int .i32 a0_1, .int .i32 a0_2, .int .i32 a0_3, .int .i32 a0_4, .int .i32 a0_5, .int .i32 a0_6, .int .i32 a0_7, .int .i32 a0_8, .int .i32 a0_9], .agg #[.int .i32 a1_0, .int .i32 a1_1, .int .i32 a1_2, .int .i32 a1_3], .agg #[.int .i32 a2_0, .int .i32 a2_1, .int .i32 a2_2, .int .i32 a2_3], .agg #[.int .i32 a3_0, .int .i32 a3_1]] w fun e w' => e = .returned (.bool r) ∧ Below w.heap.size w w' := by
  have HGN := Aside0.mk HGN0
  clear HGN0
  have HR := Aside0.mk hr
  clear hr
  have hu26 := Tryd.underlying26
  have hu28 := Tryd.underlying28
  have hu24 := Tryd.underlying24
  have HB := Aside0.mk (Below.refl w.heap.size w)
  have H : ((billiardlaw08_awake.f).bind fun t163 => (if t163 = true then ((billiardref05_Check.f k a0_0 a0_1 a0_2 a0_3 a0_4 a0_5 a0_6 a0_7 a0_8 a0_9).bind fun t164 => (if t164 = 0 then ((box_Of.f a0_0 a0_1 a0_2 a0_3 a0_4 a0_5 a0_6 a0_7 a0_8 a0_9).bind fun bt165 => ((billiardref08_Of.f a0_0 a0_1 a0_2 a0_3 a0_4 a0_5 a0_6 a0_7 a0_8 a0_9).bind fun bt169 => ((billiardlaw08_forward.f bt169.1 bt169.2.1 bt169.2.2.1 bt169.2.2.2).bind fun bt173 => (billiardlaw08_BoxMatchesReference.j0 k (!(bt165.1 == bt173.1) || (!(bt165.2.1 == bt173.2.1) || (!(bt165.2.2.1 == bt173.2.2.1) || (!(bt165.2.2.2 == bt173.2.2.2))))) a1_0 a1_1 a1_2 a1_3 a2_0 a2_1 a2_2 a2_3 a3_0 a3_1)))) else (billiardlaw08_BoxMatchesReference.j0 k false a1_0 a1_1 a1_2 a1_3 a2_0 a2_1 a2_2 a2_3 a3_0 a3_1))) else (some false))) = some r := h
  clear h
  replace H := Option.bind_eq_some_iff.mp H
  obtain ⟨t163, A50, H⟩ := H
  replace H : (if t163 = true then ((billiardref05_Check.f k a0_0 a0_1 a0_2 a0_3 a0_4 a0_5 a0_6 a0_7 a0_8 a0_9).bind fun t164 => (if t164 = 0 then ((box_Of.f a0_0 a0_1 a0_2 a0_3 a0_4 a0_5 a0_6 a0_7 a0_8 a0_9).bind fun bt165 => ((billiardref08_Of.f a0_0 a0_1 a0_2 a0_3 a0_4 a0_5 a0_6 a0_7 a0_8 a0_9).bind fun bt169 => ((billiardlaw08_forward.f bt169.1 bt169.2.1 bt169.2.2.1 bt169.2.2.2).bind fun bt173 => (billiardlaw08_BoxMatchesReference.j0 k (!(bt165.1 == bt173.1) || (!(bt165.2.1 == bt173.2.1) || (!(bt165.2.2.1 == bt173.2.2.1) || (!(bt165.2.2.2 == bt173.2.2.2))))) a1_0 a1_1 a1_2 a1_3 a2_0 a2_1 a2_2 a2_3 a3_0 a3_1)))) else (billiardlaw08_BoxMatchesReference.j0 k false a1_0 a1_1 a1_2 a1_3 a2_0 a2_1 a2_2 a2_3 a3_0 a3_1))) else (some false)) = some r := H
  have A5 := Aside0.mk A50
  clear A50
  by_cases c6 : t163 = true
  · subst c6
    have H1 : ((billiardref05_Check.f k a0_0 a0_1 a0_2 a0_3 a0_4 a0_5 a0_6 a0_7 a0_8 a0_9).bind fun t164 => (if t164 = 0 then ((box_Of.f a0_0 a0_1 a0_2 a0_3 a0_4 a0_5 a0_6 a0_7 a0_8 a0_9).bind fun bt165 => ((billiardref08_Of.f a0_0 a0_1 a0_2 a0_3 a0_4 a0_5 a0_6 a0_7 a0_8 a0_9).bind fun bt169 => ((billiardlaw08_forward.f bt169.1 bt169.2.1 bt169.2.2.1 bt169.2.2.2).bind fun bt173 => (billiardlaw08_BoxMatchesReference.j0 k (!(bt165.1 == bt173.1) || (!(bt165.2.1 == bt173.2.1) || (!(bt165.2.2.1 == bt173.2.2.1) || (!(bt165.2.2.2 == bt173.2.2.2))))) a1_0 a1_1 a1_2 a1_3 a2_0 a2_1 a2_2 a2_3 a3_0 a3_1)))) else (billiardlaw08_BoxMatchesReference.j0 k false a1_0 a1_1 a1_2 a1_3 a2_0 a2_1 a2_2 a2_3 a3_0 a3_1))) = some r := by rw [if_pos rfl] at H; exact H
    clear H
    have H := H1
    clear H1
    have HC7 := Aside0.mk H
    clear H
    go_enter Tryd.func3, Tryd.ntmps3
    go_upto_region 3 with (first | ((with_reducible refine gate_dst (N := 4) rfl ?_); refine box_event ?hg (N := 4) ?hd (cs := #[.int .u32 a0_0, .int .i32 a0_1, .int .i32 a0_2, .int .i32 a0_3, .int .i32 a0_4, .int .i32 a0_5, .int .i32 a0_6, .int .i32 a0_7, .int .i32 a0_8, .int .i32 a0_9]) (t := 26) ?hr ?_; (case hd => rfl); (case hg => rfl); (case hr => first | (go_simp; done) | (go_simp; rfl)); intro gb159 hg w8 hbox hb; have n0_ := Aside0.mk (below_step (by repeat (first | (with_reducible first | exact HB.out | apply below_alloc | apply pw_below_drewN | apply below_drew1) | exact HB.out)) hb); have n1_ := Aside0.mk (hbox); have n2_ := Aside0.mk ((by rw [hg]; exact (below_size (by repeat (first | (with_reducible first | exact HB.out | apply below_alloc | apply pw_below_drewN | apply below_drew1) | exact HB.out))) : w.heap.size ≤ gb159)); have n3_ := Aside0.mk ((by rw [hg]; exact (below_size (by repeat (first | (with_reducible first | exact HB.out | apply below_alloc | apply pw_below_drewN | apply below_drew1) | exact HB.out))) : w.heap.size ≤ gb159)); clear HB; have HB := n0_; have BK159 := n1_; have GW159 := n2_; have GE159 := n3_; clear n0_ n1_ n2_ n3_; clear hb hbox hg) | ((with_reducible refine gate_dst (N := 5) rfl ?_); refine box_event ?hg (N := 5) ?hd (cs := #[.int .i32 a1_0, .int .i32 a1_1, .int .i32 a1_2, .int .i32 a1_3]) (t := 28) ?hr ?_; (case hd => rfl); (case hg => rfl); (case hr => first | (go_simp; done) | (go_simp; rfl)); intro gb160 hg w9 hbox hb; have n0_ := Aside0.mk (blk_below (g := gb159) (o := .cells #[.int .u32 a0_0, .int .i32 a0_1, .int .i32 a0_2, .int .i32 a0_3, .int .i32 a0_4, .int .i32 a0_5, .int .i32 a0_6, .int .i32 a0_7, .int .i32 a0_8, .int .i32 a0_9] 26 (0, 0)) (by (with_reducible repeat (first | refine blk_drewN ?_ _ | refine blk_drew ?_ | refine blk_alloc ?_ _)); exact BK159.out) hb); have n1_ := Aside0.mk (below_step (by repeat (first | (with_reducible first | exact HB.out | apply below_alloc | apply pw_below_drewN | apply below_drew1 | refine below_set ?_ GE159.out) | exact HB.out)) hb); have n2_ := Aside0.mk (hbox); have n3_ := Aside0.mk ((by rw [hg]; exact (below_size (by repeat (first | (with_reducible first | exact HB.out | apply below_alloc | apply pw_below_drewN | apply below_drew1 | refine below_set ?_ GE159.out) | exact HB.out))) : w.heap.size ≤ gb160)); have n4_ := Aside0.mk ((by rw [hg]; exact (below_size (by repeat (first | (with_reducible first | exact HB.out | apply below_alloc | apply pw_below_drewN | apply below_drew1 | refine below_set ?_ GE159.out) | exact HB.out))) : w.heap.size ≤ gb160)); have n5_ := Aside0.mk ((by rw [hg]; exact Nat.ne_of_lt (blk_lt (g := gb159) (o := .cells #[.int .u32 a0_0, .int .i32 a0_1, .int .i32 a0_2, .int .i32 a0_3, .int .i32 a0_4, .int .i32 a0_5, .int .i32 a0_6, .int .i32 a0_7, .int .i32 a0_8, .int .i32 a0_9] 26 (0, 0)) (by (with_reducible repeat (first | refine blk_drewN ?_ _ | refine blk_drew ?_ | refine blk_alloc ?_ _)); exact BK159.out)) : gb159 ≠ gb160)); have n6_ := Aside0.mk ((by rw [hg]; exact Nat.ne_of_gt (blk_lt (g := gb159) (o := .cells #[.int .u32 a0_0, .int .i32 a0_1, .int .i32 a0_2, .int .i32 a0_3, .int .i32 a0_4, .int .i32 a0_5, .int .i32 a0_6, .int .i32 a0_7, .int .i32 a0_8, .int .i32 a0_9] 26 (0, 0)) (by (with_reducible repeat (first | refine blk_drewN ?_ _ | refine blk_drew ?_ | refine blk_alloc ?_ _)); exact BK159.out)) : gb160 ≠ gb159)); clear BK159; clear HB; have BK159 := n0_; have HB := n1_; have BK160 := n2_; have GW160 := n3_; have GE160 := n4_; have NB159_160 := n5_; have NB160_159 := n6_; clear n0_ n1_ n2_ n3_ n4_ n5_ n6_; clear hb hbox hg) | ((with_reducible refine gate_dst (N := 6) rfl ?_); refine box_event ?hg (N := 6) ?hd (cs := #[.int .i32 a2_0, .int .i32 a2_1, .int .i32 a2_2, .int .i32 a2_3]) (t := 28) ?hr ?_; (case hd => rfl); (case hg => rfl); (case hr => first | (go_simp; done) | (go_simp; rfl)); intro gb161 hg w10 hbox hb; have n0_ := Aside0.mk (blk_below (g := gb159) (o := .cells #[.int .u32 a0_0, .int .i32 a0_1, .int .i32 a0_2, .int .i32 a0_3, .int .i32 a0_4, .int .i32 a0_5, .int .i32 a0_6, .int .i32 a0_7, .int .i32 a0_8, .int .i32 a0_9] 26 (0, 0)) (by (with_reducible repeat (first | refine blk_drewN ?_ _ | refine blk_drew ?_ | refine blk_alloc ?_ _)); exact BK159.out) hb); have n1_ := Aside0.mk (blk_below (g := gb160) (o := .cells #[.int .i32 a1_0, .int .i32 a1_1, .int .i32 a1_2, .int .i32 a1_3] 28 (0, 0)) (by (with_reducible repeat (first | refine blk_drewN ?_ _ | refine blk_drew ?_ | refine blk_alloc ?_ _)); exact BK160.out) hb); have n2_ := Aside0.mk (below_step (by repeat (first | (with_reducible first | exact HB.out | apply below_alloc | apply pw_below_drewN | apply below_drew1 | refine below_set ?_ GE159.out | refine below_set ?_ GE160.out) | exact HB.out)) hb); have n3_ := Aside0.mk (hbox); have n4_ := Aside0.mk ((by rw [hg]; exact (below_size (by repeat (first | (with_reducible first | exact HB.out | apply below_alloc | apply pw_below_drewN | apply below_drew1 | refine below_set ?_ GE159.out | refine below_set ?_ GE160.out) | exact HB.out))) : w.heap.size ≤ gb161)); have n5_ := Aside0.mk ((by rw [hg]; exact (below_size (by repeat (first | (with_reducible first | exact HB.out | apply below_alloc | apply pw_below_drewN | apply below_drew1 | refine below_set ?_ GE159.out | refine below_set ?_ GE160.out) | exact HB.out))) : w.heap.size ≤ gb161)); have n6_ := Aside0.mk ((by rw [hg]; exact Nat.ne_of_lt (blk_lt (g := gb159) (o := .cells #[.int .u32 a0_0, .int .i32 a0_1, .int .i32 a0_2, .int .i32 a0_3, .int .i32 a0_4, .int .i32 a0_5, .int .i32 a0_6, .int .i32 a0_7, .int .i32 a0_8, .int .i32 a0_9] 26 (0, 0)) (by (with_reducible repeat (first | refine blk_drewN ?_ _ | refine blk_drew ?_ | refine blk_alloc ?_ _)); exact BK159.out)) : gb159 ≠ gb161)); have n7_ := Aside0.mk ((by rw [hg]; exact Nat.ne_of_gt (blk_lt (g := gb159) (o := .cells #[.int .u32 a0_0, .int .i32 a0_1, .int .i32 a0_2, .int .i32 a0_3, .int .i32 a0_4, .int .i32 a0_5, .int .i32 a0_6, .int .i32 a0_7, .int .i32 a0_8, .int .i32 a0_9] 26 (0, 0)) (by (with_reducible repeat (first | refine blk_drewN ?_ _ | refine blk_drew ?_ | refine blk_alloc ?_ _)); exact BK159.out)) : gb161 ≠ gb159)); have n8_ := Aside0.mk ((by rw [hg]; exact Nat.ne_of_lt (blk_lt (g := gb160) (o := .cells #[.int .i32 a1_0, .int .i32 a1_1, .int .i32 a1_2, .int .i32 a1_3] 28 (0, 0)) (by (with_reducible repeat (first | refine blk_drewN ?_ _ | refine blk_drew ?_ | refine blk_alloc ?_ _)); exact BK160.out)) : gb160 ≠ gb161)); have n9_ := Aside0.mk ((by rw [hg]; exact Nat.ne_of_gt (blk_lt (g := gb160) (o := .cells #[.int .i32 a1_0, .int .i32 a1_1, .int .i32 a1_2, .int .i32 a1_3] 28 (0, 0)) (by (with_reducible repeat (first | refine blk_drewN ?_ _ | refine blk_drew ?_ | refine blk_alloc ?_ _)); exact BK160.out)) : gb161 ≠ gb160)); clear BK159; clear BK160; clear HB; have BK159 := n0_; have BK160 := n1_; have HB := n2_; have BK161 := n3_; have GW161 := n4_; have GE161 := n5_; have NB159_161 := n6_; have NB161_159 := n7_; have NB160_161 := n8_; have NB161_160 := n9_; clear n0_ n1_ n2_ n3_ n4_ n5_ n6_ n7_ n8_ n9_; clear hb hbox hg) | ((with_reducible refine gate_dst (N := 7) rfl ?_); refine box_event ?hg (N := 7) ?hd (cs := #[.int .i32 a3_0, .int .i32 a3_1]) (t := 24) ?hr ?_; (case hd => rfl); (case hg => rfl); (case hr => first | (go_simp; done) | (go_simp; rfl)); intro gb162 hg w11 hbox hb; have n0_ := Aside0.mk (blk_below (g := gb159) (o := .cells #[.int .u32 a0_0, .int .i32 a0_1, .int .i32 a0_2, .int .i32 a0_3, .int .i32 a0_4, .int .i32 a0_5, .int .i32 a0_6, .int .i32 a0_7, .int .i32 a0_8, .int .i32 a0_9] 26 (0, 0)) (by (with_reducible repeat (first | refine blk_drewN ?_ _ | refine blk_drew ?_ | refine blk_alloc ?_ _)); exact BK159.out) hb); have n1_ := Aside0.mk (blk_below (g := gb160) (o := .cells #[.int .i32 a1_0, .int .i32 a1_1, .int .i32 a1_2, .int .i32 a1_3] 28 (0, 0)) (by (with_reducible repeat (first | refine blk_drewN ?_ _ | refine blk_drew ?_ | refine blk_alloc ?_ _)); exact BK160.out) hb); have n2_ := Aside0.mk (blk_below (g := gb161) (o := .cells #[.int .i32 a2_0, .int .i32 a2_1, .int .i32 a2_2, .int .i32 a2_3] 28 (0, 0)) (by (with_reducible repeat (first | refine blk_drewN ?_ _ | refine blk_drew ?_ | refine blk_alloc ?_ _)); exact BK161.out) hb); have n3_ := Aside0.mk (below_step (by repeat (first | (with_reducible first | exact HB.out | apply below_alloc | apply pw_below_drewN | apply below_drew1 | refine below_set ?_ GE159.out | refine below_set ?_ GE160.out | refine below_set ?_ GE161.out) | exact HB.out)) hb); have n4_ := Aside0.mk (hbox); have n5_ := Aside0.mk ((by rw [hg]; exact (below_size (by repeat (first | (with_reducible first | exact HB.out | apply below_alloc | apply pw_below_drewN | apply below_drew1 | refine below_set ?_ GE159.out | refine below_set ?_ GE160.out | refine below_set ?_ GE161.out) | exact HB.out))) : w.heap.size ≤ gb162)); have n6_ := Aside0.mk ((by rw [hg]; exact (below_size (by repeat (first | (with_reducible first | exact HB.out | apply below_alloc | apply pw_below_drewN | apply below_drew1 | refine below_set ?_ GE159.out | refine below_set ?_ GE160.out | refine below_set ?_ GE161.out) | exact HB.out))) : w.heap.size ≤ gb162)); have n7_ := Aside0.mk ((by rw [hg]; exact Nat.ne_of_lt (blk_lt (g := gb159) (o := .cells #[.int .u32 a0_0, .int .i32 a0_1, .int .i32 a0_2, .int .i32 a0_3, .int .i32 a0_4, .int .i32 a0_5, .int .i32 a0_6, .int .i32 a0_7, .int .i32 a0_8, .int .i32 a0_9] 26 (0, 0)) (by (with_reducible repeat (first | refine blk_drewN ?_ _ | refine blk_drew ?_ | refine blk_alloc ?_ _)); exact BK159.out)) : gb159 ≠ gb162)); have n8_ := Aside0.mk ((by rw [hg]; exact Nat.ne_of_gt (blk_lt (g := gb159) (o := .cells #[.int .u32 a0_0, .int .i32 a0_1, .int .i32 a0_2, .int .i32 a0_3, .int .i32 a0_4, .int .i32 a0_5, .int .i32 a0_6, .int .i32 a0_7, .int .i32 a0_8, .int .i32 a0_9] 26 (0, 0)) (by (with_reducible repeat (first | refine blk_drewN ?_ _ | refine blk_drew ?_ | refine blk_alloc ?_ _)); exact BK159.out)) : gb162 ≠ gb159)); have n9_ := Aside0.mk ((by rw [hg]; exact Nat.ne_of_lt (blk_lt (g := gb160) (o := .cells #[.int .i32 a1_0, .int .i32 a1_1, .int .i32 a1_2, .int .i32 a1_3] 28 (0, 0)) (by (with_reducible repeat (first | refine blk_drewN ?_ _ | refine blk_drew ?_ | refine blk_alloc ?_ _)); exact BK160.out)) : gb160 ≠ gb162)); have n10_ := Aside0.mk ((by rw [hg]; exact Nat.ne_of_gt (blk_lt (g := gb160) (o := .cells #[.int .i32 a1_0, .int .i32 a1_1, .int .i32 a1_2, .int .i32 a1_3] 28 (0, 0)) (by (with_reducible repeat (first | refine blk_drewN ?_ _ | refine blk_drew ?_ | refine blk_alloc ?_ _)); exact BK160.out)) : gb162 ≠ gb160)); have n11_ := Aside0.mk ((by rw [hg]; exact Nat.ne_of_lt (blk_lt (g := gb161) (o := .cells #[.int .i32 a2_0, .int .i32 a2_1, .int .i32 a2_2, .int .i32 a2_3] 28 (0, 0)) (by (with_reducible repeat (first | refine blk_drewN ?_ _ | refine blk_drew ?_ | refine blk_alloc ?_ _)); exact BK161.out)) : gb161 ≠ gb162)); have n12_ := Aside0.mk ((by rw [hg]; exact Nat.ne_of_gt (blk_lt (g := gb161) (o := .cells #[.int .i32 a2_0, .int .i32 a2_1, .int .i32 a2_2, .int .i32 a2_3] 28 (0, 0)) (by (with_reducible repeat (first | refine blk_drewN ?_ _ | refine blk_drew ?_ | refine blk_alloc ?_ _)); exact BK161.out)) : gb162 ≠ gb161)); clear BK159; clear BK160; clear BK161; clear HB; have BK159 := n0_; have BK160 := n1_; have BK161 := n2_; have HB := n3_; have BK162 := n4_; have GW162 := n5_; have GE162 := n6_; have NB159_162 := n7_; have NB162_159 := n8_; have NB160_162 := n9_; have NB162_160 := n10_; have NB161_162 := n11_; have NB162_161 := n12_; clear n0_ n1_ n2_ n3_ n4_ n5_ n6_ n7_ n8_ n9_ n10_ n11_ n12_; clear hb hbox hg) | ((with_reducible refine gate_callee (f := 7) rfl ?_); refine goesL_ (some 9) rfl rfl Tryd.func7 (by kernel_rfl) rfl #[] rfl (by (try simp only [List.map_toArray, List.map_cons, List.map_nil]); first | done | rfl | (simp only [List.length_drop, List.length_take]; rfl)) ?_; (with_reducible refine (billiardlaw08_awake.calls  true _ A5.out (HGN.out.below (by repeat (first | (with_reducible first | exact HB.out | apply below_alloc | apply pw_below_drewN | apply below_drew1 | refine below_set ?_ GE159.out | refine below_set ?_ GE160.out | refine below_set ?_ GE161.out | refine below_set ?_ GE162.out) | exact HB.out)))).mono ?_); rintro e w12 ⟨rfl, hb⟩; refine ⟨_, rfl, ?_⟩; have n0_ := Aside0.mk (blk_below (g := gb159) (o := .cells #[.int .u32 a0_0, .int .i32 a0_1, .int .i32 a0_2, .int .i32 a0_3, .int .i32 a0_4, .int .i32 a0_5, .int .i32 a0_6, .int .i32 a0_7, .int .i32 a0_8, .int .i32 a0_9] 26 (0, 0)) (by (with_reducible repeat (first | refine blk_drewN ?_ _ | refine blk_drew ?_ | refine blk_alloc ?_ _)); exact BK159.out) hb); have n1_ := Aside0.mk (blk_below (g := gb160) (o := .cells #[.int .i32 a1_0, .int .i32 a1_1, .int .i32 a1_2, .int .i32 a1_3] 28 (0, 0)) (by (with_reducible repeat (first | refine blk_drewN ?_ _ | refine blk_drew ?_ | refine blk_alloc ?_ _)); exact BK160.out) hb); have n2_ := Aside0.mk (blk_below (g := gb161) (o := .cells #[.int .i32 a2_0, .int .i32 a2_1, .int .i32 a2_2, .int .i32 a2_3] 28 (0, 0)) (by (with_reducible repeat (first | refine blk_drewN ?_ _ | refine blk_drew ?_ | refine blk_alloc ?_ _)); exact BK161.out) hb); have n3_ := Aside0.mk (blk_below (g := gb162) (o := .cells #[.int .i32 a3_0, .int .i32 a3_1] 24 (0, 0)) (by (with_reducible repeat (first | refine blk_drewN ?_ _ | refine blk_drew ?_ | refine blk_alloc ?_ _)); exact BK162.out) hb); have n4_ := Aside0.mk (below_step (by repeat (first | (with_reducible first | exact HB.out | apply below_alloc | apply pw_below_drewN | apply below_drew1 | refine below_set ?_ GE159.out | refine below_set ?_ GE160.out | refine below_set ?_ GE161.out | refine below_set ?_ GE162.out) | exact HB.out)) hb); clear BK159; clear BK160; clear BK161; clear BK162; clear HB; have BK159 := n0_; have BK160 := n1_; have BK161 := n2_; have BK162 := n3_; have HB := n4_; clear n0_ n1_ n2_ n3_ n4_; (try clear hb); (try clear hb2); (try clear hk); (try clear hi)))
    (try simp only [Act.put, List.setIfInBounds_toArray, List.set_cons_zero, List.set_cons_succ])
    go_cut [21] (fun v21 wc => ∃ (kq : Nat) (x21_6 : Bool), v21 = .bool x21_6 ∧ Aside0 (billiardlaw08_BoxMatchesReference.j0 kq x21_6 a1_0 a1_1 a1_2 a1_3 a2_0 a2_1 a2_2 a2_3 a3_0 a3_1 = some r) ∧ Aside0 (kq ≤ k) ∧ Aside0 (wc.heap[gb159]? = some (.cells #[.int .u32 a0_0, .int .i32 a0_1, .int .i32 a0_2, .int .i32 a0_3, .int .i32 a0_4, .int .i32 a0_5, .int .i32 a0_6, .int .i32 a0_7, .int .i32 a0_8, .int .i32 a0_9] 26 (0, 0))) ∧ Aside0 (wc.heap[gb160]? = some (.cells #[.int .i32 a1_0, .int .i32 a1_1, .int .i32 a1_2, .int .i32 a1_3] 28 (0, 0))) ∧ Aside0 (wc.heap[gb161]? = some (.cells #[.int .i32 a2_0, .int .i32 a2_1, .int .i32 a2_2, .int .i32 a2_3] 28 (0, 0))) ∧ Aside0 (wc.heap[gb162]? = some (.cells #[.int .i32 a3_0, .int .i32 a3_1] 24 (0, 0))) ∧ Aside0 (Below w.heap.size w wc))
    case first =>
      have H := HC7.out
      clear HC7
      replace H := Option.bind_eq_some_iff.mp H
      obtain ⟨t164, A130, H⟩ := H
      replace H : (if t164 = 0 then ((box_Of.f a0_0 a0_1 a0_2 a0_3 a0_4 a0_5 a0_6 a0_7 a0_8 a0_9).bind fun bt165 => ((billiardref08_Of.f a0_0 a0_1 a0_2 a0_3 a0_4 a0_5 a0_6 a0_7 a0_8 a0_9).bind fun bt169 => ((billiardlaw08_forward.f bt169.1 bt169.2.1 bt169.2.2.1 bt169.2.2.2).bind fun bt173 => (billiardlaw08_BoxMatchesReference.j0 k (!(bt165.1 == bt173.1) || (!(bt165.2.1 == bt173.2.1) || (!(bt165.2.2.1 == bt173.2.2.1) || (!(bt165.2.2.2 == bt173.2.2.2))))) a1_0 a1_1 a1_2 a1_3 a2_0 a2_1 a2_2 a2_3 a3_0 a3_1)))) else (billiardlaw08_BoxMatchesReference.j0 k false a1_0 a1_1 a1_2 a1_3 a2_0 a2_1 a2_2 a2_3 a3_0 a3_1)) = some r := H
      have A13 := Aside0.mk A130
      clear A130
      by_cases c14 : t164 = 0
      · rw [if_pos c14] at H
        have c14b0 : (t164 == 0) = true := beq_iff_eq.mpr c14
        have c14b1 : (t164 != 0) = false := bne_eq_false_iff_eq.mpr c14
        clear c14
        (first | rw [c14b0] | (simp only [i64_w, i32_w]; rw [c14b0]) | skip)
        replace H := Option.bind_eq_some_iff.mp H
        obtain ⟨⟨t165, t166, t167, t168⟩, A150, H⟩ := H
        replace H : ((billiardref08_Of.f a0_0 a0_1 a0_2 a0_3 a0_4 a0_5 a0_6 a0_7 a0_8 a0_9).bind fun bt169 => ((billiardlaw08_forward.f bt169.1 bt169.2.1 bt169.2.2.1 bt169.2.2.2).bind fun bt173 => (billiardlaw08_BoxMatchesReference.j0 k (!(t165 == bt173.1) || (!(t166 == bt173.2.1) || (!(t167 == bt173.2.2.1) || (!(t168 == bt173.2.2.2))))) a1_0 a1_1 a1_2 a1_3 a2_0 a2_1 a2_2 a2_3 a3_0 a3_1))) = some r := H
        have A15 := Aside0.mk A150
        clear A150
        replace H := Option.bind_eq_some_iff.mp H
        obtain ⟨⟨t169, t170, t171, t172⟩, A160, H⟩ := H
        replace H : ((billiardlaw08_forward.f t169 t170 t171 t172).bind fun bt173 => (billiardlaw08_BoxMatchesReference.j0 k (!(t165 == bt173.1) || (!(t166 == bt173.2.1) || (!(t167 == bt173.2.2.1) || (!(t168 == bt173.2.2.2))))) a1_0 a1_1 a1_2 a1_3 a2_0 a2_1 a2_2 a2_3 a3_0 a3_1)) = some r := H
        have A16 := Aside0.mk A160
        clear A160
        replace H := Option.bind_eq_some_iff.mp H
        obtain ⟨⟨t173, t174, t175, t176⟩, A170, H⟩ := H
        replace H : (billiardlaw08_BoxMatchesReference.j0 k (!(t165 == t173) || (!(t166 == t174) || (!(t167 == t175) || (!(t168 == t176))))) a1_0 a1_1 a1_2 a1_3 a2_0 a2_1 a2_2 a2_3 a3_0 a3_1) = some r := H
        have A17 := Aside0.mk A170
        clear A170
        have H' := Aside0.mk H
        clear H
        try go_wp2
        have n0_ := Aside0.mk (blk_drew BK159.out)
        have n1_ := Aside0.mk (blk_drew BK160.out)
        have n2_ := Aside0.mk (blk_drew BK161.out)
        have n3_ := Aside0.mk (blk_drew BK162.out)
        have n4_ := Aside0.mk (below_drew1 HB.out)
        clear BK159
        clear BK160
        clear BK161
        clear BK162
        clear HB
        have BK159 := n0_
        have BK160 := n1_
        have BK161 := n2_
        have BK162 := n3_
        have HB := n4_
        clear n0_ n1_ n2_ n3_ n4_
        refine start_ (n := 11) (S := fun w' => w'.cell? ⟨gb159, 0, none⟩ = some (.int .u32 a0_0) ∧ w'.cell? ⟨gb159, 1, none⟩ = some (.int .i32 a0_1) ∧ w'.cell? ⟨gb159, 2, none⟩ = some (.int .i32 a0_2) ∧ w'.cell? ⟨gb159, 3, none⟩ = some (.int .i32 a0_3) ∧ w'.cell? ⟨gb159, 4, none⟩ = some (.int .i32 a0_4) ∧ w'.cell? ⟨gb159, 5, none⟩ = some (.int .i32 a0_5) ∧ w'.cell? ⟨gb159, 6, none⟩ = some (.int .i32 a0_6) ∧ w'.cell? ⟨gb159, 7, none⟩ = some (.int .i32 a0_7) ∧ w'.cell? ⟨gb159, 8, none⟩ = some (.int .i32 a0_8) ∧ w'.cell? ⟨gb159, 9, none⟩ = some (.int .i32 a0_9)) (ds := []) #[false, false, false, false, false, false, false, false, false, false, false] (by kernel_rfl) rfl rfl ⟨(blk_cell BK159.out 0).trans rfl, (blk_cell BK159.out 1).trans rfl, (blk_cell BK159.out 2).trans rfl, (blk_cell BK159.out 3).trans rfl, (blk_cell BK159.out 4).trans rfl, (blk_cell BK159.out 5).trans rfl, (blk_cell BK159.out 6).trans rfl, (blk_cell BK159.out 7).trans rfl, (blk_cell BK159.out 8).trans rfl, (blk_cell BK159.out 9).trans rfl⟩ (fun hHeld => ?_); refine with_tabW billiardlaw08_BoxMatchesReference.tab3 billiardlaw08_BoxMatchesReference.bits3 (fun HT_ HW_ => ?_)
        generalize w12.drew = w18 at BK159 BK160 BK161 BK162 HB hHeld ⊢
        refine take_ (i := 0) (N := some 11) (v := ?_) (a' := ?_) #[true, false, false, false, false, false, false, false, false, false, false] rfl rfl (take_ofW HT_.out HW_.out (by kernel_rfl)) (fun _ _ _ h => h) (Or.inl ⟨by rfl, ?_⟩) hHeld ?_ ?_
        rotate_left
        · rintro w' ⟨s0, s1, s2, s3, s4, s5, s6, s7, s8, s9⟩
          go_simp
          with_reducible rfl
        rotate_left
        · simp only [Act.put, List.setIfInBounds_toArray, List.set_cons_zero, List.set_cons_succ, i64_w, i32_w]
          rfl
        refine one_ (i := 1) (N := some 12) #[true, true, false, false, false, false, false, false, false, false, false] rfl rfl (one_of HT_.out (by kernel_rfl)) (by decide) (fun K hK => ?_)
        refine goes_ Tryd.func8 (by kernel_rfl) rfl #[.agg #[.int .u32 a0_0, .int .i32 a0_1, .int .i32 a0_2, .int .i32 a0_3, .int .i32 a0_4, .int .i32 a0_5, .int .i32 a0_6, .int .i32 a0_7, .int .i32 a0_8, .int .i32 a0_9]] (by rfl) rfl rfl (by (try simp only [List.map_toArray, List.map_cons, List.map_nil]); first | done | rfl | (simp only [List.length_drop, List.length_take]; rfl)) ?_
        with_reducible refine (billiardref05_Check.calls k a0_0 a0_1 a0_2 a0_3 a0_4 a0_5 a0_6 a0_7 a0_8 a0_9 t164 _ A13.out).mono ?_
        rintro e w19 ⟨rfl, hb⟩
        refine ⟨_, rfl, ?_⟩
        have n0_ := Aside0.mk (blk_below (g := gb159) (o := .cells #[.int .u32 a0_0, .int .i32 a0_1, .int .i32 a0_2, .int .i32 a0_3, .int .i32 a0_4, .int .i32 a0_5, .int .i32 a0_6, .int .i32 a0_7, .int .i32 a0_8, .int .i32 a0_9] 26 (0, 0)) (by (with_reducible repeat (first | refine blk_drewN ?_ _ | refine blk_drew ?_ | refine blk_alloc ?_ _)); exact BK159.out) hb)
        have n1_ := Aside0.mk (blk_below (g := gb160) (o := .cells #[.int .i32 a1_0, .int .i32 a1_1, .int .i32 a1_2, .int .i32 a1_3] 28 (0, 0)) (by (with_reducible repeat (first | refine blk_drewN ?_ _ | refine blk_drew ?_ | refine blk_alloc ?_ _)); exact BK160.out) hb)
        have n2_ := Aside0.mk (blk_below (g := gb161) (o := .cells #[.int .i32 a2_0, .int .i32 a2_1, .int .i32 a2_2, .int .i32 a2_3] 28 (0, 0)) (by (with_reducible repeat (first | refine blk_drewN ?_ _ | refine blk_drew ?_ | refine blk_alloc ?_ _)); exact BK161.out) hb)
        have n3_ := Aside0.mk (blk_below (g := gb162) (o := .cells #[.int .i32 a3_0, .int .i32 a3_1] 24 (0, 0)) (by (with_reducible repeat (first | refine blk_drewN ?_ _ | refine blk_drew ?_ | refine blk_alloc ?_ _)); exact BK162.out) hb)
        have n4_ := Aside0.mk (below_step (by repeat (first | (with_reducible first | exact HB.out | apply below_alloc | apply pw_below_drewN | apply below_drew1 | refine below_set ?_ GE159.out | refine below_set ?_ GE160.out | refine below_set ?_ GE161.out | refine below_set ?_ GE162.out) | exact HB.out)) hb)
        clear BK159
        clear BK160
        clear BK161
        clear BK162
        clear HB
        have BK159 := n0_
        have BK160 := n1_
        have BK161 := n2_
        have BK162 := n3_
        have HB := n4_
        clear n0_ n1_ n2_ n3_ n4_
        (try clear hb)
        (try clear hb2)
        (try clear hk)
        (try clear hi)
        refine hK.out _ _ ⟨(blk_cell BK159.out 0).trans rfl, (blk_cell BK159.out 1).trans rfl, (blk_cell BK159.out 2).trans rfl, (blk_cell BK159.out 3).trans rfl, (blk_cell BK159.out 4).trans rfl, (blk_cell BK159.out 5).trans rfl, (blk_cell BK159.out 6).trans rfl, (blk_cell BK159.out 7).trans rfl, (blk_cell BK159.out 8).trans rfl, (blk_cell BK159.out 9).trans rfl⟩ (fun hHeld => ?_)
        clear hK K
        refine norm_ (a' := ?_) ?_ ?_
        rotate_left
        · show Act.put _ (some 12) _ = _
          simp only [Act.put, List.setIfInBounds_toArray, List.set_cons_zero, List.set_cons_succ, i64_w, i32_w]
          rfl
        refine pure_ (i := 2) (N := some 13) (v := ?_) (a' := ?_) #[true, true, true, false, false, false, false, false, false, false, false] rfl rfl (any_of HT_.out (by kernel_rfl)) (fun _ _ _ h => h) (Or.inl ⟨by rfl, ?_⟩) ?_ ?_
        rotate_left
        · intro w'
          go_simp
          with_reducible rfl
        rotate_left
        · simp only [Act.put, List.setIfInBounds_toArray, List.set_cons_zero, List.set_cons_succ, i64_w, i32_w]
          rfl
        refine pure_ (i := 3) (N := some 14) (v := ?_) (a' := ?_) #[true, true, true, true, false, false, false, false, false, false, false] rfl rfl (any_of HT_.out (by kernel_rfl)) (fun _ _ _ h => h) (Or.inl ⟨by rfl, ?_⟩) ?_ ?_
        rotate_left
        · intro w'
          go_simp
          with_reducible rfl
        rotate_left
        · simp only [Act.put, List.setIfInBounds_toArray, List.set_cons_zero, List.set_cons_succ, i64_w, i32_w]
          rfl
        refine take_ (i := 4) (N := some 15) (v := ?_) (a' := ?_) #[true, true, true, true, true, false, false, false, false, false, false] rfl rfl (take_ofW HT_.out HW_.out (by kernel_rfl)) (fun _ _ _ h => h) (Or.inl ⟨by rfl, ?_⟩) hHeld ?_ ?_
        rotate_left
        · rintro w' ⟨s0, s1, s2, s3, s4, s5, s6, s7, s8, s9⟩
          go_simp
          with_reducible rfl
        rotate_left
        · simp only [Act.put, List.setIfInBounds_toArray, List.set_cons_zero, List.set_cons_succ, i64_w, i32_w]
          rfl
        refine take_ (i := 6) (N := some 17) (v := ?_) (a' := ?_) #[true, true, true, true, true, false, true, false, false, false, false] rfl rfl (take_ofW HT_.out HW_.out (by kernel_rfl)) (fun _ _ _ h => h) (Or.inl ⟨by rfl, ?_⟩) hHeld ?_ ?_
        rotate_left
        · rintro w' ⟨s0, s1, s2, s3, s4, s5, s6, s7, s8, s9⟩
          go_simp
          with_reducible rfl
        rotate_left
        · simp only [Act.put, List.setIfInBounds_toArray, List.set_cons_zero, List.set_cons_succ, i64_w, i32_w]
          rfl
        refine one_ (i := 5) (N := some 16) #[true, true, true, true, true, true, true, false, false, false, false] rfl rfl (one_of HT_.out (by kernel_rfl)) (by decide) (fun K hK => ?_)
        refine goes_ Tryd.func9 (by kernel_rfl) rfl #[.agg #[.int .u32 a0_0, .int .i32 a0_1, .int .i32 a0_2, .int .i32 a0_3, .int .i32 a0_4, .int .i32 a0_5, .int .i32 a0_6, .int .i32 a0_7, .int .i32 a0_8, .int .i32 a0_9]] (by rfl) rfl rfl (by (try simp only [List.map_toArray, List.map_cons, List.map_nil]); first | done | rfl | (simp only [List.length_drop, List.length_take]; rfl)) ?_
        with_reducible refine (box_Of.calls a0_0 a0_1 a0_2 a0_3 a0_4 a0_5 a0_6 a0_7 a0_8 a0_9 t165 t166 t167 t168 _ A15.out).mono ?_
        rintro e w20 ⟨rfl, hb⟩
        refine ⟨_, rfl, ?_⟩
        have n0_ := Aside0.mk (blk_below (g := gb159) (o := .cells #[.int .u32 a0_0, .int .i32 a0_1, .int .i32 a0_2, .int .i32 a0_3, .int .i32 a0_4, .int .i32 a0_5, .int .i32 a0_6, .int .i32 a0_7, .int .i32 a0_8, .int .i32 a0_9] 26 (0, 0)) (by (with_reducible repeat (first | refine blk_drewN ?_ _ | refine blk_drew ?_ | refine blk_alloc ?_ _)); exact BK159.out) hb)
        have n1_ := Aside0.mk (blk_below (g := gb160) (o := .cells #[.int .i32 a1_0, .int .i32 a1_1, .int .i32 a1_2, .int .i32 a1_3] 28 (0, 0)) (by (with_reducible repeat (first | refine blk_drewN ?_ _ | refine blk_drew ?_ | refine blk_alloc ?_ _)); exact BK160.out) hb)
        have n2_ := Aside0.mk (blk_below (g := gb161) (o := .cells #[.int .i32 a2_0, .int .i32 a2_1, .int .i32 a2_2, .int .i32 a2_3] 28 (0, 0)) (by (with_reducible repeat (first | refine blk_drewN ?_ _ | refine blk_drew ?_ | refine blk_alloc ?_ _)); exact BK161.out) hb)
        have n3_ := Aside0.mk (blk_below (g := gb162) (o := .cells #[.int .i32 a3_0, .int .i32 a3_1] 24 (0, 0)) (by (with_reducible repeat (first | refine blk_drewN ?_ _ | refine blk_drew ?_ | refine blk_alloc ?_ _)); exact BK162.out) hb)
        have n4_ := Aside0.mk (below_step (by repeat (first | (with_reducible first | exact HB.out | apply below_alloc | apply pw_below_drewN | apply below_drew1 | refine below_set ?_ GE159.out | refine below_set ?_ GE160.out | refine below_set ?_ GE161.out | refine below_set ?_ GE162.out) | exact HB.out)) hb)
        clear BK159
        clear BK160
        clear BK161
        clear BK162
        clear HB
        have BK159 := n0_
        have BK160 := n1_
        have BK161 := n2_
        have BK162 := n3_
        have HB := n4_
        clear n0_ n1_ n2_ n3_ n4_
        (try clear hb)
        (try clear hb2)
        (try clear hk)
        (try clear hi)
        refine hK.out _ _ ⟨(blk_cell BK159.out 0).trans rfl, (blk_cell BK159.out 1).trans rfl, (blk_cell BK159.out 2).trans rfl, (blk_cell BK159.out 3).trans rfl, (blk_cell BK159.out 4).trans rfl, (blk_cell BK159.out 5).trans rfl, (blk_cell BK159.out 6).trans rfl, (blk_cell BK159.out 7).trans rfl, (blk_cell BK159.out 8).trans rfl, (blk_cell BK159.out 9).trans rfl⟩ (fun hHeld => ?_)
        clear hK K
        refine norm_ (a' := ?_) ?_ ?_
        rotate_left
        · show Act.put _ (some 16) _ = _
          simp only [Act.put, List.setIfInBounds_toArray, List.set_cons_zero, List.set_cons_succ, i64_w, i32_w]
          rfl
        refine one_ (i := 7) (N := some 18) #[true, true, true, true, true, true, true, true, false, false, false] rfl rfl (one_of HT_.out (by kernel_rfl)) (by decide) (fun K hK => ?_)
        refine goes_ Tryd.func11 (by kernel_rfl) rfl #[.agg #[.int .u32 a0_0, .int .i32 a0_1, .int .i32 a0_2, .int .i32 a0_3, .int .i32 a0_4, .int .i32 a0_5, .int .i32 a0_6, .int .i32 a0_7, .int .i32 a0_8, .int .i32 a0_9]] (by rfl) rfl rfl (by (try simp only [List.map_toArray, List.map_cons, List.map_nil]); first | done | rfl | (simp only [List.length_drop, List.length_take]; rfl)) ?_
        with_reducible refine (billiardref08_Of.calls a0_0 a0_1 a0_2 a0_3 a0_4 a0_5 a0_6 a0_7 a0_8 a0_9 t169 t170 t171 t172 _ A16.out).mono ?_
        rintro e w21 ⟨rfl, hb⟩
        refine ⟨_, rfl, ?_⟩
        have n0_ := Aside0.mk (blk_below (g := gb159) (o := .cells #[.int .u32 a0_0, .int .i32 a0_1, .int .i32 a0_2, .int .i32 a0_3, .int .i32 a0_4, .int .i32 a0_5, .int .i32 a0_6, .int .i32 a0_7, .int .i32 a0_8, .int .i32 a0_9] 26 (0, 0)) (by (with_reducible repeat (first | refine blk_drewN ?_ _ | refine blk_drew ?_ | refine blk_alloc ?_ _)); exact BK159.out) hb)
        have n1_ := Aside0.mk (blk_below (g := gb160) (o := .cells #[.int .i32 a1_0, .int .i32 a1_1, .int .i32 a1_2, .int .i32 a1_3] 28 (0, 0)) (by (with_reducible repeat (first | refine blk_drewN ?_ _ | refine blk_drew ?_ | refine blk_alloc ?_ _)); exact BK160.out) hb)
        have n2_ := Aside0.mk (blk_below (g := gb161) (o := .cells #[.int .i32 a2_0, .int .i32 a2_1, .int .i32 a2_2, .int .i32 a2_3] 28 (0, 0)) (by (with_reducible repeat (first | refine blk_drewN ?_ _ | refine blk_drew ?_ | refine blk_alloc ?_ _)); exact BK161.out) hb)
        have n3_ := Aside0.mk (blk_below (g := gb162) (o := .cells #[.int .i32 a3_0, .int .i32 a3_1] 24 (0, 0)) (by (with_reducible repeat (first | refine blk_drewN ?_ _ | refine blk_drew ?_ | refine blk_alloc ?_ _)); exact BK162.out) hb)
        have n4_ := Aside0.mk (below_step (by repeat (first | (with_reducible first | exact HB.out | apply below_alloc | apply pw_below_drewN | apply below_drew1 | refine below_set ?_ GE159.out | refine below_set ?_ GE160.out | refine below_set ?_ GE161.out | refine below_set ?_ GE162.out) | exact HB.out)) hb)
        clear BK159
        clear BK160
        clear BK161
        clear BK162
        clear HB
        have BK159 := n0_
        have BK160 := n1_
        have BK161 := n2_
        have BK162 := n3_
        have HB := n4_
        clear n0_ n1_ n2_ n3_ n4_
        (try clear hb)
        (try clear hb2)
        (try clear hk)
        (try clear hi)
        refine hK.out _ _ ⟨(blk_cell BK159.out 0).trans rfl, (blk_cell BK159.out 1).trans rfl, (blk_cell BK159.out 2).trans rfl, (blk_cell BK159.out 3).trans rfl, (blk_cell BK159.out 4).trans rfl, (blk_cell BK159.out 5).trans rfl, (blk_cell BK159.out 6).trans rfl, (blk_cell BK159.out 7).trans rfl, (blk_cell BK159.out 8).trans rfl, (blk_cell BK159.out 9).trans rfl⟩ (fun hHeld => ?_)
        clear hK K
        refine norm_ (a' := ?_) ?_ ?_
        rotate_left
        · show Act.put _ (some 18) _ = _
          simp only [Act.put, List.setIfInBounds_toArray, List.set_cons_zero, List.set_cons_succ, i64_w, i32_w]
          rfl
        refine one_ (i := 8) (N := some 19) #[true, true, true, true, true, true, true, true, true, false, false] rfl rfl (one_of HT_.out (by kernel_rfl)) (by decide) (fun K hK => ?_)
        refine goes_ Tryd.func10 (by kernel_rfl) rfl #[.agg #[.int .i32 t169, .int .i32 t170, .int .i32 t171, .int .i32 t172]] (by rfl) rfl rfl (by (try simp only [List.map_toArray, List.map_cons, List.map_nil]); first | done | rfl | (simp only [List.length_drop, List.length_take]; rfl)) ?_
        with_reducible refine (billiardlaw08_forward.calls t169 t170 t171 t172 t173 t174 t175 t176 _ A17.out).mono ?_
        rintro e w22 ⟨rfl, hb⟩
        refine ⟨_, rfl, ?_⟩
        have n0_ := Aside0.mk (blk_below (g := gb159) (o := .cells #[.int .u32 a0_0, .int .i32 a0_1, .int .i32 a0_2, .int .i32 a0_3, .int .i32 a0_4, .int .i32 a0_5, .int .i32 a0_6, .int .i32 a0_7, .int .i32 a0_8, .int .i32 a0_9] 26 (0, 0)) (by (with_reducible repeat (first | refine blk_drewN ?_ _ | refine blk_drew ?_ | refine blk_alloc ?_ _)); exact BK159.out) hb)
        have n1_ := Aside0.mk (blk_below (g := gb160) (o := .cells #[.int .i32 a1_0, .int .i32 a1_1, .int .i32 a1_2, .int .i32 a1_3] 28 (0, 0)) (by (with_reducible repeat (first | refine blk_drewN ?_ _ | refine blk_drew ?_ | refine blk_alloc ?_ _)); exact BK160.out) hb)
        have n2_ := Aside0.mk (blk_below (g := gb161) (o := .cells #[.int .i32 a2_0, .int .i32 a2_1, .int .i32 a2_2, .int .i32 a2_3] 28 (0, 0)) (by (with_reducible repeat (first | refine blk_drewN ?_ _ | refine blk_drew ?_ | refine blk_alloc ?_ _)); exact BK161.out) hb)
        have n3_ := Aside0.mk (blk_below (g := gb162) (o := .cells #[.int .i32 a3_0, .int .i32 a3_1] 24 (0, 0)) (by (with_reducible repeat (first | refine blk_drewN ?_ _ | refine blk_drew ?_ | refine blk_alloc ?_ _)); exact BK162.out) hb)
        have n4_ := Aside0.mk (below_step (by repeat (first | (with_reducible first | exact HB.out | apply below_alloc | apply pw_below_drewN | apply below_drew1 | refine below_set ?_ GE159.out | refine below_set ?_ GE160.out | refine below_set ?_ GE161.out | refine below_set ?_ GE162.out) | exact HB.out)) hb)
        clear BK159
        clear BK160
        clear BK161
        clear BK162
        clear HB
        have BK159 := n0_
        have BK160 := n1_
        have BK161 := n2_
        have BK162 := n3_
        have HB := n4_
        clear n0_ n1_ n2_ n3_ n4_
        (try clear hb)
        (try clear hb2)
        (try clear hk)
        (try clear hi)
        refine hK.out _ _ ⟨(blk_cell BK159.out 0).trans rfl, (blk_cell BK159.out 1).trans rfl, (blk_cell BK159.out 2).trans rfl, (blk_cell BK159.out 3).trans rfl, (blk_cell BK159.out 4).trans rfl, (blk_cell BK159.out 5).trans rfl, (blk_cell BK159.out 6).trans rfl, (blk_cell BK159.out 7).trans rfl, (blk_cell BK159.out 8).trans rfl, (blk_cell BK159.out 9).trans rfl⟩ (fun hHeld => ?_)
        clear hK K
        refine norm_ (a' := ?_) ?_ ?_
        rotate_left
        · show Act.put _ (some 19) _ = _
          simp only [Act.put, List.setIfInBounds_toArray, List.set_cons_zero, List.set_cons_succ, i64_w, i32_w]
          rfl
        refine pure_ (i := 9) (N := some 20) (v := ?_) (a' := ?_) #[true, true, true, true, true, true, true, true, true, true, false] rfl rfl (any_of HT_.out (by kernel_rfl)) (fun _ _ _ h => h) (Or.inl ⟨by rfl, ?_⟩) ?_ ?_
        rotate_left
        · intro w'
          go_simp
          with_reducible rfl
        rotate_left
        · simp only [Act.put, List.setIfInBounds_toArray, List.set_cons_zero, List.set_cons_succ, i64_w, i32_w]
          rfl
        refine pure_ (i := 10) (N := some 21) (v := ?_) (a' := ?_) #[true, true, true, true, true, true, true, true, true, true, true] rfl rfl (any_of HT_.out (by kernel_rfl)) (fun _ _ _ h => h) (Or.inl ⟨by rfl, ?_⟩) ?_ ?_
        rotate_left
        · intro w'
          go_simp
          with_reducible rfl
        rotate_left
        · simp only [Act.put, List.setIfInBounds_toArray, List.set_cons_zero, List.set_cons_succ, i64_w, i32_w]
          rfl
        refine done_ (done_of HT_.out (by kernel_rfl)) ?_
        try go_wp2
        go_meet
        case rel => exact ⟨_, ((!(t165 == t173) || (!(t166 == t174) || (!(t167 == t175) || (!(t168 == t176)))))), (by first | rfl | (simp; done) | (simp [*]; done)), H', ⟨by first | omega | exact Nat.le_refl _⟩, ⟨by (with_reducible repeat (first | refine blk_drewN ?_ _ | refine blk_drew ?_ | refine blk_alloc ?_ _)); exact BK159.out⟩, ⟨by (with_reducible repeat (first | refine blk_drewN ?_ _ | refine blk_drew ?_ | refine blk_alloc ?_ _)); exact BK160.out⟩, ⟨by (with_reducible repeat (first | refine blk_drewN ?_ _ | refine blk_drew ?_ | refine blk_alloc ?_ _)); exact BK161.out⟩, ⟨by (with_reducible repeat (first | refine blk_drewN ?_ _ | refine blk_drew ?_ | refine blk_alloc ?_ _)); exact BK162.out⟩, ⟨by repeat (first | (with_reducible first | exact HB.out | apply below_alloc | apply pw_below_drewN | apply below_drew1 | refine below_set ?_ GE159.out | refine below_set ?_ GE160.out | refine below_set ?_ GE161.out | refine below_set ?_ GE162.out) | exact HB.out)⟩⟩
      · rw [if_neg c14] at H
        have c14b0 : (t164 == 0) = false := beq_eq_false_iff_ne.mpr c14
        have c14b1 : (t164 != 0) = true := bne_iff_ne.mpr c14
        (first | rw [c14b0] | (simp only [i64_w, i32_w]; rw [c14b0]) | skip)
        have H' := Aside0.mk H
        clear H
        try go_wp2
        have n0_ := Aside0.mk (blk_drew BK159.out)
        have n1_ := Aside0.mk (blk_drew BK160.out)
        have n2_ := Aside0.mk (blk_drew BK161.out)
        have n3_ := Aside0.mk (blk_drew BK162.out)
        have n4_ := Aside0.mk (below_drew1 HB.out)
        clear BK159
        clear BK160
        clear BK161
        clear BK162
        clear HB
        have BK159 := n0_
        have BK160 := n1_
        have BK161 := n2_
        have BK162 := n3_
        have HB := n4_
        clear n0_ n1_ n2_ n3_ n4_
        refine start_ (n := 11) (S := fun w' => w'.cell? ⟨gb159, 0, none⟩ = some (.int .u32 a0_0) ∧ w'.cell? ⟨gb159, 1, none⟩ = some (.int .i32 a0_1) ∧ w'.cell? ⟨gb159, 2, none⟩ = some (.int .i32 a0_2) ∧ w'.cell? ⟨gb159, 3, none⟩ = some (.int .i32 a0_3) ∧ w'.cell? ⟨gb159, 4, none⟩ = some (.int .i32 a0_4) ∧ w'.cell? ⟨gb159, 5, none⟩ = some (.int .i32 a0_5) ∧ w'.cell? ⟨gb159, 6, none⟩ = some (.int .i32 a0_6) ∧ w'.cell? ⟨gb159, 7, none⟩ = some (.int .i32 a0_7) ∧ w'.cell? ⟨gb159, 8, none⟩ = some (.int .i32 a0_8) ∧ w'.cell? ⟨gb159, 9, none⟩ = some (.int .i32 a0_9)) (ds := []) #[false, false, false, false, false, false, false, false, false, false, false] (by kernel_rfl) rfl rfl ⟨(blk_cell BK159.out 0).trans rfl, (blk_cell BK159.out 1).trans rfl, (blk_cell BK159.out 2).trans rfl, (blk_cell BK159.out 3).trans rfl, (blk_cell BK159.out 4).trans rfl, (blk_cell BK159.out 5).trans rfl, (blk_cell BK159.out 6).trans rfl, (blk_cell BK159.out 7).trans rfl, (blk_cell BK159.out 8).trans rfl, (blk_cell BK159.out 9).trans rfl⟩ (fun hHeld => ?_); refine with_tabW billiardlaw08_BoxMatchesReference.tab3 billiardlaw08_BoxMatchesReference.bits3 (fun HT_ HW_ => ?_)
        generalize w12.drew = w23 at BK159 BK160 BK161 BK162 HB hHeld ⊢
        refine take_ (i := 0) (N := some 11) (v := ?_) (a' := ?_) #[true, false, false, false, false, false, false, false, false, false, false] rfl rfl (take_ofW HT_.out HW_.out (by kernel_rfl)) (fun _ _ _ h => h) (Or.inl ⟨by rfl, ?_⟩) hHeld ?_ ?_
        rotate_left
        · rintro w' ⟨s0, s1, s2, s3, s4, s5, s6, s7, s8, s9⟩
          go_simp
          with_reducible rfl
        rotate_left
        · simp only [Act.put, List.setIfInBounds_toArray, List.set_cons_zero, List.set_cons_succ, i64_w, i32_w]
          rfl
        refine one_ (i := 1) (N := some 12) #[true, true, false, false, false, false, false, false, false, false, false] rfl rfl (one_of HT_.out (by kernel_rfl)) (by decide) (fun K hK => ?_)
        refine goes_ Tryd.func8 (by kernel_rfl) rfl #[.agg #[.int .u32 a0_0, .int .i32 a0_1, .int .i32 a0_2, .int .i32 a0_3, .int .i32 a0_4, .int .i32 a0_5, .int .i32 a0_6, .int .i32 a0_7, .int .i32 a0_8, .int .i32 a0_9]] (by rfl) rfl rfl (by (try simp only [List.map_toArray, List.map_cons, List.map_nil]); first | done | rfl | (simp only [List.length_drop, List.length_take]; rfl)) ?_
        with_reducible refine (billiardref05_Check.calls k a0_0 a0_1 a0_2 a0_3 a0_4 a0_5 a0_6 a0_7 a0_8 a0_9 t164 _ A13.out).mono ?_
        rintro e w24 ⟨rfl, hb⟩
        refine ⟨_, rfl, ?_⟩
        have n0_ := Aside0.mk (blk_below (g := gb159) (o := .cells #[.int .u32 a0_0, .int .i32 a0_1, .int .i32 a0_2, .int .i32 a0_3, .int .i32 a0_4, .int .i32 a0_5, .int .i32 a0_6, .int .i32 a0_7, .int .i32 a0_8, .int .i32 a0_9] 26 (0, 0)) (by (with_reducible repeat (first | refine blk_drewN ?_ _ | refine blk_drew ?_ | refine blk_alloc ?_ _)); exact BK159.out) hb)
        have n1_ := Aside0.mk (blk_below (g := gb160) (o := .cells #[.int .i32 a1_0, .int .i32 a1_1, .int .i32 a1_2, .int .i32 a1_3] 28 (0, 0)) (by (with_reducible repeat (first | refine blk_drewN ?_ _ | refine blk_drew ?_ | refine blk_alloc ?_ _)); exact BK160.out) hb)
        have n2_ := Aside0.mk (blk_below (g := gb161) (o := .cells #[.int .i32 a2_0, .int .i32 a2_1, .int .i32 a2_2, .int .i32 a2_3] 28 (0, 0)) (by (with_reducible repeat (first | refine blk_drewN ?_ _ | refine blk_drew ?_ | refine blk_alloc ?_ _)); exact BK161.out) hb)
        have n3_ := Aside0.mk (blk_below (g := gb162) (o := .cells #[.int .i32 a3_0, .int .i32 a3_1] 24 (0, 0)) (by (with_reducible repeat (first | refine blk_drewN ?_ _ | refine blk_drew ?_ | refine blk_alloc ?_ _)); exact BK162.out) hb)
        have n4_ := Aside0.mk (below_step (by repeat (first | (with_reducible first | exact HB.out | apply below_alloc | apply pw_below_drewN | apply below_drew1 | refine below_set ?_ GE159.out | refine below_set ?_ GE160.out | refine below_set ?_ GE161.out | refine below_set ?_ GE162.out) | exact HB.out)) hb)
        clear BK159
        clear BK160
        clear BK161
        clear BK162
        clear HB
        have BK159 := n0_
        have BK160 := n1_
        have BK161 := n2_
        have BK162 := n3_
        have HB := n4_
        clear n0_ n1_ n2_ n3_ n4_
        (try clear hb)
        (try clear hb2)
        (try clear hk)
        (try clear hi)
        refine hK.out _ _ ⟨(blk_cell BK159.out 0).trans rfl, (blk_cell BK159.out 1).trans rfl, (blk_cell BK159.out 2).trans rfl, (blk_cell BK159.out 3).trans rfl, (blk_cell BK159.out 4).trans rfl, (blk_cell BK159.out 5).trans rfl, (blk_cell BK159.out 6).trans rfl, (blk_cell BK159.out 7).trans rfl, (blk_cell BK159.out 8).trans rfl, (blk_cell BK159.out 9).trans rfl⟩ (fun hHeld => ?_)
        clear hK K
        refine norm_ (a' := ?_) ?_ ?_
        rotate_left
        · show Act.put _ (some 12) _ = _
          simp only [Act.put, List.setIfInBounds_toArray, List.set_cons_zero, List.set_cons_succ, i64_w, i32_w]
          rfl
        refine pure_ (i := 2) (N := some 13) (v := ?_) (a' := ?_) #[true, true, true, false, false, false, false, false, false, false, false] rfl rfl (any_of HT_.out (by kernel_rfl)) (fun _ _ _ h => h) (Or.inl ⟨by rfl, ?_⟩) ?_ ?_
        rotate_left
        · intro w'
          go_simp
          with_reducible rfl
        rotate_left
        · simp only [Act.put, List.setIfInBounds_toArray, List.set_cons_zero, List.set_cons_succ, i64_w, i32_w]
          rfl
        refine pure_ (i := 3) (N := some 14) (v := ?_) (a' := ?_) #[true, true, true, true, false, false, false, false, false, false, false] rfl rfl (any_of HT_.out (by kernel_rfl)) (fun _ _ _ h => h) (Or.inl ⟨by rfl, ?_⟩) ?_ ?_
        rotate_left
        · intro w'
          go_simp
          with_reducible rfl
        rotate_left
        · simp only [Act.put, List.setIfInBounds_toArray, List.set_cons_zero, List.set_cons_succ, i64_w, i32_w]
          rfl
        refine pure_ (i := 4) (N := some 15) (v := undef) (a' := ?_) #[true, true, true, true, true, false, false, false, false, false, false] rfl rfl (any_of HT_.out (by kernel_rfl)) (fun _ _ _ h => h) (Or.inr ⟨by rfl, rfl⟩) ?_ ?_
        rotate_left
        · simp only [Act.put, List.setIfInBounds_toArray, List.set_cons_zero, List.set_cons_succ, i64_w, i32_w]
          rfl
        refine pure_ (i := 5) (N := some 16) (v := undef) (a' := ?_) #[true, true, true, true, true, true, false, false, false, false, false] rfl rfl (any_of HT_.out (by kernel_rfl)) (fun _ _ _ h => h) (Or.inr ⟨by rfl, rfl⟩) ?_ ?_
        rotate_left
        · simp only [Act.put, List.setIfInBounds_toArray, List.set_cons_zero, List.set_cons_succ, i64_w, i32_w]
          rfl
        refine pure_ (i := 6) (N := some 17) (v := undef) (a' := ?_) #[true, true, true, true, true, true, true, false, false, false, false] rfl rfl (any_of HT_.out (by kernel_rfl)) (fun _ _ _ h => h) (Or.inr ⟨by rfl, rfl⟩) ?_ ?_
        rotate_left
        · simp only [Act.put, List.setIfInBounds_toArray, List.set_cons_zero, List.set_cons_succ, i64_w, i32_w]
          rfl
        refine pure_ (i := 7) (N := some 18) (v := undef) (a' := ?_) #[true, true, true, true, true, true, true, true, false, false, false] rfl rfl (any_of HT_.out (by kernel_rfl)) (fun _ _ _ h => h) (Or.inr ⟨by rfl, rfl⟩) ?_ ?_
        rotate_left
        · simp only [Act.put, List.setIfInBounds_toArray, List.set_cons_zero, List.set_cons_succ, i64_w, i32_w]
          rfl
        refine pure_ (i := 8) (N := some 19) (v := undef) (a' := ?_) #[true, true, true, true, true, true, true, true, true, false, false] rfl rfl (any_of HT_.out (by kernel_rfl)) (fun _ _ _ h => h) (Or.inr ⟨by rfl, rfl⟩) ?_ ?_
        rotate_left
        · simp only [Act.put, List.setIfInBounds_toArray, List.set_cons_zero, List.set_cons_succ, i64_w, i32_w]
          rfl
        refine pure_ (i := 9) (N := some 20) (v := undef) (a' := ?_) #[true, true, true, true, true, true, true, true, true, true, false] rfl rfl (any_of HT_.out (by kernel_rfl)) (fun _ _ _ h => h) (Or.inr ⟨by rfl, rfl⟩) ?_ ?_
        rotate_left
        · simp only [Act.put, List.setIfInBounds_toArray, List.set_cons_zero, List.set_cons_succ, i64_w, i32_w]
          rfl
        refine pure_ (i := 10) (N := some 21) (v := ?_) (a' := ?_) #[true, true, true, true, true, true, true, true, true, true, true] rfl rfl (any_of HT_.out (by kernel_rfl)) (fun _ _ _ h => h) (Or.inl ⟨by rfl, ?_⟩) ?_ ?_
        rotate_left
        · intro w'
          go_simp
          with_reducible rfl
        rotate_left
        · simp only [Act.put, List.setIfInBounds_toArray, List.set_cons_zero, List.set_cons_succ, i64_w, i32_w]
          rfl
        refine done_ (done_of HT_.out (by kernel_rfl)) ?_
        try go_wp2
        go_meet
        case rel => exact ⟨_, (false), (by first | rfl | (simp; done) | (simp [*]; done)), H', ⟨by first | omega | exact Nat.le_refl _⟩, ⟨by (with_reducible repeat (first | refine blk_drewN ?_ _ | refine blk_drew ?_ | refine blk_alloc ?_ _)); exact BK159.out⟩, ⟨by (with_reducible repeat (first | refine blk_drewN ?_ _ | refine blk_drew ?_ | refine blk_alloc ?_ _)); exact BK160.out⟩, ⟨by (with_reducible repeat (first | refine blk_drewN ?_ _ | refine blk_drew ?_ | refine blk_alloc ?_ _)); exact BK161.out⟩, ⟨by (with_reducible repeat (first | refine blk_drewN ?_ _ | refine blk_drew ?_ | refine blk_alloc ?_ _)); exact BK162.out⟩, ⟨by repeat (first | (with_reducible first | exact HB.out | apply below_alloc | apply pw_below_drewN | apply below_drew1 | refine below_set ?_ GE159.out | refine below_set ?_ GE160.out | refine below_set ?_ GE161.out | refine below_set ?_ GE162.out) | exact HB.out)⟩⟩
    case rest =>
      clear HC7
      try clear c1
      try clear p2
      try clear c3
      try clear c6
      try clear c7
      try clear c8
      try clear c9
      try clear c10
      try clear c11
      try clear c14
      try clear c14b0
      try clear c14b1
      obtain ⟨kq, x21_6, rfl, HA, HJ6, BK159, BK160, BK161, BK162, HB⟩ := hcut
      cases kq with
      | zero => exact absurd HA.out (by simp [billiardlaw08_BoxMatchesReference.j0])
      | succ kj6 =>
        have H := HA.out
        clear HA
        simp only [billiardlaw08_BoxMatchesReference.j0] at H
        by_cases c25 : x21_6 = true
        · subst c25
          have H1 : (some false) = some r := by rw [if_pos rfl] at H; exact H
          clear H
          have H := H1
          clear H1
          exact absurd ((Option.some.inj H).trans HR.out) (by decide)
        · replace c25 := Bool.eq_false_iff.mpr c25
          subst c25
          have H1 : ((billiardlaw08_forward.f a1_0 a1_1 a1_2 a1_3).bind fun bt177 => ((box_Empty.f bt177.1 bt177.2.1 bt177.2.2.1 bt177.2.2.2).bind fun t181 => ((billiardref08_Empty.f a1_0 a1_1 a1_2 a1_3).bind fun t182 => (if (t181 == t182) = true then ((billiardlaw08_forward.f a1_0 a1_1 a1_2 a1_3).bind fun bt183 => ((billiardlaw08_forward.f a2_0 a2_1 a2_2 a2_3).bind fun bt187 => ((box_Overlap.f bt183.1 bt183.2.1 bt183.2.2.1 bt183.2.2.2 bt187.1 bt187.2.1 bt187.2.2.1 bt187.2.2.2).bind fun t191 => ((billiardref08_Overlap.f a1_0 a1_1 a1_2 a1_3 a2_0 a2_1 a2_2 a2_3).bind fun t192 => (if (t191 == t192) = true then ((billiardlaw08_forward.f a1_0 a1_1 a1_2 a1_3).bind fun bt193 => ((box_Contains.f bt193.1 bt193.2.1 bt193.2.2.1 bt193.2.2.2 a3_0 a3_1).bind fun t197 => ((billiardref08_Contains.f a1_0 a1_1 a1_2 a1_3 a3_0 a3_1).bind fun t198 => (some (t197 == t198))))) else (some false)))))) else (some false))))) = some r := by rw [if_neg (show ¬ (false = true) by decide)] at H; exact H
          clear H
          have H := H1
          clear H1
          replace H := Option.bind_eq_some_iff.mp H
          obtain ⟨⟨t177, t178, t179, t180⟩, A260, H⟩ := H
          replace H : ((box_Empty.f t177 t178 t179 t180).bind fun t181 => ((billiardref08_Empty.f a1_0 a1_1 a1_2 a1_3).bind fun t182 => (if (t181 == t182) = true then ((billiardlaw08_forward.f a1_0 a1_1 a1_2 a1_3).bind fun bt183 => ((billiardlaw08_forward.f a2_0 a2_1 a2_2 a2_3).bind fun bt187 => ((box_Overlap.f bt183.1 bt183.2.1 bt183.2.2.1 bt183.2.2.2 bt187.1 bt187.2.1 bt187.2.2.1 bt187.2.2.2).bind fun t191 => ((billiardref08_Overlap.f a1_0 a1_1 a1_2 a1_3 a2_0 a2_1 a2_2 a2_3).bind fun t192 => (if (t191 == t192) = true then ((billiardlaw08_forward.f a1_0 a1_1 a1_2 a1_3).bind fun bt193 => ((box_Contains.f bt193.1 bt193.2.1 bt193.2.2.1 bt193.2.2.2 a3_0 a3_1).bind fun t197 => ((billiardref08_Contains.f a1_0 a1_1 a1_2 a1_3 a3_0 a3_1).bind fun t198 => (some (t197 == t198))))) else (some false)))))) else (some false)))) = some r := H
          have A26 := Aside0.mk A260
          clear A260
          replace H := Option.bind_eq_some_iff.mp H
          obtain ⟨t181, A270, H⟩ := H
          replace H : ((billiardref08_Empty.f a1_0 a1_1 a1_2 a1_3).bind fun t182 => (if (t181 == t182) = true then ((billiardlaw08_forward.f a1_0 a1_1 a1_2 a1_3).bind fun bt183 => ((billiardlaw08_forward.f a2_0 a2_1 a2_2 a2_3).bind fun bt187 => ((box_Overlap.f bt183.1 bt183.2.1 bt183.2.2.1 bt183.2.2.2 bt187.1 bt187.2.1 bt187.2.2.1 bt187.2.2.2).bind fun t191 => ((billiardref08_Overlap.f a1_0 a1_1 a1_2 a1_3 a2_0 a2_1 a2_2 a2_3).bind fun t192 => (if (t191 == t192) = true then ((billiardlaw08_forward.f a1_0 a1_1 a1_2 a1_3).bind fun bt193 => ((box_Contains.f bt193.1 bt193.2.1 bt193.2.2.1 bt193.2.2.2 a3_0 a3_1).bind fun t197 => ((billiardref08_Contains.f a1_0 a1_1 a1_2 a1_3 a3_0 a3_1).bind fun t198 => (some (t197 == t198))))) else (some false)))))) else (some false))) = some r := H
          have A27 := Aside0.mk A270
          clear A270
          replace H := Option.bind_eq_some_iff.mp H
          obtain ⟨t182, A280, H⟩ := H
          replace H : (if (t181 == t182) = true then ((billiardlaw08_forward.f a1_0 a1_1 a1_2 a1_3).bind fun bt183 => ((billiardlaw08_forward.f a2_0 a2_1 a2_2 a2_3).bind fun bt187 => ((box_Overlap.f bt183.1 bt183.2.1 bt183.2.2.1 bt183.2.2.2 bt187.1 bt187.2.1 bt187.2.2.1 bt187.2.2.2).bind fun t191 => ((billiardref08_Overlap.f a1_0 a1_1 a1_2 a1_3 a2_0 a2_1 a2_2 a2_3).bind fun t192 => (if (t191 == t192) = true then ((billiardlaw08_forward.f a1_0 a1_1 a1_2 a1_3).bind fun bt193 => ((box_Contains.f bt193.1 bt193.2.1 bt193.2.2.1 bt193.2.2.2 a3_0 a3_1).bind fun t197 => ((billiardref08_Contains.f a1_0 a1_1 a1_2 a1_3 a3_0 a3_1).bind fun t198 => (some (t197 == t198))))) else (some false)))))) else (some false)) = some r := H
          have A28 := Aside0.mk A280
          clear A280
          by_cases c29 : (t181 == t182) = true
          · rw [if_pos c29] at H
            have c29b0 : (t181 == t182) = true := c29
            (try (have c29b1 : decide (t181 = t182) = true := by simpa using c29))
            (try (have c29b2 : (t181 == t182) = true := by simpa using c29))
            clear c29
            replace H := Option.bind_eq_some_iff.mp H
            obtain ⟨⟨t183, t184, t185, t186⟩, A300, H⟩ := H
            replace H : ((billiardlaw08_forward.f a2_0 a2_1 a2_2 a2_3).bind fun bt187 => ((box_Overlap.f t183 t184 t185 t186 bt187.1 bt187.2.1 bt187.2.2.1 bt187.2.2.2).bind fun t191 => ((billiardref08_Overlap.f a1_0 a1_1 a1_2 a1_3 a2_0 a2_1 a2_2 a2_3).bind fun t192 => (if (t191 == t192) = true then ((billiardlaw08_forward.f a1_0 a1_1 a1_2 a1_3).bind fun bt193 => ((box_Contains.f bt193.1 bt193.2.1 bt193.2.2.1 bt193.2.2.2 a3_0 a3_1).bind fun t197 => ((billiardref08_Contains.f a1_0 a1_1 a1_2 a1_3 a3_0 a3_1).bind fun t198 => (some (t197 == t198))))) else (some false))))) = some r := H
            have A30 := Aside0.mk A300
            clear A300
            replace H := Option.bind_eq_some_iff.mp H
            obtain ⟨⟨t187, t188, t189, t190⟩, A310, H⟩ := H
            replace H : ((box_Overlap.f t183 t184 t185 t186 t187 t188 t189 t190).bind fun t191 => ((billiardref08_Overlap.f a1_0 a1_1 a1_2 a1_3 a2_0 a2_1 a2_2 a2_3).bind fun t192 => (if (t191 == t192) = true then ((billiardlaw08_forward.f a1_0 a1_1 a1_2 a1_3).bind fun bt193 => ((box_Contains.f bt193.1 bt193.2.1 bt193.2.2.1 bt193.2.2.2 a3_0 a3_1).bind fun t197 => ((billiardref08_Contains.f a1_0 a1_1 a1_2 a1_3 a3_0 a3_1).bind fun t198 => (some (t197 == t198))))) else (some false)))) = some r := H
            have A31 := Aside0.mk A310
            clear A310
            replace H := Option.bind_eq_some_iff.mp H
            obtain ⟨t191, A320, H⟩ := H
            replace H : ((billiardref08_Overlap.f a1_0 a1_1 a1_2 a1_3 a2_0 a2_1 a2_2 a2_3).bind fun t192 => (if (t191 == t192) = true then ((billiardlaw08_forward.f a1_0 a1_1 a1_2 a1_3).bind fun bt193 => ((box_Contains.f bt193.1 bt193.2.1 bt193.2.2.1 bt193.2.2.2 a3_0 a3_1).bind fun t197 => ((billiardref08_Contains.f a1_0 a1_1 a1_2 a1_3 a3_0 a3_1).bind fun t198 => (some (t197 == t198))))) else (some false))) = some r := H
            have A32 := Aside0.mk A320
            clear A320
            replace H := Option.bind_eq_some_iff.mp H
            obtain ⟨t192, A330, H⟩ := H
            replace H : (if (t191 == t192) = true then ((billiardlaw08_forward.f a1_0 a1_1 a1_2 a1_3).bind fun bt193 => ((box_Contains.f bt193.1 bt193.2.1 bt193.2.2.1 bt193.2.2.2 a3_0 a3_1).bind fun t197 => ((billiardref08_Contains.f a1_0 a1_1 a1_2 a1_3 a3_0 a3_1).bind fun t198 => (some (t197 == t198))))) else (some false)) = some r := H
            have A33 := Aside0.mk A330
            clear A330
            by_cases c34 : (t191 == t192) = true
            · rw [if_pos c34] at H
              have c34b0 : (t191 == t192) = true := c34
              (try (have c34b1 : decide (t191 = t192) = true := by simpa using c34))
              (try (have c34b2 : (t191 == t192) = true := by simpa using c34))
              clear c34
              replace H := Option.bind_eq_some_iff.mp H
              obtain ⟨⟨t193, t194, t195, t196⟩, A350, H⟩ := H
              replace H : ((box_Contains.f t193 t194 t195 t196 a3_0 a3_1).bind fun t197 => ((billiardref08_Contains.f a1_0 a1_1 a1_2 a1_3 a3_0 a3_1).bind fun t198 => (some (t197 == t198)))) = some r := H
              have A35 := Aside0.mk A350
              clear A350
              replace H := Option.bind_eq_some_iff.mp H
              obtain ⟨t197, A360, H⟩ := H
              replace H : ((billiardref08_Contains.f a1_0 a1_1 a1_2 a1_3 a3_0 a3_1).bind fun t198 => (some (t197 == t198))) = some r := H
              have A36 := Aside0.mk A360
              clear A360
              replace H := Option.bind_eq_some_iff.mp H
              obtain ⟨t198, A370, H⟩ := H
              replace H : (some (t197 == t198)) = some r := H
              have A37 := Aside0.mk A370
              clear A370
              obtain rfl := Option.some.inj H
              try go_wp2
              have n0_ := Aside0.mk (blk_drew BK159.out)
              have n1_ := Aside0.mk (blk_drew BK160.out)
              have n2_ := Aside0.mk (blk_drew BK161.out)
              have n3_ := Aside0.mk (blk_drew BK162.out)
              have n4_ := Aside0.mk (below_drew1 HB.out)
              clear BK159
              clear BK160
              clear BK161
              clear BK162
              clear HB
              have BK159 := n0_
              have BK160 := n1_
              have BK161 := n2_
              have BK162 := n3_
              have HB := n4_
              clear n0_ n1_ n2_ n3_ n4_
              refine start_ (n := 28) (S := fun w' => w'.cell? ⟨gb160, 0, none⟩ = some (.int .i32 a1_0) ∧ w'.cell? ⟨gb160, 1, none⟩ = some (.int .i32 a1_1) ∧ w'.cell? ⟨gb160, 2, none⟩ = some (.int .i32 a1_2) ∧ w'.cell? ⟨gb160, 3, none⟩ = some (.int .i32 a1_3) ∧ w'.cell? ⟨gb161, 0, none⟩ = some (.int .i32 a2_0) ∧ w'.cell? ⟨gb161, 1, none⟩ = some (.int .i32 a2_1) ∧ w'.cell? ⟨gb161, 2, none⟩ = some (.int .i32 a2_2) ∧ w'.cell? ⟨gb161, 3, none⟩ = some (.int .i32 a2_3) ∧ w'.cell? ⟨gb162, 0, none⟩ = some (.int .i32 a3_0) ∧ w'.cell? ⟨gb162, 1, none⟩ = some (.int .i32 a3_1)) (ds := []) #[false, false, false, false, false, false, false, false, false, false, false, false, false, false, false, false, false, false, false, false, false, false, false, false, false, false, false, false] (by kernel_rfl) rfl rfl ⟨(blk_cell BK160.out 0).trans rfl, (blk_cell BK160.out 1).trans rfl, (blk_cell BK160.out 2).trans rfl, (blk_cell BK160.out 3).trans rfl, (blk_cell BK161.out 0).trans rfl, (blk_cell BK161.out 1).trans rfl, (blk_cell BK161.out 2).trans rfl, (blk_cell BK161.out 3).trans rfl, (blk_cell BK162.out 0).trans rfl, (blk_cell BK162.out 1).trans rfl⟩ (fun hHeld => ?_); refine with_tabW billiardlaw08_BoxMatchesReference.tab5 billiardlaw08_BoxMatchesReference.bits5 (fun HT_ HW_ => ?_)
              generalize wc.drew = w38 at BK159 BK160 BK161 BK162 HB hHeld ⊢
              refine take_ (i := 0) (N := some 22) (v := ?_) (a' := ?_) #[true, false, false, false, false, false, false, false, false, false, false, false, false, false, false, false, false, false, false, false, false, false, false, false, false, false, false, false] rfl rfl (take_ofW HT_.out HW_.out (by kernel_rfl)) (fun _ _ _ h => h) (Or.inl ⟨by rfl, ?_⟩) hHeld ?_ ?_
              rotate_left
              · rintro w' ⟨s0, s1, s2, s3, s4, s5, s6, s7, s8, s9⟩
                go_simp
                with_reducible rfl
              rotate_left
              · simp only [Act.put, List.setIfInBounds_toArray, List.set_cons_zero, List.set_cons_succ, i64_w, i32_w]
                rfl
              refine take_ (i := 3) (N := some 25) (v := ?_) (a' := ?_) #[true, false, false, true, false, false, false, false, false, false, false, false, false, false, false, false, false, false, false, false, false, false, false, false, false, false, false, false] rfl rfl (take_ofW HT_.out HW_.out (by kernel_rfl)) (fun _ _ _ h => h) (Or.inl ⟨by rfl, ?_⟩) hHeld ?_ ?_
              rotate_left
              · rintro w' ⟨s0, s1, s2, s3, s4, s5, s6, s7, s8, s9⟩
                go_simp
                with_reducible rfl
              rotate_left
              · simp only [Act.put, List.setIfInBounds_toArray, List.set_cons_zero, List.set_cons_succ, i64_w, i32_w]
                rfl
              refine one_ (i := 1) (N := some 23) #[true, true, false, true, false, false, false, false, false, false, false, false, false, false, false, false, false, false, false, false, false, false, false, false, false, false, false, false] rfl rfl (one_of HT_.out (by kernel_rfl)) (by decide) (fun K hK => ?_)
              refine goes_ Tryd.func10 (by kernel_rfl) rfl #[.agg #[.int .i32 a1_0, .int .i32 a1_1, .int .i32 a1_2, .int .i32 a1_3]] (by rfl) rfl rfl (by (try simp only [List.map_toArray, List.map_cons, List.map_nil]); first | done | rfl | (simp only [List.length_drop, List.length_take]; rfl)) ?_
              with_reducible refine (billiardlaw08_forward.calls a1_0 a1_1 a1_2 a1_3 t177 t178 t179 t180 _ A26.out).mono ?_
              rintro e w39 ⟨rfl, hb⟩
              refine ⟨_, rfl, ?_⟩
              have n0_ := Aside0.mk (blk_below (g := gb159) (o := .cells #[.int .u32 a0_0, .int .i32 a0_1, .int .i32 a0_2, .int .i32 a0_3, .int .i32 a0_4, .int .i32 a0_5, .int .i32 a0_6, .int .i32 a0_7, .int .i32 a0_8, .int .i32 a0_9] 26 (0, 0)) (by (with_reducible repeat (first | refine blk_drewN ?_ _ | refine blk_drew ?_ | refine blk_alloc ?_ _)); exact BK159.out) hb)
              have n1_ := Aside0.mk (blk_below (g := gb160) (o := .cells #[.int .i32 a1_0, .int .i32 a1_1, .int .i32 a1_2, .int .i32 a1_3] 28 (0, 0)) (by (with_reducible repeat (first | refine blk_drewN ?_ _ | refine blk_drew ?_ | refine blk_alloc ?_ _)); exact BK160.out) hb)
              have n2_ := Aside0.mk (blk_below (g := gb161) (o := .cells #[.int .i32 a2_0, .int .i32 a2_1, .int .i32 a2_2, .int .i32 a2_3] 28 (0, 0)) (by (with_reducible repeat (first | refine blk_drewN ?_ _ | refine blk_drew ?_ | refine blk_alloc ?_ _)); exact BK161.out) hb)
              have n3_ := Aside0.mk (blk_below (g := gb162) (o := .cells #[.int .i32 a3_0, .int .i32 a3_1] 24 (0, 0)) (by (with_reducible repeat (first | refine blk_drewN ?_ _ | refine blk_drew ?_ | refine blk_alloc ?_ _)); exact BK162.out) hb)
              have n4_ := Aside0.mk (below_step (by repeat (first | (with_reducible first | exact HB.out | apply below_alloc | apply pw_below_drewN | apply below_drew1 | refine below_set ?_ GE159.out | refine below_set ?_ GE160.out | refine below_set ?_ GE161.out | refine below_set ?_ GE162.out) | exact HB.out)) hb)
              clear BK159
              clear BK160
              clear BK161
              clear BK162
              clear HB
              have BK159 := n0_
              have BK160 := n1_
              have BK161 := n2_
              have BK162 := n3_
              have HB := n4_
              clear n0_ n1_ n2_ n3_ n4_
              (try clear hb)
              (try clear hb2)
              (try clear hk)
              (try clear hi)
              refine hK.out _ _ ⟨(blk_cell BK160.out 0).trans rfl, (blk_cell BK160.out 1).trans rfl, (blk_cell BK160.out 2).trans rfl, (blk_cell BK160.out 3).trans rfl, (blk_cell BK161.out 0).trans rfl, (blk_cell BK161.out 1).trans rfl, (blk_cell BK161.out 2).trans rfl, (blk_cell BK161.out 3).trans rfl, (blk_cell BK162.out 0).trans rfl, (blk_cell BK162.out 1).trans rfl⟩ (fun hHeld => ?_)
              clear hK K
              refine norm_ (a' := ?_) ?_ ?_
              rotate_left
              · show Act.put _ (some 23) _ = _
                simp only [Act.put, List.setIfInBounds_toArray, List.set_cons_zero, List.set_cons_succ, i64_w, i32_w]
                rfl
              refine one_ (i := 2) (N := some 24) #[true, true, true, true, false, false, false, false, false, false, false, false, false, false, false, false, false, false, false, false, false, false, false, false, false, false, false, false] rfl rfl (one_of HT_.out (by kernel_rfl)) (by decide) (fun K hK => ?_)
              refine goes_ Tryd.func12 (by kernel_rfl) rfl #[.agg #[.int .i32 t177, .int .i32 t178, .int .i32 t179, .int .i32 t180]] (by rfl) rfl rfl (by (try simp only [List.map_toArray, List.map_cons, List.map_nil]); first | done | rfl | (simp only [List.length_drop, List.length_take]; rfl)) ?_
              with_reducible refine (box_Empty.calls t177 t178 t179 t180 t181 _ A27.out).mono ?_
              rintro e w40 ⟨rfl, hb⟩
              refine ⟨_, rfl, ?_⟩
              have n0_ := Aside0.mk (blk_below (g := gb159) (o := .cells #[.int .u32 a0_0, .int .i32 a0_1, .int .i32 a0_2, .int .i32 a0_3, .int .i32 a0_4, .int .i32 a0_5, .int .i32 a0_6, .int .i32 a0_7, .int .i32 a0_8, .int .i32 a0_9] 26 (0, 0)) (by (with_reducible repeat (first | refine blk_drewN ?_ _ | refine blk_drew ?_ | refine blk_alloc ?_ _)); exact BK159.out) hb)
              have n1_ := Aside0.mk (blk_below (g := gb160) (o := .cells #[.int .i32 a1_0, .int .i32 a1_1, .int .i32 a1_2, .int .i32 a1_3] 28 (0, 0)) (by (with_reducible repeat (first | refine blk_drewN ?_ _ | refine blk_drew ?_ | refine blk_alloc ?_ _)); exact BK160.out) hb)
              have n2_ := Aside0.mk (blk_below (g := gb161) (o := .cells #[.int .i32 a2_0, .int .i32 a2_1, .int .i32 a2_2, .int .i32 a2_3] 28 (0, 0)) (by (with_reducible repeat (first | refine blk_drewN ?_ _ | refine blk_drew ?_ | refine blk_alloc ?_ _)); exact BK161.out) hb)
              have n3_ := Aside0.mk (blk_below (g := gb162) (o := .cells #[.int .i32 a3_0, .int .i32 a3_1] 24 (0, 0)) (by (with_reducible repeat (first | refine blk_drewN ?_ _ | refine blk_drew ?_ | refine blk_alloc ?_ _)); exact BK162.out) hb)
              have n4_ := Aside0.mk (below_step (by repeat (first | (with_reducible first | exact HB.out | apply below_alloc | apply pw_below_drewN | apply below_drew1 | refine below_set ?_ GE159.out | refine below_set ?_ GE160.out | refine below_set ?_ GE161.out | refine below_set ?_ GE162.out) | exact HB.out)) hb)
              clear BK159
              clear BK160
              clear BK161
              clear BK162
              clear HB
              have BK159 := n0_
              have BK160 := n1_
              have BK161 := n2_
              have BK162 := n3_
              have HB := n4_
              clear n0_ n1_ n2_ n3_ n4_
              (try clear hb)
              (try clear hb2)
              (try clear hk)
              (try clear hi)
              refine hK.out _ _ ⟨(blk_cell BK160.out 0).trans rfl, (blk_cell BK160.out 1).trans rfl, (blk_cell BK160.out 2).trans rfl, (blk_cell BK160.out 3).trans rfl, (blk_cell BK161.out 0).trans rfl, (blk_cell BK161.out 1).trans rfl, (blk_cell BK161.out 2).trans rfl, (blk_cell BK161.out 3).trans rfl, (blk_cell BK162.out 0).trans rfl, (blk_cell BK162.out 1).trans rfl⟩ (fun hHeld => ?_)
              clear hK K
              refine norm_ (a' := ?_) ?_ ?_
              rotate_left
              · show Act.put _ (some 24) _ = _
                simp only [Act.put, List.setIfInBounds_toArray, List.set_cons_zero, List.set_cons_succ, i64_w, i32_w]
                rfl
              refine one_ (i := 4) (N := some 26) #[true, true, true, true, true, false, false, false, false, false, false, false, false, false, false, false, false, false, false, false, false, false, false, false, false, false, false, false] rfl rfl (one_of HT_.out (by kernel_rfl)) (by decide) (fun K hK => ?_)
              refine goes_ Tryd.func13 (by kernel_rfl) rfl #[.agg #[.int .i32 a1_0, .int .i32 a1_1, .int .i32 a1_2, .int .i32 a1_3]] (by rfl) rfl rfl (by (try simp only [List.map_toArray, List.map_cons, List.map_nil]); first | done | rfl | (simp only [List.length_drop, List.length_take]; rfl)) ?_
              with_reducible refine (billiardref08_Empty.calls a1_0 a1_1 a1_2 a1_3 t182 _ A28.out).mono ?_
              rintro e w41 ⟨rfl, hb⟩
              refine ⟨_, rfl, ?_⟩
              have n0_ := Aside0.mk (blk_below (g := gb159) (o := .cells #[.int .u32 a0_0, .int .i32 a0_1, .int .i32 a0_2, .int .i32 a0_3, .int .i32 a0_4, .int .i32 a0_5, .int .i32 a0_6, .int .i32 a0_7, .int .i32 a0_8, .int .i32 a0_9] 26 (0, 0)) (by (with_reducible repeat (first | refine blk_drewN ?_ _ | refine blk_drew ?_ | refine blk_alloc ?_ _)); exact BK159.out) hb)
              have n1_ := Aside0.mk (blk_below (g := gb160) (o := .cells #[.int .i32 a1_0, .int .i32 a1_1, .int .i32 a1_2, .int .i32 a1_3] 28 (0, 0)) (by (with_reducible repeat (first | refine blk_drewN ?_ _ | refine blk_drew ?_ | refine blk_alloc ?_ _)); exact BK160.out) hb)
              have n2_ := Aside0.mk (blk_below (g := gb161) (o := .cells #[.int .i32 a2_0, .int .i32 a2_1, .int .i32 a2_2, .int .i32 a2_3] 28 (0, 0)) (by (with_reducible repeat (first | refine blk_drewN ?_ _ | refine blk_drew ?_ | refine blk_alloc ?_ _)); exact BK161.out) hb)
              have n3_ := Aside0.mk (blk_below (g := gb162) (o := .cells #[.int .i32 a3_0, .int .i32 a3_1] 24 (0, 0)) (by (with_reducible repeat (first | refine blk_drewN ?_ _ | refine blk_drew ?_ | refine blk_alloc ?_ _)); exact BK162.out) hb)
              have n4_ := Aside0.mk (below_step (by repeat (first | (with_reducible first | exact HB.out | apply below_alloc | apply pw_below_drewN | apply below_drew1 | refine below_set ?_ GE159.out | refine below_set ?_ GE160.out | refine below_set ?_ GE161.out | refine below_set ?_ GE162.out) | exact HB.out)) hb)
              clear BK159
              clear BK160
              clear BK161
              clear BK162
              clear HB
              have BK159 := n0_
              have BK160 := n1_
              have BK161 := n2_
              have BK162 := n3_
              have HB := n4_
              clear n0_ n1_ n2_ n3_ n4_
              (try clear hb)
              (try clear hb2)
              (try clear hk)
              (try clear hi)
              refine hK.out _ _ ⟨(blk_cell BK160.out 0).trans rfl, (blk_cell BK160.out 1).trans rfl, (blk_cell BK160.out 2).trans rfl, (blk_cell BK160.out 3).trans rfl, (blk_cell BK161.out 0).trans rfl, (blk_cell BK161.out 1).trans rfl, (blk_cell BK161.out 2).trans rfl, (blk_cell BK161.out 3).trans rfl, (blk_cell BK162.out 0).trans rfl, (blk_cell BK162.out 1).trans rfl⟩ (fun hHeld => ?_)
              clear hK K
              refine norm_ (a' := ?_) ?_ ?_
              rotate_left
              · show Act.put _ (some 26) _ = _
                simp only [Act.put, List.setIfInBounds_toArray, List.set_cons_zero, List.set_cons_succ, i64_w, i32_w]
                rfl
              refine pure_ (i := 5) (N := some 27) (v := ?_) (a' := ?_) #[true, true, true, true, true, true, false, false, false, false, false, false, false, false, false, false, false, false, false, false, false, false, false, false, false, false, false, false] rfl rfl (any_of HT_.out (by kernel_rfl)) (fun _ _ _ h => h) (Or.inl ⟨by rfl, ?_⟩) ?_ ?_
              rotate_left
              · intro w'
                go_simp
                with_reducible rfl
              rotate_left
              · simp only [Act.put, List.setIfInBounds_toArray, List.set_cons_zero, List.set_cons_succ, i64_w, i32_w]
                rfl
              refine pure_ (i := 6) (N := some 28) (v := ?_) (a' := ?_) #[true, true, true, true, true, true, true, false, false, false, false, false, false, false, false, false, false, false, false, false, false, false, false, false, false, false, false, false] rfl rfl (any_of HT_.out (by kernel_rfl)) (fun _ _ _ h => h) (Or.inl ⟨by rfl, ?_⟩) ?_ ?_
              rotate_left
              · intro w'
                go_simp
                with_reducible rfl
              rotate_left
              · simp only [Act.put, List.setIfInBounds_toArray, List.set_cons_zero, List.set_cons_succ, i64_w, i32_w]
                rfl
              refine take_ (i := 7) (N := some 29) (v := ?_) (a' := ?_) #[true, true, true, true, true, true, true, true, false, false, false, false, false, false, false, false, false, false, false, false, false, false, false, false, false, false, false, false] rfl rfl (take_ofW HT_.out HW_.out (by kernel_rfl)) (fun _ _ _ h => h) (Or.inl ⟨by rfl, ?_⟩) hHeld ?_ ?_
              rotate_left
              · rintro w' ⟨s0, s1, s2, s3, s4, s5, s6, s7, s8, s9⟩
                go_simp
                with_reducible rfl
              rotate_left
              · simp only [Act.put, List.setIfInBounds_toArray, List.set_cons_zero, List.set_cons_succ, i64_w, i32_w]
                rfl
              refine take_ (i := 9) (N := some 31) (v := ?_) (a' := ?_) #[true, true, true, true, true, true, true, true, false, true, false, false, false, false, false, false, false, false, false, false, false, false, false, false, false, false, false, false] rfl rfl (take_ofW HT_.out HW_.out (by kernel_rfl)) (fun _ _ _ h => h) (Or.inl ⟨by rfl, ?_⟩) hHeld ?_ ?_
              rotate_left
              · rintro w' ⟨s0, s1, s2, s3, s4, s5, s6, s7, s8, s9⟩
                go_simp
                with_reducible rfl
              rotate_left
              · simp only [Act.put, List.setIfInBounds_toArray, List.set_cons_zero, List.set_cons_succ, i64_w, i32_w]
                rfl
              refine take_ (i := 12) (N := some 34) (v := ?_) (a' := ?_) #[true, true, true, true, true, true, true, true, false, true, false, false, true, false, false, false, false, false, false, false, false, false, false, false, false, false, false, false] rfl rfl (take_ofW HT_.out HW_.out (by kernel_rfl)) (fun _ _ _ h => h) (Or.inl ⟨by rfl, ?_⟩) hHeld ?_ ?_
              rotate_left
              · rintro w' ⟨s0, s1, s2, s3, s4, s5, s6, s7, s8, s9⟩
                go_simp
                with_reducible rfl
              rotate_left
              · simp only [Act.put, List.setIfInBounds_toArray, List.set_cons_zero, List.set_cons_succ, i64_w, i32_w]
                rfl
              refine take_ (i := 13) (N := some 35) (v := ?_) (a' := ?_) #[true, true, true, true, true, true, true, true, false, true, false, false, true, true, false, false, false, false, false, false, false, false, false, false, false, false, false, false] rfl rfl (take_ofW HT_.out HW_.out (by kernel_rfl)) (fun _ _ _ h => h) (Or.inl ⟨by rfl, ?_⟩) hHeld ?_ ?_
              rotate_left
              · rintro w' ⟨s0, s1, s2, s3, s4, s5, s6, s7, s8, s9⟩
                go_simp
                with_reducible rfl
              rotate_left
              · simp only [Act.put, List.setIfInBounds_toArray, List.set_cons_zero, List.set_cons_succ, i64_w, i32_w]
                rfl
              refine one_ (i := 8) (N := some 30) #[true, true, true, true, true, true, true, true, true, true, false, false, true, true, false, false, false, false, false, false, false, false, false, false, false, false, false, false] rfl rfl (one_of HT_.out (by kernel_rfl)) (by decide) (fun K hK => ?_)
              refine goes_ Tryd.func10 (by kernel_rfl) rfl #[.agg #[.int .i32 a1_0, .int .i32 a1_1, .int .i32 a1_2, .int .i32 a1_3]] (by rfl) rfl rfl (by (try simp only [List.map_toArray, List.map_cons, List.map_nil]); first | done | rfl | (simp only [List.length_drop, List.length_take]; rfl)) ?_
              with_reducible refine (billiardlaw08_forward.calls a1_0 a1_1 a1_2 a1_3 t183 t184 t185 t186 _ A30.out).mono ?_
              rintro e w42 ⟨rfl, hb⟩
              refine ⟨_, rfl, ?_⟩
              have n0_ := Aside0.mk (blk_below (g := gb159) (o := .cells #[.int .u32 a0_0, .int .i32 a0_1, .int .i32 a0_2, .int .i32 a0_3, .int .i32 a0_4, .int .i32 a0_5, .int .i32 a0_6, .int .i32 a0_7, .int .i32 a0_8, .int .i32 a0_9] 26 (0, 0)) (by (with_reducible repeat (first | refine blk_drewN ?_ _ | refine blk_drew ?_ | refine blk_alloc ?_ _)); exact BK159.out) hb)
              have n1_ := Aside0.mk (blk_below (g := gb160) (o := .cells #[.int .i32 a1_0, .int .i32 a1_1, .int .i32 a1_2, .int .i32 a1_3] 28 (0, 0)) (by (with_reducible repeat (first | refine blk_drewN ?_ _ | refine blk_drew ?_ | refine blk_alloc ?_ _)); exact BK160.out) hb)
              have n2_ := Aside0.mk (blk_below (g := gb161) (o := .cells #[.int .i32 a2_0, .int .i32 a2_1, .int .i32 a2_2, .int .i32 a2_3] 28 (0, 0)) (by (with_reducible repeat (first | refine blk_drewN ?_ _ | refine blk_drew ?_ | refine blk_alloc ?_ _)); exact BK161.out) hb)
              have n3_ := Aside0.mk (blk_below (g := gb162) (o := .cells #[.int .i32 a3_0, .int .i32 a3_1] 24 (0, 0)) (by (with_reducible repeat (first | refine blk_drewN ?_ _ | refine blk_drew ?_ | refine blk_alloc ?_ _)); exact BK162.out) hb)
              have n4_ := Aside0.mk (below_step (by repeat (first | (with_reducible first | exact HB.out | apply below_alloc | apply pw_below_drewN | apply below_drew1 | refine below_set ?_ GE159.out | refine below_set ?_ GE160.out | refine below_set ?_ GE161.out | refine below_set ?_ GE162.out) | exact HB.out)) hb)
              clear BK159
              clear BK160
              clear BK161
              clear BK162
              clear HB
              have BK159 := n0_
              have BK160 := n1_
              have BK161 := n2_
              have BK162 := n3_
              have HB := n4_
              clear n0_ n1_ n2_ n3_ n4_
              (try clear hb)
              (try clear hb2)
              (try clear hk)
              (try clear hi)
              refine hK.out _ _ ⟨(blk_cell BK160.out 0).trans rfl, (blk_cell BK160.out 1).trans rfl, (blk_cell BK160.out 2).trans rfl, (blk_cell BK160.out 3).trans rfl, (blk_cell BK161.out 0).trans rfl, (blk_cell BK161.out 1).trans rfl, (blk_cell BK161.out 2).trans rfl, (blk_cell BK161.out 3).trans rfl, (blk_cell BK162.out 0).trans rfl, (blk_cell BK162.out 1).trans rfl⟩ (fun hHeld => ?_)
              clear hK K
              refine norm_ (a' := ?_) ?_ ?_
              rotate_left
              · show Act.put _ (some 30) _ = _
                simp only [Act.put, List.setIfInBounds_toArray, List.set_cons_zero, List.set_cons_succ, i64_w, i32_w]
                rfl
              refine one_ (i := 10) (N := some 32) #[true, true, true, true, true, true, true, true, true, true, true, false, true, true, false, false, false, false, false, false, false, false, false, false, false, false, false, false] rfl rfl (one_of HT_.out (by kernel_rfl)) (by decide) (fun K hK => ?_)
              refine goes_ Tryd.func10 (by kernel_rfl) rfl #[.agg #[.int .i32 a2_0, .int .i32 a2_1, .int .i32 a2_2, .int .i32 a2_3]] (by rfl) rfl rfl (by (try simp only [List.map_toArray, List.map_cons, List.map_nil]); first | done | rfl | (simp only [List.length_drop, List.length_take]; rfl)) ?_
              with_reducible refine (billiardlaw08_forward.calls a2_0 a2_1 a2_2 a2_3 t187 t188 t189 t190 _ A31.out).mono ?_
              rintro e w43 ⟨rfl, hb⟩
              refine ⟨_, rfl, ?_⟩
              have n0_ := Aside0.mk (blk_below (g := gb159) (o := .cells #[.int .u32 a0_0, .int .i32 a0_1, .int .i32 a0_2, .int .i32 a0_3, .int .i32 a0_4, .int .i32 a0_5, .int .i32 a0_6, .int .i32 a0_7, .int .i32 a0_8, .int .i32 a0_9] 26 (0, 0)) (by (with_reducible repeat (first | refine blk_drewN ?_ _ | refine blk_drew ?_ | refine blk_alloc ?_ _)); exact BK159.out) hb)
              have n1_ := Aside0.mk (blk_below (g := gb160) (o := .cells #[.int .i32 a1_0, .int .i32 a1_1, .int .i32 a1_2, .int .i32 a1_3] 28 (0, 0)) (by (with_reducible repeat (first | refine blk_drewN ?_ _ | refine blk_drew ?_ | refine blk_alloc ?_ _)); exact BK160.out) hb)
              have n2_ := Aside0.mk (blk_below (g := gb161) (o := .cells #[.int .i32 a2_0, .int .i32 a2_1, .int .i32 a2_2, .int .i32 a2_3] 28 (0, 0)) (by (with_reducible repeat (first | refine blk_drewN ?_ _ | refine blk_drew ?_ | refine blk_alloc ?_ _)); exact BK161.out) hb)
              have n3_ := Aside0.mk (blk_below (g := gb162) (o := .cells #[.int .i32 a3_0, .int .i32 a3_1] 24 (0, 0)) (by (with_reducible repeat (first | refine blk_drewN ?_ _ | refine blk_drew ?_ | refine blk_alloc ?_ _)); exact BK162.out) hb)
              have n4_ := Aside0.mk (below_step (by repeat (first | (with_reducible first | exact HB.out | apply below_alloc | apply pw_below_drewN | apply below_drew1 | refine below_set ?_ GE159.out | refine below_set ?_ GE160.out | refine below_set ?_ GE161.out | refine below_set ?_ GE162.out) | exact HB.out)) hb)
              clear BK159
              clear BK160
              clear BK161
              clear BK162
              clear HB
              have BK159 := n0_
              have BK160 := n1_
              have BK161 := n2_
              have BK162 := n3_
              have HB := n4_
              clear n0_ n1_ n2_ n3_ n4_
              (try clear hb)
              (try clear hb2)
              (try clear hk)
              (try clear hi)
              refine hK.out _ _ ⟨(blk_cell BK160.out 0).trans rfl, (blk_cell BK160.out 1).trans rfl, (blk_cell BK160.out 2).trans rfl, (blk_cell BK160.out 3).trans rfl, (blk_cell BK161.out 0).trans rfl, (blk_cell BK161.out 1).trans rfl, (blk_cell BK161.out 2).trans rfl, (blk_cell BK161.out 3).trans rfl, (blk_cell BK162.out 0).trans rfl, (blk_cell BK162.out 1).trans rfl⟩ (fun hHeld => ?_)
              clear hK K
              refine norm_ (a' := ?_) ?_ ?_
              rotate_left
              · show Act.put _ (some 32) _ = _
                simp only [Act.put, List.setIfInBounds_toArray, List.set_cons_zero, List.set_cons_succ, i64_w, i32_w]
                rfl
              refine one_ (i := 11) (N := some 33) #[true, true, true, true, true, true, true, true, true, true, true, true, true, true, false, false, false, false, false, false, false, false, false, false, false, false, false, false] rfl rfl (one_of HT_.out (by kernel_rfl)) (by decide) (fun K hK => ?_)
              refine goes_ Tryd.func14 (by kernel_rfl) rfl #[.agg #[.int .i32 t183, .int .i32 t184, .int .i32 t185, .int .i32 t186], .agg #[.int .i32 t187, .int .i32 t188, .int .i32 t189, .int .i32 t190]] (by rfl) rfl rfl (by (try simp only [List.map_toArray, List.map_cons, List.map_nil]); first | done | rfl | (simp only [List.length_drop, List.length_take]; rfl)) ?_
              with_reducible refine (box_Overlap.calls t183 t184 t185 t186 t187 t188 t189 t190 t191 _ A32.out (HGN.out.below (by repeat (first | (with_reducible first | exact HB.out | apply below_alloc | apply pw_below_drewN | apply below_drew1 | refine below_set ?_ GE159.out | refine below_set ?_ GE160.out | refine below_set ?_ GE161.out | refine below_set ?_ GE162.out) | exact HB.out)))).mono ?_
              rintro e w44 ⟨rfl, hb⟩
              refine ⟨_, rfl, ?_⟩
              have n0_ := Aside0.mk (blk_below (g := gb159) (o := .cells #[.int .u32 a0_0, .int .i32 a0_1, .int .i32 a0_2, .int .i32 a0_3, .int .i32 a0_4, .int .i32 a0_5, .int .i32 a0_6, .int .i32 a0_7, .int .i32 a0_8, .int .i32 a0_9] 26 (0, 0)) (by (with_reducible repeat (first | refine blk_drewN ?_ _ | refine blk_drew ?_ | refine blk_alloc ?_ _)); exact BK159.out) hb)
              have n1_ := Aside0.mk (blk_below (g := gb160) (o := .cells #[.int .i32 a1_0, .int .i32 a1_1, .int .i32 a1_2, .int .i32 a1_3] 28 (0, 0)) (by (with_reducible repeat (first | refine blk_drewN ?_ _ | refine blk_drew ?_ | refine blk_alloc ?_ _)); exact BK160.out) hb)
              have n2_ := Aside0.mk (blk_below (g := gb161) (o := .cells #[.int .i32 a2_0, .int .i32 a2_1, .int .i32 a2_2, .int .i32 a2_3] 28 (0, 0)) (by (with_reducible repeat (first | refine blk_drewN ?_ _ | refine blk_drew ?_ | refine blk_alloc ?_ _)); exact BK161.out) hb)
              have n3_ := Aside0.mk (blk_below (g := gb162) (o := .cells #[.int .i32 a3_0, .int .i32 a3_1] 24 (0, 0)) (by (with_reducible repeat (first | refine blk_drewN ?_ _ | refine blk_drew ?_ | refine blk_alloc ?_ _)); exact BK162.out) hb)
              have n4_ := Aside0.mk (below_step (by repeat (first | (with_reducible first | exact HB.out | apply below_alloc | apply pw_below_drewN | apply below_drew1 | refine below_set ?_ GE159.out | refine below_set ?_ GE160.out | refine below_set ?_ GE161.out | refine below_set ?_ GE162.out) | exact HB.out)) hb)
              clear BK159
              clear BK160
              clear BK161
              clear BK162
              clear HB
              have BK159 := n0_
              have BK160 := n1_
              have BK161 := n2_
              have BK162 := n3_
              have HB := n4_
              clear n0_ n1_ n2_ n3_ n4_
              (try clear hb)
              (try clear hb2)
              (try clear hk)
              (try clear hi)
              refine hK.out _ _ ⟨(blk_cell BK160.out 0).trans rfl, (blk_cell BK160.out 1).trans rfl, (blk_cell BK160.out 2).trans rfl, (blk_cell BK160.out 3).trans rfl, (blk_cell BK161.out 0).trans rfl, (blk_cell BK161.out 1).trans rfl, (blk_cell BK161.out 2).trans rfl, (blk_cell BK161.out 3).trans rfl, (blk_cell BK162.out 0).trans rfl, (blk_cell BK162.out 1).trans rfl⟩ (fun hHeld => ?_)
              clear hK K
              refine norm_ (a' := ?_) ?_ ?_
              rotate_left
              · show Act.put _ (some 33) _ = _
                simp only [Act.put, List.setIfInBounds_toArray, List.set_cons_zero, List.set_cons_succ, i64_w, i32_w]
                rfl
              refine one_ (i := 14) (N := some 36) #[true, true, true, true, true, true, true, true, true, true, true, true, true, true, true, false, false, false, false, false, false, false, false, false, false, false, false, false] rfl rfl (one_of HT_.out (by kernel_rfl)) (by decide) (fun K hK => ?_)
              refine goes_ Tryd.func15 (by kernel_rfl) rfl #[.agg #[.int .i32 a1_0, .int .i32 a1_1, .int .i32 a1_2, .int .i32 a1_3], .agg #[.int .i32 a2_0, .int .i32 a2_1, .int .i32 a2_2, .int .i32 a2_3]] (by rfl) rfl rfl (by (try simp only [List.map_toArray, List.map_cons, List.map_nil]); first | done | rfl | (simp only [List.length_drop, List.length_take]; rfl)) ?_
              with_reducible refine (billiardref08_Overlap.calls a1_0 a1_1 a1_2 a1_3 a2_0 a2_1 a2_2 a2_3 t192 _ A33.out).mono ?_
              rintro e w45 ⟨rfl, hb⟩
              refine ⟨_, rfl, ?_⟩
              have n0_ := Aside0.mk (blk_below (g := gb159) (o := .cells #[.int .u32 a0_0, .int .i32 a0_1, .int .i32 a0_2, .int .i32 a0_3, .int .i32 a0_4, .int .i32 a0_5, .int .i32 a0_6, .int .i32 a0_7, .int .i32 a0_8, .int .i32 a0_9] 26 (0, 0)) (by (with_reducible repeat (first | refine blk_drewN ?_ _ | refine blk_drew ?_ | refine blk_alloc ?_ _)); exact BK159.out) hb)
              have n1_ := Aside0.mk (blk_below (g := gb160) (o := .cells #[.int .i32 a1_0, .int .i32 a1_1, .int .i32 a1_2, .int .i32 a1_3] 28 (0, 0)) (by (with_reducible repeat (first | refine blk_drewN ?_ _ | refine blk_drew ?_ | refine blk_alloc ?_ _)); exact BK160.out) hb)
              have n2_ := Aside0.mk (blk_below (g := gb161) (o := .cells #[.int .i32 a2_0, .int .i32 a2_1, .int .i32 a2_2, .int .i32 a2_3] 28 (0, 0)) (by (with_reducible repeat (first | refine blk_drewN ?_ _ | refine blk_drew ?_ | refine blk_alloc ?_ _)); exact BK161.out) hb)
              have n3_ := Aside0.mk (blk_below (g := gb162) (o := .cells #[.int .i32 a3_0, .int .i32 a3_1] 24 (0, 0)) (by (with_reducible repeat (first | refine blk_drewN ?_ _ | refine blk_drew ?_ | refine blk_alloc ?_ _)); exact BK162.out) hb)
              have n4_ := Aside0.mk (below_step (by repeat (first | (with_reducible first | exact HB.out | apply below_alloc | apply pw_below_drewN | apply below_drew1 | refine below_set ?_ GE159.out | refine below_set ?_ GE160.out | refine below_set ?_ GE161.out | refine below_set ?_ GE162.out) | exact HB.out)) hb)
              clear BK159
              clear BK160
              clear BK161
              clear BK162
              clear HB
              have BK159 := n0_
              have BK160 := n1_
              have BK161 := n2_
              have BK162 := n3_
              have HB := n4_
              clear n0_ n1_ n2_ n3_ n4_
              (try clear hb)
              (try clear hb2)
              (try clear hk)
              (try clear hi)
              refine hK.out _ _ ⟨(blk_cell BK160.out 0).trans rfl, (blk_cell BK160.out 1).trans rfl, (blk_cell BK160.out 2).trans rfl, (blk_cell BK160.out 3).trans rfl, (blk_cell BK161.out 0).trans rfl, (blk_cell BK161.out 1).trans rfl, (blk_cell BK161.out 2).trans rfl, (blk_cell BK161.out 3).trans rfl, (blk_cell BK162.out 0).trans rfl, (blk_cell BK162.out 1).trans rfl⟩ (fun hHeld => ?_)
              clear hK K
              refine norm_ (a' := ?_) ?_ ?_
              rotate_left
              · show Act.put _ (some 36) _ = _
                simp only [Act.put, List.setIfInBounds_toArray, List.set_cons_zero, List.set_cons_succ, i64_w, i32_w]
                rfl
              refine pure_ (i := 15) (N := some 37) (v := ?_) (a' := ?_) #[true, true, true, true, true, true, true, true, true, true, true, true, true, true, true, true, false, false, false, false, false, false, false, false, false, false, false, false] rfl rfl (any_of HT_.out (by kernel_rfl)) (fun _ _ _ h => h) (Or.inl ⟨by rfl, ?_⟩) ?_ ?_
              rotate_left
              · intro w'
                go_simp
                with_reducible rfl
              rotate_left
              · simp only [Act.put, List.setIfInBounds_toArray, List.set_cons_zero, List.set_cons_succ, i64_w, i32_w]
                rfl
              refine pure_ (i := 16) (N := some 38) (v := ?_) (a' := ?_) #[true, true, true, true, true, true, true, true, true, true, true, true, true, true, true, true, true, false, false, false, false, false, false, false, false, false, false, false] rfl rfl (any_of HT_.out (by kernel_rfl)) (fun _ _ _ h => h) (Or.inl ⟨by rfl, ?_⟩) ?_ ?_
              rotate_left
              · intro w'
                go_simp
                with_reducible rfl
              rotate_left
              · simp only [Act.put, List.setIfInBounds_toArray, List.set_cons_zero, List.set_cons_succ, i64_w, i32_w]
                rfl
              refine pure_ (i := 17) (N := some 39) (v := ?_) (a' := ?_) #[true, true, true, true, true, true, true, true, true, true, true, true, true, true, true, true, true, true, false, false, false, false, false, false, false, false, false, false] rfl rfl (any_of HT_.out (by kernel_rfl)) (fun _ _ _ h => h) (Or.inl ⟨by rfl, ?_⟩) ?_ ?_
              rotate_left
              · intro w'
                go_simp
                with_reducible rfl
              rotate_left
              · simp only [Act.put, List.setIfInBounds_toArray, List.set_cons_zero, List.set_cons_succ, i64_w, i32_w]
                rfl
              refine take_ (i := 18) (N := some 40) (v := ?_) (a' := ?_) #[true, true, true, true, true, true, true, true, true, true, true, true, true, true, true, true, true, true, true, false, false, false, false, false, false, false, false, false] rfl rfl (take_ofW HT_.out HW_.out (by kernel_rfl)) (fun _ _ _ h => h) (Or.inl ⟨by rfl, ?_⟩) hHeld ?_ ?_
              rotate_left
              · rintro w' ⟨s0, s1, s2, s3, s4, s5, s6, s7, s8, s9⟩
                go_simp
                with_reducible rfl
              rotate_left
              · simp only [Act.put, List.setIfInBounds_toArray, List.set_cons_zero, List.set_cons_succ, i64_w, i32_w]
                rfl
              refine take_ (i := 20) (N := some 42) (v := ?_) (a' := ?_) #[true, true, true, true, true, true, true, true, true, true, true, true, true, true, true, true, true, true, true, false, true, false, false, false, false, false, false, false] rfl rfl (take_ofW HT_.out HW_.out (by kernel_rfl)) (fun _ _ _ h => h) (Or.inl ⟨by rfl, ?_⟩) hHeld ?_ ?_
              rotate_left
              · rintro w' ⟨s0, s1, s2, s3, s4, s5, s6, s7, s8, s9⟩
                go_simp
                with_reducible rfl
              rotate_left
              · simp only [Act.put, List.setIfInBounds_toArray, List.set_cons_zero, List.set_cons_succ, i64_w, i32_w]
                rfl
              refine take_ (i := 22) (N := some 44) (v := ?_) (a' := ?_) #[true, true, true, true, true, true, true, true, true, true, true, true, true, true, true, true, true, true, true, false, true, false, true, false, false, false, false, false] rfl rfl (take_ofW HT_.out HW_.out (by kernel_rfl)) (fun _ _ _ h => h) (Or.inl ⟨by rfl, ?_⟩) hHeld ?_ ?_
              rotate_left
              · rintro w' ⟨s0, s1, s2, s3, s4, s5, s6, s7, s8, s9⟩
                go_simp
                with_reducible rfl
              rotate_left
              · simp only [Act.put, List.setIfInBounds_toArray, List.set_cons_zero, List.set_cons_succ, i64_w, i32_w]
                rfl
              refine take_ (i := 23) (N := some 45) (v := ?_) (a' := ?_) #[true, true, true, true, true, true, true, true, true, true, true, true, true, true, true, true, true, true, true, false, true, false, true, true, false, false, false, false] rfl rfl (take_ofW HT_.out HW_.out (by kernel_rfl)) (fun _ _ _ h => h) (Or.inl ⟨by rfl, ?_⟩) hHeld ?_ ?_
              rotate_left
              · rintro w' ⟨s0, s1, s2, s3, s4, s5, s6, s7, s8, s9⟩
                go_simp
                with_reducible rfl
              rotate_left
              · simp only [Act.put, List.setIfInBounds_toArray, List.set_cons_zero, List.set_cons_succ, i64_w, i32_w]
                rfl
              refine one_ (i := 19) (N := some 41) #[true, true, true, true, true, true, true, true, true, true, true, true, true, true, true, true, true, true, true, true, true, false, true, true, false, false, false, false] rfl rfl (one_of HT_.out (by kernel_rfl)) (by decide) (fun K hK => ?_)
              refine goes_ Tryd.func10 (by kernel_rfl) rfl #[.agg #[.int .i32 a1_0, .int .i32 a1_1, .int .i32 a1_2, .int .i32 a1_3]] (by rfl) rfl rfl (by (try simp only [List.map_toArray, List.map_cons, List.map_nil]); first | done | rfl | (simp only [List.length_drop, List.length_take]; rfl)) ?_
              with_reducible refine (billiardlaw08_forward.calls a1_0 a1_1 a1_2 a1_3 t193 t194 t195 t196 _ A35.out).mono ?_
              rintro e w46 ⟨rfl, hb⟩
              refine ⟨_, rfl, ?_⟩
              have n0_ := Aside0.mk (blk_below (g := gb159) (o := .cells #[.int .u32 a0_0, .int .i32 a0_1, .int .i32 a0_2, .int .i32 a0_3, .int .i32 a0_4, .int .i32 a0_5, .int .i32 a0_6, .int .i32 a0_7, .int .i32 a0_8, .int .i32 a0_9] 26 (0, 0)) (by (with_reducible repeat (first | refine blk_drewN ?_ _ | refine blk_drew ?_ | refine blk_alloc ?_ _)); exact BK159.out) hb)
              have n1_ := Aside0.mk (blk_below (g := gb160) (o := .cells #[.int .i32 a1_0, .int .i32 a1_1, .int .i32 a1_2, .int .i32 a1_3] 28 (0, 0)) (by (with_reducible repeat (first | refine blk_drewN ?_ _ | refine blk_drew ?_ | refine blk_alloc ?_ _)); exact BK160.out) hb)
              have n2_ := Aside0.mk (blk_below (g := gb161) (o := .cells #[.int .i32 a2_0, .int .i32 a2_1, .int .i32 a2_2, .int .i32 a2_3] 28 (0, 0)) (by (with_reducible repeat (first | refine blk_drewN ?_ _ | refine blk_drew ?_ | refine blk_alloc ?_ _)); exact BK161.out) hb)
              have n3_ := Aside0.mk (blk_below (g := gb162) (o := .cells #[.int .i32 a3_0, .int .i32 a3_1] 24 (0, 0)) (by (with_reducible repeat (first | refine blk_drewN ?_ _ | refine blk_drew ?_ | refine blk_alloc ?_ _)); exact BK162.out) hb)
              have n4_ := Aside0.mk (below_step (by repeat (first | (with_reducible first | exact HB.out | apply below_alloc | apply pw_below_drewN | apply below_drew1 | refine below_set ?_ GE159.out | refine below_set ?_ GE160.out | refine below_set ?_ GE161.out | refine below_set ?_ GE162.out) | exact HB.out)) hb)
              clear BK159
              clear BK160
              clear BK161
              clear BK162
              clear HB
              have BK159 := n0_
              have BK160 := n1_
              have BK161 := n2_
              have BK162 := n3_
              have HB := n4_
              clear n0_ n1_ n2_ n3_ n4_
              (try clear hb)
              (try clear hb2)
              (try clear hk)
              (try clear hi)
              refine hK.out _ _ ⟨(blk_cell BK160.out 0).trans rfl, (blk_cell BK160.out 1).trans rfl, (blk_cell BK160.out 2).trans rfl, (blk_cell BK160.out 3).trans rfl, (blk_cell BK161.out 0).trans rfl, (blk_cell BK161.out 1).trans rfl, (blk_cell BK161.out 2).trans rfl, (blk_cell BK161.out 3).trans rfl, (blk_cell BK162.out 0).trans rfl, (blk_cell BK162.out 1).trans rfl⟩ (fun hHeld => ?_)
              clear hK K
              refine norm_ (a' := ?_) ?_ ?_
              rotate_left
              · show Act.put _ (some 41) _ = _
                simp only [Act.put, List.setIfInBounds_toArray, List.set_cons_zero, List.set_cons_succ, i64_w, i32_w]
                rfl
              refine one_ (i := 21) (N := some 43) #[true, true, true, true, true, true, true, true, true, true, true, true, true, true, true, true, true, true, true, true, true, true, true, true, false, false, false, false] rfl rfl (one_of HT_.out (by kernel_rfl)) (by decide) (fun K hK => ?_)
              refine goes_ Tryd.func16 (by kernel_rfl) rfl #[.agg #[.int .i32 t193, .int .i32 t194, .int .i32 t195, .int .i32 t196], .agg #[.int .i32 a3_0, .int .i32 a3_1]] (by rfl) rfl rfl (by (try simp only [List.map_toArray, List.map_cons, List.map_nil]); first | done | rfl | (simp only [List.length_drop, List.length_take]; rfl)) ?_
              with_reducible refine (box_Contains.calls t193 t194 t195 t196 a3_0 a3_1 t197 _ A36.out).mono ?_
              rintro e w47 ⟨rfl, hb⟩
              refine ⟨_, rfl, ?_⟩
              have n0_ := Aside0.mk (blk_below (g := gb159) (o := .cells #[.int .u32 a0_0, .int .i32 a0_1, .int .i32 a0_2, .int .i32 a0_3, .int .i32 a0_4, .int .i32 a0_5, .int .i32 a0_6, .int .i32 a0_7, .int .i32 a0_8, .int .i32 a0_9] 26 (0, 0)) (by (with_reducible repeat (first | refine blk_drewN ?_ _ | refine blk_drew ?_ | refine blk_alloc ?_ _)); exact BK159.out) hb)
              have n1_ := Aside0.mk (blk_below (g := gb160) (o := .cells #[.int .i32 a1_0, .int .i32 a1_1, .int .i32 a1_2, .int .i32 a1_3] 28 (0, 0)) (by (with_reducible repeat (first | refine blk_drewN ?_ _ | refine blk_drew ?_ | refine blk_alloc ?_ _)); exact BK160.out) hb)
              have n2_ := Aside0.mk (blk_below (g := gb161) (o := .cells #[.int .i32 a2_0, .int .i32 a2_1, .int .i32 a2_2, .int .i32 a2_3] 28 (0, 0)) (by (with_reducible repeat (first | refine blk_drewN ?_ _ | refine blk_drew ?_ | refine blk_alloc ?_ _)); exact BK161.out) hb)
              have n3_ := Aside0.mk (blk_below (g := gb162) (o := .cells #[.int .i32 a3_0, .int .i32 a3_1] 24 (0, 0)) (by (with_reducible repeat (first | refine blk_drewN ?_ _ | refine blk_drew ?_ | refine blk_alloc ?_ _)); exact BK162.out) hb)
              have n4_ := Aside0.mk (below_step (by repeat (first | (with_reducible first | exact HB.out | apply below_alloc | apply pw_below_drewN | apply below_drew1 | refine below_set ?_ GE159.out | refine below_set ?_ GE160.out | refine below_set ?_ GE161.out | refine below_set ?_ GE162.out) | exact HB.out)) hb)
              clear BK159
              clear BK160
              clear BK161
              clear BK162
              clear HB
              have BK159 := n0_
              have BK160 := n1_
              have BK161 := n2_
              have BK162 := n3_
              have HB := n4_
              clear n0_ n1_ n2_ n3_ n4_
              (try clear hb)
              (try clear hb2)
              (try clear hk)
              (try clear hi)
              refine hK.out _ _ ⟨(blk_cell BK160.out 0).trans rfl, (blk_cell BK160.out 1).trans rfl, (blk_cell BK160.out 2).trans rfl, (blk_cell BK160.out 3).trans rfl, (blk_cell BK161.out 0).trans rfl, (blk_cell BK161.out 1).trans rfl, (blk_cell BK161.out 2).trans rfl, (blk_cell BK161.out 3).trans rfl, (blk_cell BK162.out 0).trans rfl, (blk_cell BK162.out 1).trans rfl⟩ (fun hHeld => ?_)
              clear hK K
              refine norm_ (a' := ?_) ?_ ?_
              rotate_left
              · show Act.put _ (some 43) _ = _
                simp only [Act.put, List.setIfInBounds_toArray, List.set_cons_zero, List.set_cons_succ, i64_w, i32_w]
                rfl
              refine one_ (i := 24) (N := some 46) #[true, true, true, true, true, true, true, true, true, true, true, true, true, true, true, true, true, true, true, true, true, true, true, true, true, false, false, false] rfl rfl (one_of HT_.out (by kernel_rfl)) (by decide) (fun K hK => ?_)
              refine goes_ Tryd.func17 (by kernel_rfl) rfl #[.agg #[.int .i32 a1_0, .int .i32 a1_1, .int .i32 a1_2, .int .i32 a1_3], .agg #[.int .i32 a3_0, .int .i32 a3_1]] (by rfl) rfl rfl (by (try simp only [List.map_toArray, List.map_cons, List.map_nil]); first | done | rfl | (simp only [List.length_drop, List.length_take]; rfl)) ?_
              with_reducible refine (billiardref08_Contains.calls a1_0 a1_1 a1_2 a1_3 a3_0 a3_1 t198 _ A37.out).mono ?_
              rintro e w48 ⟨rfl, hb⟩
              refine ⟨_, rfl, ?_⟩
              have n0_ := Aside0.mk (blk_below (g := gb159) (o := .cells #[.int .u32 a0_0, .int .i32 a0_1, .int .i32 a0_2, .int .i32 a0_3, .int .i32 a0_4, .int .i32 a0_5, .int .i32 a0_6, .int .i32 a0_7, .int .i32 a0_8, .int .i32 a0_9] 26 (0, 0)) (by (with_reducible repeat (first | refine blk_drewN ?_ _ | refine blk_drew ?_ | refine blk_alloc ?_ _)); exact BK159.out) hb)
              have n1_ := Aside0.mk (blk_below (g := gb160) (o := .cells #[.int .i32 a1_0, .int .i32 a1_1, .int .i32 a1_2, .int .i32 a1_3] 28 (0, 0)) (by (with_reducible repeat (first | refine blk_drewN ?_ _ | refine blk_drew ?_ | refine blk_alloc ?_ _)); exact BK160.out) hb)
              have n2_ := Aside0.mk (blk_below (g := gb161) (o := .cells #[.int .i32 a2_0, .int .i32 a2_1, .int .i32 a2_2, .int .i32 a2_3] 28 (0, 0)) (by (with_reducible repeat (first | refine blk_drewN ?_ _ | refine blk_drew ?_ | refine blk_alloc ?_ _)); exact BK161.out) hb)
              have n3_ := Aside0.mk (blk_below (g := gb162) (o := .cells #[.int .i32 a3_0, .int .i32 a3_1] 24 (0, 0)) (by (with_reducible repeat (first | refine blk_drewN ?_ _ | refine blk_drew ?_ | refine blk_alloc ?_ _)); exact BK162.out) hb)
              have n4_ := Aside0.mk (below_step (by repeat (first | (with_reducible first | exact HB.out | apply below_alloc | apply pw_below_drewN | apply below_drew1 | refine below_set ?_ GE159.out | refine below_set ?_ GE160.out | refine below_set ?_ GE161.out | refine below_set ?_ GE162.out) | exact HB.out)) hb)
              clear BK159
              clear BK160
              clear BK161
              clear BK162
              clear HB
              have BK159 := n0_
              have BK160 := n1_
              have BK161 := n2_
              have BK162 := n3_
              have HB := n4_
              clear n0_ n1_ n2_ n3_ n4_
              (try clear hb)
              (try clear hb2)
              (try clear hk)
              (try clear hi)
              refine hK.out _ _ ⟨(blk_cell BK160.out 0).trans rfl, (blk_cell BK160.out 1).trans rfl, (blk_cell BK160.out 2).trans rfl, (blk_cell BK160.out 3).trans rfl, (blk_cell BK161.out 0).trans rfl, (blk_cell BK161.out 1).trans rfl, (blk_cell BK161.out 2).trans rfl, (blk_cell BK161.out 3).trans rfl, (blk_cell BK162.out 0).trans rfl, (blk_cell BK162.out 1).trans rfl⟩ (fun hHeld => ?_)
              clear hK K
              refine norm_ (a' := ?_) ?_ ?_
              rotate_left
              · show Act.put _ (some 46) _ = _
                simp only [Act.put, List.setIfInBounds_toArray, List.set_cons_zero, List.set_cons_succ, i64_w, i32_w]
                rfl
              refine pure_ (i := 25) (N := some 47) (v := ?_) (a' := ?_) #[true, true, true, true, true, true, true, true, true, true, true, true, true, true, true, true, true, true, true, true, true, true, true, true, true, true, false, false] rfl rfl (any_of HT_.out (by kernel_rfl)) (fun _ _ _ h => h) (Or.inl ⟨by rfl, ?_⟩) ?_ ?_
              rotate_left
              · intro w'
                go_simp
                with_reducible rfl
              rotate_left
              · simp only [Act.put, List.setIfInBounds_toArray, List.set_cons_zero, List.set_cons_succ, i64_w, i32_w]
                rfl
              refine pure_ (i := 26) (N := some 48) (v := ?_) (a' := ?_) #[true, true, true, true, true, true, true, true, true, true, true, true, true, true, true, true, true, true, true, true, true, true, true, true, true, true, true, false] rfl rfl (any_of HT_.out (by kernel_rfl)) (fun _ _ _ h => h) (Or.inl ⟨by rfl, ?_⟩) ?_ ?_
              rotate_left
              · intro w'
                go_simp
                with_reducible rfl
              rotate_left
              · simp only [Act.put, List.setIfInBounds_toArray, List.set_cons_zero, List.set_cons_succ, i64_w, i32_w]
                rfl
              refine pure_ (i := 27) (N := some 8) (v := ?_) (a' := ?_) #[true, true, true, true, true, true, true, true, true, true, true, true, true, true, true, true, true, true, true, true, true, true, true, true, true, true, true, true] rfl rfl (any_of HT_.out (by kernel_rfl)) (fun _ _ _ h => h) (Or.inl ⟨by rfl, ?_⟩) ?_ ?_
              rotate_left
              · intro w'
                go_simp
                with_reducible rfl
              rotate_left
              · simp only [Act.put, List.setIfInBounds_toArray, List.set_cons_zero, List.set_cons_succ, i64_w, i32_w]
                rfl
              refine done_ (done_of HT_.out (by kernel_rfl)) ?_
              try go_wp2
              go_ret
              exact ⟨by first | rfl | (simp [errW_none, errW_some] <;> rfl) | (simp [*, errW_none, errW_some] <;> rfl), by repeat (first | (with_reducible first | exact HB.out | apply below_alloc | apply pw_below_drewN | apply below_drew1 | refine below_set ?_ GE159.out | refine below_set ?_ GE160.out | refine below_set ?_ GE161.out | refine below_set ?_ GE162.out) | exact HB.out)⟩
            · rw [if_neg c34] at H
              have c34b0 : (t191 == t192) = false := by simpa using c34
              (try (have c34b1 : decide (t191 = t192) = false := by simpa using c34))
              (try (have c34b2 : (t191 == t192) = false := by simpa using c34))
              (try (have c34b3 : ¬ (t191 = t192) := by simpa using c34))
              clear c34
              exact absurd ((Option.some.inj H).trans HR.out) (by decide)
          · rw [if_neg c29] at H
            have c29b0 : (t181 == t182) = false := by simpa using c29
            (try (have c29b1 : decide (t181 = t182) = false := by simpa using c29))
            (try (have c29b2 : (t181 == t182) = false := by simpa using c29))
            (try (have c29b3 : ¬ (t181 = t182) := by simpa using c29))
            clear c29
            exact absurd ((Option.some.inj H).trans HR.out) (by decide)
  · replace c6 := Bool.eq_false_iff.mpr c6
    subst c6
    exact absurd (billiardlaw08_awake.only A5.out) (by decide)

/-- THE ONE PURE STATEMENT of billiardlaw08_BoxMatchesReference: yours. -/
def billiardlaw08_BoxMatchesReference.Pure : Prop := ∀ (a0_0 : Int) (a0_1 : Int) (a0_2 : Int) (a0_3 : Int) (a0_4 : Int) (a0_5 : Int) (a0_6 : Int) (a0_7 : Int) (a0_8 : Int) (a0_9 : Int) (a1_0 : Int) (a1_1 : Int) (a1_2 : Int) (a1_3 : Int) (a2_0 : Int) (a2_1 : Int) (a2_2 : Int) (a2_3 : Int) (a3_0 : Int) (a3_1 : Int), (Lit.int .u32 a0_0).wf = true → (Lit.int .i32 a0_1).wf = true → (Lit.int .i32 a0_2).wf = true → (Lit.int .i32 a0_3).wf = true → (Lit.int .i32 a0_4).wf = true → (Lit.int .i32 a0_5).wf = true → (Lit.int .i32 a0_6).wf = true → (Lit.int .i32 a0_7).wf = true → (Lit.int .i32 a0_8).wf = true → (Lit.int .i32 a0_9).wf = true → (Lit.int .i32 a1_0).wf = true → (Lit.int .i32 a1_1).wf = true → (Lit.int .i32 a1_2).wf = true → (Lit.int .i32 a1_3).wf = true → (Lit.int .i32 a2_0).wf = true → (Lit.int .i32 a2_1).wf = true → (Lit.int .i32 a2_2).wf = true → (Lit.int .i32 a2_3).wf = true → (Lit.int .i32 a3_0).wf = true → (Lit.int .i32 a3_1).wf = true → ∃ k, billiardlaw08_BoxMatchesReference.f k a0_0 a0_1 a0_2 a0_3 a0_4 a0_5 a0_6 a0_7 a0_8 a0_9 a1_0 a1_1 a1_2 a1_3 a2_0 a2_1 a2_2 a2_3 a3_0 a3_1 = some true
theorem billiardlaw08_BoxMatchesReference.walk (P : billiardlaw08_BoxMatchesReference.Pure) (a0_0 : Int) (a0_1 : Int) (a0_2 : Int) (a0_3 : Int) (a0_4 : Int) (a0_5 : Int) (a0_6 : Int) (a0_7 : Int) (a0_8 : Int) (a0_9 : Int) (a1_0 : Int) (a1_1 : Int) (a1_2 : Int) (a1_3 : Int) (a2_0 : Int) (a2_1 : Int) (a2_2 : Int) (a2_3 : Int) (a3_0 : Int) (a3_1 : Int) (w : World) (w0_0 : (Lit.int .u32 a0_0).wf = true) (w0_1 : (Lit.int .i32 a0_1).wf = true) (w0_2 : (Lit.int .i32 a0_2).wf = true) (w0_3 : (Lit.int .i32 a0_3).wf = true) (w0_4 : (Lit.int .i32 a0_4).wf = true) (w0_5 : (Lit.int .i32 a0_5).wf = true) (w0_6 : (Lit.int .i32 a0_6).wf = true) (w0_7 : (Lit.int .i32 a0_7).wf = true) (w0_8 : (Lit.int .i32 a0_8).wf = true) (w0_9 : (Lit.int .i32 a0_9).wf = true) (w1_0 : (Lit.int .i32 a1_0).wf = true) (w1_1 : (Lit.int .i32 a1_1).wf = true) (w1_2 : (Lit.int .i32 a1_2).wf = true) (w1_3 : (Lit.int .i32 a1_3).wf = true) (w2_0 : (Lit.int .i32 a2_0).wf = true) (w2_1 : (Lit.int .i32 a2_1).wf = true) (w2_2 : (Lit.int .i32 a2_2).wf = true) (w2_3 : (Lit.int .i32 a2_3).wf = true) (w3_0 : (Lit.int .i32 a3_0).wf = true) (w3_1 : (Lit.int .i32 a3_1).wf = true) (HGN0 : GlobN w) :
    Calls Tryd.prog 3 #[.agg #[.int .u32 a0_0, .int .i32 a0_1, .int .i32 a0_2, .int .i32 a0_3, .int .i32 a0_4, .int .i32 a0_5, .int .i32 a0_6, .int .i32 a0_7, .int .i32 a0_8, .int .i32 a0_9], .agg #[.int .i32 a1_0, .int .i32 a1_1, .int .i32 a1_2, .int .i32 a1_3], .agg #[.int .i32 a2_0, .int .i32 a2_1, .int .i32 a2_2, .int .i32 a2_3], .agg #[.int .i32 a3_0, .int .i32 a3_1]] w fun e w' => e = .returned (.bool true) ∧ Below w.heap.size w w' := by
  obtain ⟨k, h⟩ := P a0_0 a0_1 a0_2 a0_3 a0_4 a0_5 a0_6 a0_7 a0_8 a0_9 a1_0 a1_1 a1_2 a1_3 a2_0 a2_1 a2_2 a2_3 a3_0 a3_1 w0_0 w0_1 w0_2 w0_3 w0_4 w0_5 w0_6 w0_7 w0_8 w0_9 w1_0 w1_1 w1_2 w1_3 w2_0 w2_1 w2_2 w2_3 w3_0 w3_1
  refine (billiardlaw08_BoxMatchesReference.calls k a0_0 a0_1 a0_2 a0_3 a0_4 a0_5 a0_6 a0_7 a0_8 a0_9 a1_0 a1_1 a1_2 a1_3 a2_0 a2_1 a2_2 a2_3 a3_0 a3_1 true w h rfl HGN0).mono ?_
  rintro e w' ⟨rfl, hd⟩
  exact ⟨rfl, hd⟩

end Go.Proofs.YtniiffbcdjoelaaDoor.Q
