-- PRINTED by print.py (a twelfth state) out of the translation. Not trusted: Lean checks it.
import Derived.Test.YtjgeakahbelgiaaQ0
import Derived.Test.YtjgeakahbelgiaaQE0
import Derived.Test.YtjgeakahbelgiaaQbilliardlaw04
import Derived.Test.YtjgeakahbelgiaaQbilliardref02
import Derived.Test.YtjgeakahbelgiaaQbilliardref04
import Derived.Test.YtjgeakahbelgiaaQvec
namespace Go.Proofs.Ytjgeakahbelgiaa.Q
open Go.RowKit Go.Proofs.YtjgeakahbelgiaaW.PrintWords Go.Proofs.YtjgeakahbelgiaaW.PrintLast Go.Proofs.YtjgeakahbelgiaaW.PrintMore
open Go.Proofs.YtjgeakahbelgiaaW.PrintWords renaming blk_drewN → bN, blk_drew → bD, blk_alloc → bA, blk_below → bB, blk_cell → bC, blk_frozen → bF, blk_far → bR, blk_lt → bL, blk_put → bP, cell_far → cF, below_alloc → lA, pw_below_drewN → lN, below_drew1 → lD, below_set → lS, below_step → lT, below_size → lZ, Aside0.mk → aM
open List renaming setIfInBounds_toArray → sA, set_cons_zero → sB, set_cons_succ → sC
open Bool renaming true → T, false → F
attribute [local go_sem] max2_int min2_int max_two min_two max_three min_three max_four min_four   -- for this text's walks alone
set_option linter.unusedVariables false
set_option linter.unusedSimpArgs false

attribute [local go_sem high] eqA25
/-! ### billiardlaw04_VecMatchesReference: function 7 -/
mutual
def billiardlaw04_VecMatchesReference.j0 : Nat → Int → Int → Bool → Int → Int → Int → Int → Option (Bool)
 | 0, _, _, _, _, _, _, _ => none
 | k + 1, x3, x4, x74, x203000, x203001, x204000, x204001 => if x74 = true then (some false) else ((vec_Diff.f x203000 x203001 x204000 x204001).bind fun bt225 => (if bt225.1 = (wrap64 ((wrap64 (x204000)) - (wrap64 (x203000)))) then (billiardlaw04_VecMatchesReference.j1 k x3 x4 (bt225.2 != (wrap64 ((wrap64 (x204001)) - (wrap64 (x203001))))) x203000 x203001 x204000 x204001) else (billiardlaw04_VecMatchesReference.j1 k x3 x4 true x203000 x203001 x204000 x204001)))
def billiardlaw04_VecMatchesReference.j1 : Nat → Int → Int → Bool → Int → Int → Int → Int → Option (Bool)
 | 0, _, _, _, _, _, _, _ => none
 | k + 1, x3, x4, x100, x203000, x203001, x204000, x204001 => if x100 = true then (some false) else (if x203000 > (-2147483648) then (if x203001 > (-2147483648) then (if x204000 > (-2147483648) then (billiardlaw04_VecMatchesReference.j2 k x3 x4 (decide (x204001 > (-2147483648))) x203000 x203001 x204000 x204001) else (billiardlaw04_VecMatchesReference.j2 k x3 x4 false x203000 x203001 x204000 x204001)) else (billiardlaw04_VecMatchesReference.j2 k x3 x4 false x203000 x203001 x204000 x204001)) else (billiardlaw04_VecMatchesReference.j2 k x3 x4 false x203000 x203001 x204000 x204001))
def billiardlaw04_VecMatchesReference.j2 : Nat → Int → Int → Bool → Int → Int → Int → Int → Option (Bool)
 | 0, _, _, _, _, _, _, _ => none
 | k + 1, x3, x4, x118, x203000, x203001, x204000, x204001 => if x118 = true then ((vec_Dot.f x203000 x203001 x204000 x204001).bind fun t227 => (if t227 = (wrap64 ((wrap64 ((wrap64 (x203000)) * (wrap64 (x204000)))) + (wrap64 ((wrap64 (x203001)) * (wrap64 (x204001)))))) then ((vec_Cross.f x203000 x203001 x204000 x204001).bind fun t228 => (if t228 = (wrap64 ((wrap64 ((wrap64 (x203000)) * (wrap64 (x204001)))) - (wrap64 ((wrap64 (x203001)) * (wrap64 (x204000)))))) then (billiardlaw04_VecMatchesReference.j3 k x3 x4) else (some false))) else (some false))) else (billiardlaw04_VecMatchesReference.j3 k x3 x4)
def billiardlaw04_VecMatchesReference.j3 : Nat → Int → Int → Option (Bool)
 | 0, _, _ => none
 | k + 1, x3, x4 => (billiardref04_In.f x3).bind fun t229 => (if t229 = true then ((billiardref04_In.f x4).bind fun t230 => (billiardlaw04_VecMatchesReference.j4 k x3 x4 (!t230))) else (billiardlaw04_VecMatchesReference.j4 k x3 x4 true))
def billiardlaw04_VecMatchesReference.j4 : Nat → Int → Int → Bool → Option (Bool)
 | 0, _, _, _ => none
 | k + 1, x3, x4, x166 => if x166 = true then (some true) else ((vec_LengthSq.f x3 x4).bind fun t231 => ((billiardref04_LengthSq.f x3 x4).bind fun t232 => (if t231 = t232 then ((vec_Length.f k x3 x4).bind fun t233 => ((billiardref04_Length.f k x3 x4).bind fun t234 => (if t233 = t234 then ((vec_Unit.f k x3 x4).bind fun bt235 => ((billiardref04_Unit.f k x3 x4).bind fun bt237 => (some (bt235.1 == bt237.1 && (bt235.2 == bt237.2))))) else (some false)))) else (some false))))
end
def billiardlaw04_VecMatchesReference.f (k : Nat) (a0_0 : Int) (a0_1 : Int) (a1_0 : Int) (a1_1 : Int) (a2 : Int) (a3 : Int) (a4 : Int) : Option (Bool) := (billiardlaw04_awake.f k).bind fun t204 => (if t204 = true then ((billiardref04_Neg.f a1_0 a1_1).bind fun bt205 => ((billiardref02_Saturate.f (wrap64 ((wrap64 (a0_0)) - (wrap64 (a1_0))))).bind fun t208 => ((billiardref02_Saturate.f (wrap64 ((wrap64 (a0_1)) - (wrap64 (a1_1))))).bind fun t209 => ((vec_Add.f a0_0 a0_1 a1_0 a1_1).bind fun bt211 => ((billiardref04_Add.f a0_0 a0_1 a1_0 a1_1).bind fun bt213 => (if (!(bt211.1 == bt213.1) || (!(bt211.2 == bt213.2))) = true then (billiardlaw04_VecMatchesReference.j0 k a3 a4 true a0_0 a0_1 a1_0 a1_1) else ((vec_Sub.f a0_0 a0_1 a1_0 a1_1).bind fun bt215 => (if (!(bt215.1 == t208) || (!(bt215.2 == t209))) = true then (billiardlaw04_VecMatchesReference.j0 k a3 a4 true a0_0 a0_1 a1_0 a1_1) else ((vec_Neg.f a1_0 a1_1).bind fun bt217 => (if (!(bt217.1 == bt205.1) || (!(bt217.2 == bt205.2))) = true then (billiardlaw04_VecMatchesReference.j0 k a3 a4 true a0_0 a0_1 a1_0 a1_1) else ((vec_Scale.f a0_0 a0_1 a2).bind fun bt219 => ((billiardref04_Scale.f a0_0 a0_1 a2).bind fun bt221 => (if (!(bt219.1 == bt221.1) || (!(bt219.2 == bt221.2))) = true then (billiardlaw04_VecMatchesReference.j0 k a3 a4 true a0_0 a0_1 a1_0 a1_1) else ((vec_Perp.f a1_0 a1_1).bind fun bt223 => (billiardlaw04_VecMatchesReference.j0 k a3 a4 (!(bt223.1 == bt205.2) || (!(bt223.2 == a1_0))) a0_0 a0_1 a1_0 a1_1))))))))))))))) else (some false))
theorem billiardlaw04_VecMatchesReference.mono_l : ∀ k, (∀ y0 y1 y2 y3 y4 y5 y6, LeO (billiardlaw04_VecMatchesReference.j0 k y0 y1 y2 y3 y4 y5 y6) (billiardlaw04_VecMatchesReference.j0 (k + 1) y0 y1 y2 y3 y4 y5 y6)) ∧ (∀ y0 y1 y2 y3 y4 y5 y6, LeO (billiardlaw04_VecMatchesReference.j1 k y0 y1 y2 y3 y4 y5 y6) (billiardlaw04_VecMatchesReference.j1 (k + 1) y0 y1 y2 y3 y4 y5 y6)) ∧ (∀ y0 y1 y2 y3 y4 y5 y6, LeO (billiardlaw04_VecMatchesReference.j2 k y0 y1 y2 y3 y4 y5 y6) (billiardlaw04_VecMatchesReference.j2 (k + 1) y0 y1 y2 y3 y4 y5 y6)) ∧ (∀ y0 y1, LeO (billiardlaw04_VecMatchesReference.j3 k y0 y1) (billiardlaw04_VecMatchesReference.j3 (k + 1) y0 y1)) ∧ (∀ y0 y1 y2, LeO (billiardlaw04_VecMatchesReference.j4 k y0 y1 y2) (billiardlaw04_VecMatchesReference.j4 (k + 1) y0 y1 y2))
 | 0 => ⟨fun _ _ _ _ _ _ _ r h => by simp [billiardlaw04_VecMatchesReference.j0] at h, fun _ _ _ _ _ _ _ r h => by simp [billiardlaw04_VecMatchesReference.j1] at h, fun _ _ _ _ _ _ _ r h => by simp [billiardlaw04_VecMatchesReference.j2] at h, fun _ _ r h => by simp [billiardlaw04_VecMatchesReference.j3] at h, fun _ _ _ r h => by simp [billiardlaw04_VecMatchesReference.j4] at h⟩
 | k + 1 => by
  obtain ⟨ih0, ih1, ih2, ih3, ih4⟩ := billiardlaw04_VecMatchesReference.mono_l k
  refine ⟨?_, ?_, ?_, ?_, ?_⟩
  ·intro y0 y1 y2 y3 y4 y5 y6
   unfold billiardlaw04_VecMatchesReference.j0
   repeat' first
   | (with_reducible exact ih0 _ _ _ _ _ _ _)
   | (with_reducible exact ih1 _ _ _ _ _ _ _)
   | (with_reducible exact ih2 _ _ _ _ _ _ _)
   | (with_reducible exact ih3 _ _)
   | (with_reducible exact ih4 _ _ _)
   | (with_reducible exact billiardlaw04_awake.mono _)
   | (with_reducible exact billiardref04_Length.mono _ _ _)
   | (with_reducible exact billiardref04_Unit.mono _ _ _)
   | (with_reducible exact vec_Length.mono _ _ _)
   | (with_reducible exact vec_Unit.mono _ _ _)
   | (with_reducible exact LeO.refl _)
   | (with_reducible exact LeO.none _)
   | (with_reducible refine LeO.ite ?_ ?_)
   | (with_reducible refine LeO.bind ?_ (fun _ => ?_))
   | exact ih0 _ _ _ _ _ _ _
   | exact ih1 _ _ _ _ _ _ _
   | exact ih2 _ _ _ _ _ _ _
   | exact ih3 _ _
   | exact ih4 _ _ _
   | exact billiardlaw04_awake.mono _
   | exact billiardref04_Length.mono _ _ _
   | exact billiardref04_Unit.mono _ _ _
   | exact vec_Length.mono _ _ _
   | exact vec_Unit.mono _ _ _
   | exact LeO.none _
   | refine LeO.ite ?_ ?_
   | refine LeO.bind ?_ (fun _ => ?_)
  ·intro y0 y1 y2 y3 y4 y5 y6
   unfold billiardlaw04_VecMatchesReference.j1
   repeat' first
   | (with_reducible exact ih0 _ _ _ _ _ _ _)
   | (with_reducible exact ih1 _ _ _ _ _ _ _)
   | (with_reducible exact ih2 _ _ _ _ _ _ _)
   | (with_reducible exact ih3 _ _)
   | (with_reducible exact ih4 _ _ _)
   | (with_reducible exact billiardlaw04_awake.mono _)
   | (with_reducible exact billiardref04_Length.mono _ _ _)
   | (with_reducible exact billiardref04_Unit.mono _ _ _)
   | (with_reducible exact vec_Length.mono _ _ _)
   | (with_reducible exact vec_Unit.mono _ _ _)
   | (with_reducible exact LeO.refl _)
   | (with_reducible exact LeO.none _)
   | (with_reducible refine LeO.ite ?_ ?_)
   | (with_reducible refine LeO.bind ?_ (fun _ => ?_))
   | exact ih0 _ _ _ _ _ _ _
   | exact ih1 _ _ _ _ _ _ _
   | exact ih2 _ _ _ _ _ _ _
   | exact ih3 _ _
   | exact ih4 _ _ _
   | exact billiardlaw04_awake.mono _
   | exact billiardref04_Length.mono _ _ _
   | exact billiardref04_Unit.mono _ _ _
   | exact vec_Length.mono _ _ _
   | exact vec_Unit.mono _ _ _
   | exact LeO.none _
   | refine LeO.ite ?_ ?_
   | refine LeO.bind ?_ (fun _ => ?_)
  ·intro y0 y1 y2 y3 y4 y5 y6
   unfold billiardlaw04_VecMatchesReference.j2
   repeat' first
   | (with_reducible exact ih0 _ _ _ _ _ _ _)
   | (with_reducible exact ih1 _ _ _ _ _ _ _)
   | (with_reducible exact ih2 _ _ _ _ _ _ _)
   | (with_reducible exact ih3 _ _)
   | (with_reducible exact ih4 _ _ _)
   | (with_reducible exact billiardlaw04_awake.mono _)
   | (with_reducible exact billiardref04_Length.mono _ _ _)
   | (with_reducible exact billiardref04_Unit.mono _ _ _)
   | (with_reducible exact vec_Length.mono _ _ _)
   | (with_reducible exact vec_Unit.mono _ _ _)
   | (with_reducible exact LeO.refl _)
   | (with_reducible exact LeO.none _)
   | (with_reducible refine LeO.ite ?_ ?_)
   | (with_reducible refine LeO.bind ?_ (fun _ => ?_))
   | exact ih0 _ _ _ _ _ _ _
   | exact ih1 _ _ _ _ _ _ _
   | exact ih2 _ _ _ _ _ _ _
   | exact ih3 _ _
   | exact ih4 _ _ _
   | exact billiardlaw04_awake.mono _
   | exact billiardref04_Length.mono _ _ _
   | exact billiardref04_Unit.mono _ _ _
   | exact vec_Length.mono _ _ _
   | exact vec_Unit.mono _ _ _
   | exact LeO.none _
   | refine LeO.ite ?_ ?_
   | refine LeO.bind ?_ (fun _ => ?_)
  ·intro y0 y1
   unfold billiardlaw04_VecMatchesReference.j3
   repeat' first
   | (with_reducible exact ih0 _ _ _ _ _ _ _)
   | (with_reducible exact ih1 _ _ _ _ _ _ _)
   | (with_reducible exact ih2 _ _ _ _ _ _ _)
   | (with_reducible exact ih3 _ _)
   | (with_reducible exact ih4 _ _ _)
   | (with_reducible exact billiardlaw04_awake.mono _)
   | (with_reducible exact billiardref04_Length.mono _ _ _)
   | (with_reducible exact billiardref04_Unit.mono _ _ _)
   | (with_reducible exact vec_Length.mono _ _ _)
   | (with_reducible exact vec_Unit.mono _ _ _)
   | (with_reducible exact LeO.refl _)
   | (with_reducible exact LeO.none _)
   | (with_reducible refine LeO.ite ?_ ?_)
   | (with_reducible refine LeO.bind ?_ (fun _ => ?_))
   | exact ih0 _ _ _ _ _ _ _
   | exact ih1 _ _ _ _ _ _ _
   | exact ih2 _ _ _ _ _ _ _
   | exact ih3 _ _
   | exact ih4 _ _ _
   | exact billiardlaw04_awake.mono _
   | exact billiardref04_Length.mono _ _ _
   | exact billiardref04_Unit.mono _ _ _
   | exact vec_Length.mono _ _ _
   | exact vec_Unit.mono _ _ _
   | exact LeO.none _
   | refine LeO.ite ?_ ?_
   | refine LeO.bind ?_ (fun _ => ?_)
  ·intro y0 y1 y2
   unfold billiardlaw04_VecMatchesReference.j4
   repeat' first
   | (with_reducible exact ih0 _ _ _ _ _ _ _)
   | (with_reducible exact ih1 _ _ _ _ _ _ _)
   | (with_reducible exact ih2 _ _ _ _ _ _ _)
   | (with_reducible exact ih3 _ _)
   | (with_reducible exact ih4 _ _ _)
   | (with_reducible exact billiardlaw04_awake.mono _)
   | (with_reducible exact billiardref04_Length.mono _ _ _)
   | (with_reducible exact billiardref04_Unit.mono _ _ _)
   | (with_reducible exact vec_Length.mono _ _ _)
   | (with_reducible exact vec_Unit.mono _ _ _)
   | (with_reducible exact LeO.refl _)
   | (with_reducible exact LeO.none _)
   | (with_reducible refine LeO.ite ?_ ?_)
   | (with_reducible refine LeO.bind ?_ (fun _ => ?_))
   | exact ih0 _ _ _ _ _ _ _
   | exact ih1 _ _ _ _ _ _ _
   | exact ih2 _ _ _ _ _ _ _
   | exact ih3 _ _
   | exact ih4 _ _ _
   | exact billiardlaw04_awake.mono _
   | exact billiardref04_Length.mono _ _ _
   | exact billiardref04_Unit.mono _ _ _
   | exact vec_Length.mono _ _ _
   | exact vec_Unit.mono _ _ _
   | exact LeO.none _
   | refine LeO.ite ?_ ?_
   | refine LeO.bind ?_ (fun _ => ?_)
theorem billiardlaw04_VecMatchesReference.mono : ∀ a0 a1 a2 a3 a4 a5 a6 k, LeO (billiardlaw04_VecMatchesReference.f k a0 a1 a2 a3 a4 a5 a6) (billiardlaw04_VecMatchesReference.f (k + 1) a0 a1 a2 a3 a4 a5 a6) := by
 intro a0 a1 a2 a3 a4 a5 a6 k
 obtain ⟨ih0, ih1, ih2, ih3, ih4⟩ := billiardlaw04_VecMatchesReference.mono_l k
 unfold billiardlaw04_VecMatchesReference.f
 repeat' first
   | (with_reducible exact ih0 _ _ _ _ _ _ _)
   | (with_reducible exact ih1 _ _ _ _ _ _ _)
   | (with_reducible exact ih2 _ _ _ _ _ _ _)
   | (with_reducible exact ih3 _ _)
   | (with_reducible exact ih4 _ _ _)
   | (with_reducible exact billiardlaw04_awake.mono _)
   | (with_reducible exact billiardref04_Length.mono _ _ _)
   | (with_reducible exact billiardref04_Unit.mono _ _ _)
   | (with_reducible exact vec_Length.mono _ _ _)
   | (with_reducible exact vec_Unit.mono _ _ _)
   | (with_reducible exact LeO.refl _)
   | (with_reducible exact LeO.none _)
   | (with_reducible refine LeO.ite ?_ ?_)
   | (with_reducible refine LeO.bind ?_ (fun _ => ?_))
   | exact ih0 _ _ _ _ _ _ _
   | exact ih1 _ _ _ _ _ _ _
   | exact ih2 _ _ _ _ _ _ _
   | exact ih3 _ _
   | exact ih4 _ _ _
   | exact billiardlaw04_awake.mono _
   | exact billiardref04_Length.mono _ _ _
   | exact billiardref04_Unit.mono _ _ _
   | exact vec_Length.mono _ _ _
   | exact vec_Unit.mono _ _ _
   | exact LeO.none _
   | refine LeO.ite ?_ ?_
   | refine LeO.bind ?_ (fun _ => ?_)
def billiardlaw04_VecMatchesReference.T4 : Bool × List (List Nat × List Nat) := (true, [([], []), ([0], [0]), ([1], [1]), ([], []), ([3], [3]), ([4], [4]), ([2, 5], [2, 5]), ([6], [6]), ([], []), ([8], [8]), ([9], [9]), ([], []), ([11], [11]), ([12], [12]), ([10, 13], [10, 13]), ([14, 7], [14]), ([7, 15], [7, 15]), ([], []), ([17, 16, 15, 0, 1, 2, 3, 4, 5, 6, 7, 8, 9, 10, 11, 12, 13, 14, 15, 16, 17], [16, 17])])
def billiardlaw04_VecMatchesReference.B4 : List Nat := [0, 1, 3, 0, 8, 24, 63, 127, 0, 256, 768, 0, 2048, 6144, 16128, 32767, 65535, 0, 262143]
theorem billiardlaw04_VecMatchesReference.tab4 : rtab .any (opsOf Try.f7 4) = billiardlaw04_VecMatchesReference.T4 := by kernel_rfl
theorem billiardlaw04_VecMatchesReference.bits4 : waitsOk billiardlaw04_VecMatchesReference.T4.2 billiardlaw04_VecMatchesReference.B4 = true := by kernel_rfl
def billiardlaw04_VecMatchesReference.T5 : Bool × List (List Nat × List Nat) := (true, [([], []), ([], []), ([0, 1], [0, 1]), ([], []), ([], []), ([3, 4, 2], [3, 4]), ([2, 5], [2, 5]), ([6, 5], [6]), ([7], [7]), ([7], [7]), ([8, 9, 7, 7], [7, 8, 9]), ([7], [7]), ([10, 11, 7], [7, 10, 11]), ([7, 12], [7, 12]), ([13, 10], [13]), ([14], [14]), ([15, 14, 14], [14, 15]), ([14], [14]), ([16, 17, 14], [14, 16, 17]), ([14, 18], [14, 18]), ([19, 16], [19]), ([20], [20]), ([20], [20]), ([21, 22, 20, 20], [20, 21, 22]), ([20], [20]), ([20], [20]), ([24, 25, 23, 20], [20, 24, 25]), ([23, 26, 20], [20, 23, 26]), ([20, 27], [20, 27]), ([28, 26], [28]), ([29], [29]), ([30, 29, 29], [29, 30]), ([29], [29]), ([32, 29], [29, 32]), ([29], [29]), ([34, 29], [29, 34]), ([33, 35, 29], [29, 33, 35]), ([31, 36, 29], [29, 31, 36]), ([29, 37], [29, 37])])
def billiardlaw04_VecMatchesReference.B5 : List Nat := [0, 0, 3, 0, 0, 31, 63, 127, 255, 255, 1023, 255, 4095, 8191, 16383, 32767, 65535, 32767, 262143, 524287, 1048575, 2097151, 2097151, 8388607, 2097151, 2097151, 67108863, 134217727, 268435455, 536870911, 1073741823, 2147483647, 1073741823, 5368709119, 1073741823, 18253611007, 65498251263, 137438953471, 274877906943]
theorem billiardlaw04_VecMatchesReference.tab5 : rtab .any (opsOf Try.f7 5) = billiardlaw04_VecMatchesReference.T5 := by kernel_rfl
theorem billiardlaw04_VecMatchesReference.bits5 : waitsOk billiardlaw04_VecMatchesReference.T5.2 billiardlaw04_VecMatchesReference.B5 = true := by kernel_rfl
def billiardlaw04_VecMatchesReference.T11 : Bool × List (List Nat × List Nat) := (true, [([], []), ([], []), ([0, 1], [0, 1]), ([], []), ([3], [3]), ([4], [4]), ([], []), ([6], [6]), ([7], [7]), ([5, 8], [5, 8]), ([], []), ([10], [10]), ([11], [11]), ([], []), ([13], [13]), ([14], [14]), ([12, 15], [12, 15]), ([9, 16], [9, 16]), ([2, 17], [2, 17]), ([18, 2], [18]), ([19], [19]), ([19], [19]), ([20, 21, 19, 19], [19, 20, 21]), ([19], [19]), ([23, 19], [19, 23]), ([24, 19], [19, 24]), ([19], [19]), ([26, 19], [19, 26]), ([27, 19], [19, 27]), ([25, 28, 19], [19, 25, 28]), ([19], [19]), ([30, 19], [19, 30]), ([31, 19], [19, 31]), ([19], [19]), ([33, 19], [19, 33]), ([34, 19], [19, 34]), ([32, 35, 19], [19, 32, 35]), ([29, 36, 19], [19, 29, 36]), ([22, 37, 19], [19, 22, 37]), ([19, 38], [19, 38])])
def billiardlaw04_VecMatchesReference.B11 : List Nat := [0, 0, 3, 0, 8, 24, 0, 64, 192, 504, 0, 1024, 3072, 0, 8192, 24576, 64512, 131064, 262143, 524287, 1048575, 1048575, 4194303, 1048575, 9437183, 26214399, 1048575, 68157439, 202375167, 529530879, 1048575, 1074790399, 3222274047, 1048575, 8590983167, 25770852351, 67646783487, 137431613439, 274877906943, 549755813887]
theorem billiardlaw04_VecMatchesReference.tab11 : rtab .any (opsOf Try.f7 11) = billiardlaw04_VecMatchesReference.T11 := by kernel_rfl
theorem billiardlaw04_VecMatchesReference.bits11 : waitsOk billiardlaw04_VecMatchesReference.T11.2 billiardlaw04_VecMatchesReference.B11 = true := by kernel_rfl
set_option maxHeartbeats 8000000 in
set_option maxRecDepth 100000 in
theorem billiardlaw04_VecMatchesReference.calls (k : Nat) (a0_0 : Int) (a0_1 : Int) (a1_0 : Int) (a1_1 : Int) (a2 : Int) (a3 : Int) (a4 : Int) (r : Bool) (w : World) (h : billiardlaw04_VecMatchesReference.f k a0_0 a0_1 a1_0 a1_1 a2 a3 a4 = some r) (hr : r = true) :
  Calls Try.prog 7 #[.agg #[.int .i32 a0_0, .int .i32 a0_1], .agg #[.int .i32 a1_0, .int .i32 a1_1], .int .i32 a2, .int .i64 a3, .int .i64 a4] w fun e w' => e = .returned (.bool r) ∧ Below w.heap.size w w' := by
 have HR := aM hr
 clear hr
 have hu25 := Try.underlying25
 have HB := aM (Below.refl w.heap.size w)
 have H : ((billiardlaw04_awake.f k).bind fun t204 => (if t204 = true then ((billiardref04_Neg.f a1_0 a1_1).bind fun bt205 => ((billiardref02_Saturate.f (wrap64 ((wrap64 (a0_0)) - (wrap64 (a1_0))))).bind fun t208 => ((billiardref02_Saturate.f (wrap64 ((wrap64 (a0_1)) - (wrap64 (a1_1))))).bind fun t209 => ((vec_Add.f a0_0 a0_1 a1_0 a1_1).bind fun bt211 => ((billiardref04_Add.f a0_0 a0_1 a1_0 a1_1).bind fun bt213 => (if (!(bt211.1 == bt213.1) || (!(bt211.2 == bt213.2))) = true then (billiardlaw04_VecMatchesReference.j0 k a3 a4 true a0_0 a0_1 a1_0 a1_1) else ((vec_Sub.f a0_0 a0_1 a1_0 a1_1).bind fun bt215 => (if (!(bt215.1 == t208) || (!(bt215.2 == t209))) = true then (billiardlaw04_VecMatchesReference.j0 k a3 a4 true a0_0 a0_1 a1_0 a1_1) else ((vec_Neg.f a1_0 a1_1).bind fun bt217 => (if (!(bt217.1 == bt205.1) || (!(bt217.2 == bt205.2))) = true then (billiardlaw04_VecMatchesReference.j0 k a3 a4 true a0_0 a0_1 a1_0 a1_1) else ((vec_Scale.f a0_0 a0_1 a2).bind fun bt219 => ((billiardref04_Scale.f a0_0 a0_1 a2).bind fun bt221 => (if (!(bt219.1 == bt221.1) || (!(bt219.2 == bt221.2))) = true then (billiardlaw04_VecMatchesReference.j0 k a3 a4 true a0_0 a0_1 a1_0 a1_1) else ((vec_Perp.f a1_0 a1_1).bind fun bt223 => (billiardlaw04_VecMatchesReference.j0 k a3 a4 (!(bt223.1 == bt205.2) || (!(bt223.2 == a1_0))) a0_0 a0_1 a1_0 a1_1))))))))))))))) else (some false))) = some r := h
 clear h
 replace H := Option.bind_eq_some_iff.mp H
 obtain ⟨t204, A60, H⟩ := H
 replace H : (if t204 = true then ((billiardref04_Neg.f a1_0 a1_1).bind fun bt205 => ((billiardref02_Saturate.f (wrap64 ((wrap64 (a0_0)) - (wrap64 (a1_0))))).bind fun t208 => ((billiardref02_Saturate.f (wrap64 ((wrap64 (a0_1)) - (wrap64 (a1_1))))).bind fun t209 => ((vec_Add.f a0_0 a0_1 a1_0 a1_1).bind fun bt211 => ((billiardref04_Add.f a0_0 a0_1 a1_0 a1_1).bind fun bt213 => (if (!(bt211.1 == bt213.1) || (!(bt211.2 == bt213.2))) = true then (billiardlaw04_VecMatchesReference.j0 k a3 a4 true a0_0 a0_1 a1_0 a1_1) else ((vec_Sub.f a0_0 a0_1 a1_0 a1_1).bind fun bt215 => (if (!(bt215.1 == t208) || (!(bt215.2 == t209))) = true then (billiardlaw04_VecMatchesReference.j0 k a3 a4 true a0_0 a0_1 a1_0 a1_1) else ((vec_Neg.f a1_0 a1_1).bind fun bt217 => (if (!(bt217.1 == bt205.1) || (!(bt217.2 == bt205.2))) = true then (billiardlaw04_VecMatchesReference.j0 k a3 a4 true a0_0 a0_1 a1_0 a1_1) else ((vec_Scale.f a0_0 a0_1 a2).bind fun bt219 => ((billiardref04_Scale.f a0_0 a0_1 a2).bind fun bt221 => (if (!(bt219.1 == bt221.1) || (!(bt219.2 == bt221.2))) = true then (billiardlaw04_VecMatchesReference.j0 k a3 a4 true a0_0 a0_1 a1_0 a1_1) else ((vec_Perp.f a1_0 a1_1).bind fun bt223 => (billiardlaw04_VecMatchesReference.j0 k a3 a4 (!(bt223.1 == bt205.2) || (!(bt223.2 == a1_0))) a0_0 a0_1 a1_0 a1_1))))))))))))))) else (some false)) = some r := H
 have A6 := aM A60
 clear A60
 by_cases c7 : t204 = true
 ·subst c7
  have H1 : ((billiardref04_Neg.f a1_0 a1_1).bind fun bt205 => ((billiardref02_Saturate.f (wrap64 ((wrap64 (a0_0)) - (wrap64 (a1_0))))).bind fun t208 => ((billiardref02_Saturate.f (wrap64 ((wrap64 (a0_1)) - (wrap64 (a1_1))))).bind fun t209 => ((vec_Add.f a0_0 a0_1 a1_0 a1_1).bind fun bt211 => ((billiardref04_Add.f a0_0 a0_1 a1_0 a1_1).bind fun bt213 => (if (!(bt211.1 == bt213.1) || (!(bt211.2 == bt213.2))) = true then (billiardlaw04_VecMatchesReference.j0 k a3 a4 true a0_0 a0_1 a1_0 a1_1) else ((vec_Sub.f a0_0 a0_1 a1_0 a1_1).bind fun bt215 => (if (!(bt215.1 == t208) || (!(bt215.2 == t209))) = true then (billiardlaw04_VecMatchesReference.j0 k a3 a4 true a0_0 a0_1 a1_0 a1_1) else ((vec_Neg.f a1_0 a1_1).bind fun bt217 => (if (!(bt217.1 == bt205.1) || (!(bt217.2 == bt205.2))) = true then (billiardlaw04_VecMatchesReference.j0 k a3 a4 true a0_0 a0_1 a1_0 a1_1) else ((vec_Scale.f a0_0 a0_1 a2).bind fun bt219 => ((billiardref04_Scale.f a0_0 a0_1 a2).bind fun bt221 => (if (!(bt219.1 == bt221.1) || (!(bt219.2 == bt221.2))) = true then (billiardlaw04_VecMatchesReference.j0 k a3 a4 true a0_0 a0_1 a1_0 a1_1) else ((vec_Perp.f a1_0 a1_1).bind fun bt223 => (billiardlaw04_VecMatchesReference.j0 k a3 a4 (!(bt223.1 == bt205.2) || (!(bt223.2 == a1_0))) a0_0 a0_1 a1_0 a1_1))))))))))))))) = some r := by rw [if_pos rfl] at H; exact H
  clear H
  have H := H1
  clear H1
  replace H := Option.bind_eq_some_iff.mp H
  obtain ⟨⟨t205, t206⟩, A80, H⟩ := H
  replace H : ((billiardref02_Saturate.f (wrap64 ((wrap64 (a0_0)) - (wrap64 (a1_0))))).bind fun t208 => ((billiardref02_Saturate.f (wrap64 ((wrap64 (a0_1)) - (wrap64 (a1_1))))).bind fun t209 => ((vec_Add.f a0_0 a0_1 a1_0 a1_1).bind fun bt211 => ((billiardref04_Add.f a0_0 a0_1 a1_0 a1_1).bind fun bt213 => (if (!(bt211.1 == bt213.1) || (!(bt211.2 == bt213.2))) = true then (billiardlaw04_VecMatchesReference.j0 k a3 a4 true a0_0 a0_1 a1_0 a1_1) else ((vec_Sub.f a0_0 a0_1 a1_0 a1_1).bind fun bt215 => (if (!(bt215.1 == t208) || (!(bt215.2 == t209))) = true then (billiardlaw04_VecMatchesReference.j0 k a3 a4 true a0_0 a0_1 a1_0 a1_1) else ((vec_Neg.f a1_0 a1_1).bind fun bt217 => (if (!(bt217.1 == t205) || (!(bt217.2 == t206))) = true then (billiardlaw04_VecMatchesReference.j0 k a3 a4 true a0_0 a0_1 a1_0 a1_1) else ((vec_Scale.f a0_0 a0_1 a2).bind fun bt219 => ((billiardref04_Scale.f a0_0 a0_1 a2).bind fun bt221 => (if (!(bt219.1 == bt221.1) || (!(bt219.2 == bt221.2))) = true then (billiardlaw04_VecMatchesReference.j0 k a3 a4 true a0_0 a0_1 a1_0 a1_1) else ((vec_Perp.f a1_0 a1_1).bind fun bt223 => (billiardlaw04_VecMatchesReference.j0 k a3 a4 (!(bt223.1 == t206) || (!(bt223.2 == a1_0))) a0_0 a0_1 a1_0 a1_1)))))))))))))) = some r := H
  have A8 := aM A80
  clear A80
  replace H := Option.bind_eq_some_iff.mp H
  obtain ⟨t208, A90, H⟩ := H
  replace H : ((billiardref02_Saturate.f (wrap64 ((wrap64 (a0_1)) - (wrap64 (a1_1))))).bind fun t209 => ((vec_Add.f a0_0 a0_1 a1_0 a1_1).bind fun bt211 => ((billiardref04_Add.f a0_0 a0_1 a1_0 a1_1).bind fun bt213 => (if (!(bt211.1 == bt213.1) || (!(bt211.2 == bt213.2))) = true then (billiardlaw04_VecMatchesReference.j0 k a3 a4 true a0_0 a0_1 a1_0 a1_1) else ((vec_Sub.f a0_0 a0_1 a1_0 a1_1).bind fun bt215 => (if (!(bt215.1 == t208) || (!(bt215.2 == t209))) = true then (billiardlaw04_VecMatchesReference.j0 k a3 a4 true a0_0 a0_1 a1_0 a1_1) else ((vec_Neg.f a1_0 a1_1).bind fun bt217 => (if (!(bt217.1 == t205) || (!(bt217.2 == t206))) = true then (billiardlaw04_VecMatchesReference.j0 k a3 a4 true a0_0 a0_1 a1_0 a1_1) else ((vec_Scale.f a0_0 a0_1 a2).bind fun bt219 => ((billiardref04_Scale.f a0_0 a0_1 a2).bind fun bt221 => (if (!(bt219.1 == bt221.1) || (!(bt219.2 == bt221.2))) = true then (billiardlaw04_VecMatchesReference.j0 k a3 a4 true a0_0 a0_1 a1_0 a1_1) else ((vec_Perp.f a1_0 a1_1).bind fun bt223 => (billiardlaw04_VecMatchesReference.j0 k a3 a4 (!(bt223.1 == t206) || (!(bt223.2 == a1_0))) a0_0 a0_1 a1_0 a1_1))))))))))))) = some r := H
  have A9 := aM A90
  clear A90
  replace H := Option.bind_eq_some_iff.mp H
  obtain ⟨t209, A100, H⟩ := H
  replace H : ((vec_Add.f a0_0 a0_1 a1_0 a1_1).bind fun bt211 => ((billiardref04_Add.f a0_0 a0_1 a1_0 a1_1).bind fun bt213 => (if (!(bt211.1 == bt213.1) || (!(bt211.2 == bt213.2))) = true then (billiardlaw04_VecMatchesReference.j0 k a3 a4 true a0_0 a0_1 a1_0 a1_1) else ((vec_Sub.f a0_0 a0_1 a1_0 a1_1).bind fun bt215 => (if (!(bt215.1 == t208) || (!(bt215.2 == t209))) = true then (billiardlaw04_VecMatchesReference.j0 k a3 a4 true a0_0 a0_1 a1_0 a1_1) else ((vec_Neg.f a1_0 a1_1).bind fun bt217 => (if (!(bt217.1 == t205) || (!(bt217.2 == t206))) = true then (billiardlaw04_VecMatchesReference.j0 k a3 a4 true a0_0 a0_1 a1_0 a1_1) else ((vec_Scale.f a0_0 a0_1 a2).bind fun bt219 => ((billiardref04_Scale.f a0_0 a0_1 a2).bind fun bt221 => (if (!(bt219.1 == bt221.1) || (!(bt219.2 == bt221.2))) = true then (billiardlaw04_VecMatchesReference.j0 k a3 a4 true a0_0 a0_1 a1_0 a1_1) else ((vec_Perp.f a1_0 a1_1).bind fun bt223 => (billiardlaw04_VecMatchesReference.j0 k a3 a4 (!(bt223.1 == t206) || (!(bt223.2 == a1_0))) a0_0 a0_1 a1_0 a1_1)))))))))))) = some r := H
  have A10 := aM A100
  clear A100
  have HC11 := aM H
  clear H
  go_enter Try.func7, Try.ntmps7
  try go_wp2_with (first | ((with_reducible refine gate_dst (N := 5) rfl ?_); refine box_event ?hg (N := 5) ?hd (cs := #[.int .i32 a0_0, .int .i32 a0_1]) (t := 25) ?hr ?_; (case hd => rfl); (case hg => rfl); (case hr => first | (go_simp; done) | (go_simp; rfl)); intro b202 hg w12 hbox hb; have n0_ := aM (lT (by repeat (first | (with_reducible first | exact HB.out | apply lA | apply lN | apply lD) | exact HB.out)) hb); have n1_ := aM (hbox); have n2_ := aM ((by rw [hg]; exact (lZ (by repeat (first | (with_reducible first | exact HB.out | apply lA | apply lN | apply lD) | exact HB.out))) : w.heap.size ≤ b202)); have n3_ := aM ((by rw [hg]; exact (lZ (by repeat (first | (with_reducible first | exact HB.out | apply lA | apply lN | apply lD) | exact HB.out))) : w.heap.size ≤ b202)); clear HB; have HB := n0_; have BK202 := n1_; have GW202 := n2_; have GE202 := n3_; clear n0_ n1_ n2_ n3_; clear hb hbox hg) | ((with_reducible refine gate_dst (N := 6) rfl ?_); refine box_event ?hg (N := 6) ?hd (cs := #[.int .i32 a1_0, .int .i32 a1_1]) (t := 25) ?hr ?_; (case hd => rfl); (case hg => rfl); (case hr => first | (go_simp; done) | (go_simp; rfl)); intro b203 hg w13 hbox hb; have n0_ := aM (bB (by (with_reducible repeat first | apply bN | apply bD | apply bA); exact BK202.out) hb); have n1_ := aM (lT (by repeat (first | (with_reducible first | exact HB.out | apply lA | apply lN | apply lD | refine lS ?_ GE202.out) | exact HB.out)) hb); have n2_ := aM (hbox); have n3_ := aM ((by rw [hg]; exact (lZ (by repeat (first | (with_reducible first | exact HB.out | apply lA | apply lN | apply lD | refine lS ?_ GE202.out) | exact HB.out))) : w.heap.size ≤ b203)); have n4_ := aM ((by rw [hg]; exact (lZ (by repeat (first | (with_reducible first | exact HB.out | apply lA | apply lN | apply lD | refine lS ?_ GE202.out) | exact HB.out))) : w.heap.size ≤ b203)); have n5_ := aM ((by rw [hg]; exact Nat.ne_of_lt (bL (g := b202) (by (with_reducible repeat first | apply bN | apply bD | apply bA); exact BK202.out)) : b202 ≠ b203)); have n6_ := aM ((by rw [hg]; exact Nat.ne_of_gt (bL (g := b202) (by (with_reducible repeat first | apply bN | apply bD | apply bA); exact BK202.out)) : b203 ≠ b202)); clear BK202; clear HB; have BK202 := n0_; have HB := n1_; have BK203 := n2_; have GW203 := n3_; have GE203 := n4_; have N0_ := n5_; have N1_ := n6_; clear n0_ n1_ n2_ n3_ n4_ n5_ n6_; clear hb hbox hg) | ((with_reducible refine gate_callee (f := 8) rfl ?_); refine goesL_ (some 15) rfl rfl Try.func8 (by kernel_rfl) rfl #[] rfl (by (try simp only [List.map_toArray, List.map_cons, List.map_nil]); first | done | rfl | (simp only [List.length_drop, List.length_take]; rfl)) ?_; (with_reducible refine (billiardlaw04_awake.calls k  true _ A6.out).mono ?_); rintro e w14 ⟨rfl, hb⟩; refine ⟨_, rfl, ?_⟩; have n0_ := aM (bB (by (with_reducible repeat first | apply bN | apply bD | apply bA); exact BK202.out) hb); have n1_ := aM (bB (by (with_reducible repeat first | apply bN | apply bD | apply bA); exact BK203.out) hb); have n2_ := aM (lT (by repeat (first | (with_reducible first | exact HB.out | apply lA | apply lN | apply lD | refine lS ?_ GE202.out | refine lS ?_ GE203.out) | exact HB.out)) hb); clear BK202; clear BK203; clear HB; have BK202 := n0_; have BK203 := n1_; have HB := n2_; clear n0_ n1_ n2_; (try clear hb); (try clear hb2); (try clear hk); (try clear hi); have hnb15 := N1_.out; have hnc15 := N0_.out; have hcz16_0 : w14.cell? ⟨b203, 0, none⟩ = some (.int .i32 a1_0) := (bC BK203.out 0).trans rfl; have hcz16_1 : w14.cell? ⟨b203, 1, none⟩ = some (.int .i32 a1_1) := (bC BK203.out 1).trans rfl; have hfz16_0 := bF BK203.out 0; have hfz16_1 := bF BK203.out 1) | ((with_reducible refine gate_callee (f := 16) rfl ?_); refine goesL_ (some 18) rfl rfl Try.func16 (by kernel_rfl) rfl #[.agg #[.int .i32 a1_0, .int .i32 a1_1]] rfl (by (try simp only [List.map_toArray, List.map_cons, List.map_nil]); first | done | rfl | (simp only [List.length_drop, List.length_take]; rfl)) ?_; (with_reducible refine (billiardref04_Neg.calls a1_0 a1_1 t205 t206 _ A8.out).mono ?_); rintro e w17 ⟨rfl, hb⟩; refine ⟨_, rfl, ?_⟩; have n0_ := aM (bB (by (with_reducible repeat first | apply bN | apply bD | apply bA); exact BK202.out) hb); have n1_ := aM (bB (by (with_reducible repeat first | apply bN | apply bD | apply bA); exact BK203.out) hb); have n2_ := aM (lT (by repeat (first | (with_reducible first | exact HB.out | apply lA | apply lN | apply lD | refine lS ?_ GE202.out | refine lS ?_ GE203.out) | exact HB.out)) hb); clear BK202; clear BK203; clear HB; have BK202 := n0_; have BK203 := n1_; have HB := n2_; clear n0_ n1_ n2_; (try clear hb); (try clear hb2); (try clear hk); (try clear hi)) | ((with_reducible refine gate_dst (N := 11) rfl ?_); refine box_event ?hg (N := 11) ?hd (cs := #[.int .i32 0, .int .i32 0]) (t := 25) ?hr ?_; (case hd => rfl); (case hg => rfl); (case hr => first | (go_simp; done) | (go_simp; rfl)); intro b207 hg w18 hbox hb; have n0_ := aM (bB (by (with_reducible repeat first | apply bN | apply bD | apply bA); exact BK202.out) hb); have n1_ := aM (bB (by (with_reducible repeat first | apply bN | apply bD | apply bA); exact BK203.out) hb); have n2_ := aM (lT (by repeat (first | (with_reducible first | exact HB.out | apply lA | apply lN | apply lD | refine lS ?_ GE202.out | refine lS ?_ GE203.out) | exact HB.out)) hb); have n3_ := aM (hbox); have n4_ := aM ((by rw [hg]; exact (lZ (by repeat (first | (with_reducible first | exact HB.out | apply lA | apply lN | apply lD | refine lS ?_ GE202.out | refine lS ?_ GE203.out) | exact HB.out))) : w.heap.size ≤ b207)); have n5_ := aM ((by rw [hg]; exact (lZ (by repeat (first | (with_reducible first | exact HB.out | apply lA | apply lN | apply lD | refine lS ?_ GE202.out | refine lS ?_ GE203.out) | exact HB.out))) : w.heap.size ≤ b207)); have n6_ := aM ((by rw [hg]; exact Nat.ne_of_lt (bL (g := b202) (by (with_reducible repeat first | apply bN | apply bD | apply bA); exact BK202.out)) : b202 ≠ b207)); have n7_ := aM ((by rw [hg]; exact Nat.ne_of_gt (bL (g := b202) (by (with_reducible repeat first | apply bN | apply bD | apply bA); exact BK202.out)) : b207 ≠ b202)); have n8_ := aM ((by rw [hg]; exact Nat.ne_of_lt (bL (g := b203) (by (with_reducible repeat first | apply bN | apply bD | apply bA); exact BK203.out)) : b203 ≠ b207)); have n9_ := aM ((by rw [hg]; exact Nat.ne_of_gt (bL (g := b203) (by (with_reducible repeat first | apply bN | apply bD | apply bA); exact BK203.out)) : b207 ≠ b203)); clear BK202; clear BK203; clear HB; have BK202 := n0_; have BK203 := n1_; have HB := n2_; have BK207 := n3_; have GW207 := n4_; have GE207 := n5_; have N2_ := n6_; have N3_ := n7_; have N4_ := n8_; have N5_ := n9_; clear n0_ n1_ n2_ n3_ n4_ n5_ n6_ n7_ n8_ n9_; clear hb hbox hg; have hnb19 := N3_.out; have hnc19 := N2_.out; have hnb20 := N5_.out; have hnc20 := N4_.out; have hcz21_0 : w18.cell? ⟨b207, 0, none⟩ = some (.int .i32 0) := (bC BK207.out 0).trans rfl; have hcz21_1 : w18.cell? ⟨b207, 1, none⟩ = some (.int .i32 0) := (bC BK207.out 1).trans rfl; have hfz21_0 := bF BK207.out 0; have hfz21_1 := bF BK207.out 1))
  have n0_ : Aside0 (((w18.setCell ⟨b207, 0, none⟩ (.int .i32 t205)).setCell ⟨b207, 1, none⟩ (.int .i32 t206)).heap[b202]? = some (.cells #[.int .i32 a0_0, .int .i32 a0_1] 25 (0, 0))) := ⟨by (with_reducible repeat first | apply bN | apply bD | apply bA); refine bR ?_ N2_.out _; (with_reducible repeat first | apply bN | apply bD | apply bA); refine bR ?_ N2_.out _; (with_reducible repeat first | apply bN | apply bD | apply bA); exact BK202.out⟩
  have n1_ : Aside0 (((w18.setCell ⟨b207, 0, none⟩ (.int .i32 t205)).setCell ⟨b207, 1, none⟩ (.int .i32 t206)).heap[b203]? = some (.cells #[.int .i32 a1_0, .int .i32 a1_1] 25 (0, 0))) := ⟨by (with_reducible repeat first | apply bN | apply bD | apply bA); refine bR ?_ N4_.out _; (with_reducible repeat first | apply bN | apply bD | apply bA); refine bR ?_ N4_.out _; (with_reducible repeat first | apply bN | apply bD | apply bA); exact BK203.out⟩
  have n2_ : Aside0 (((w18.setCell ⟨b207, 0, none⟩ (.int .i32 t205)).setCell ⟨b207, 1, none⟩ (.int .i32 t206)).heap[b207]? = some (.cells #[.int .i32 t205, .int .i32 t206] 25 (0, 0))) := ⟨by (with_reducible repeat first | apply bN | apply bD | apply bA); refine bP (cs := #[.int .i32 t205, .int .i32 0]) ?_ 1 _ rfl; (with_reducible repeat first | apply bN | apply bD | apply bA); refine bP (cs := #[.int .i32 0, .int .i32 0]) ?_ 0 _ rfl; (with_reducible repeat first | apply bN | apply bD | apply bA); exact BK207.out⟩
  have n3_ : Aside0 (Below w.heap.size w ((w18.setCell ⟨b207, 0, none⟩ (.int .i32 t205)).setCell ⟨b207, 1, none⟩ (.int .i32 t206))) := ⟨by repeat (first | (with_reducible first | exact HB.out | apply lA | apply lN | apply lD | refine lS ?_ GE202.out | refine lS ?_ GE203.out | refine lS ?_ GE207.out) | exact HB.out)⟩
  (try clear BK202)
  (try clear BK203)
  (try clear BK207)
  (try clear HB)
  generalize ((w18.setCell ⟨b207, 0, none⟩ (.int .i32 t205)).setCell ⟨b207, 1, none⟩ (.int .i32 t206)) = w22 at n0_ n1_ n2_ n3_ ⊢
  have BK202 := n0_
  have BK203 := n1_
  have BK207 := n2_
  have HB := n3_
  clear n0_ n1_ n2_ n3_
  have n0_ := aM (bD BK202.out)
  have n1_ := aM (bD BK203.out)
  have n2_ := aM (bD BK207.out)
  have n3_ := aM (lD HB.out)
  clear BK202
  clear BK203
  clear BK207
  clear HB
  have BK202 := n0_
  have BK203 := n1_
  have BK207 := n2_
  have HB := n3_
  clear n0_ n1_ n2_ n3_
  refine start_ (n := 19) (S := fun w' => w'.cell? ⟨b202, 0, none⟩ = some (.int .i32 a0_0) ∧ w'.cell? ⟨b202, 1, none⟩ = some (.int .i32 a0_1) ∧ w'.cell? ⟨b203, 0, none⟩ = some (.int .i32 a1_0) ∧ w'.cell? ⟨b203, 1, none⟩ = some (.int .i32 a1_1)) (ds := []) #[F,F,F,F,F,F,F,F,F,F,F,F,F,F,F,F,F,F,F] (by kernel_rfl) rfl rfl ⟨(bC BK202.out 0).trans rfl, (bC BK202.out 1).trans rfl, (bC BK203.out 0).trans rfl, (bC BK203.out 1).trans rfl⟩ (fun hHeld => ?_); refine with_tabW billiardlaw04_VecMatchesReference.tab4 billiardlaw04_VecMatchesReference.bits4 (fun HT_ HW_ => ?_)
  generalize w22.drew = w23 at BK202 BK203 BK207 HB hHeld ⊢
  refine pure_ (i := 0) (N := some 19) (v := ?_) (a' := ?_) #[T,F,F,F,F,F,F,F,F,F,F,F,F,F,F,F,F,F,F] rfl rfl (any_of HT_.out (by kernel_rfl)) (fun _ _ _ h => h) (Or.inl ⟨by rfl, ?_⟩) ?_ ?_
  rotate_left
  ·intro w'
   go_simp
   with_reducible rfl
  rotate_left
  ·simp only [Act.put, sA, sB, sC, i64_w, i32_w]
   rfl
  refine pure_ (i := 3) (N := some 22) (v := ?_) (a' := ?_) #[T,F,F,T,F,F,F,F,F,F,F,F,F,F,F,F,F,F,F] rfl rfl (any_of HT_.out (by kernel_rfl)) (fun _ _ _ h => h) (Or.inl ⟨by rfl, ?_⟩) ?_ ?_
  rotate_left
  ·intro w'
   go_simp
   with_reducible rfl
  rotate_left
  ·simp only [Act.put, sA, sB, sC, i64_w, i32_w]
   rfl
  refine pure_ (i := 8) (N := some 27) (v := ?_) (a' := ?_) #[T,F,F,T,F,F,F,F,T,F,F,F,F,F,F,F,F,F,F] rfl rfl (any_of HT_.out (by kernel_rfl)) (fun _ _ _ h => h) (Or.inl ⟨by rfl, ?_⟩) ?_ ?_
  rotate_left
  ·intro w'
   go_simp
   with_reducible rfl
  rotate_left
  ·simp only [Act.put, sA, sB, sC, i64_w, i32_w]
   rfl
  refine pure_ (i := 11) (N := some 30) (v := ?_) (a' := ?_) #[T,F,F,T,F,F,F,F,T,F,F,T,F,F,F,F,F,F,F] rfl rfl (any_of HT_.out (by kernel_rfl)) (fun _ _ _ h => h) (Or.inl ⟨by rfl, ?_⟩) ?_ ?_
  rotate_left
  ·intro w'
   go_simp
   with_reducible rfl
  rotate_left
  ·simp only [Act.put, sA, sB, sC, i64_w, i32_w]
   rfl
  refine take_ (i := 1) (N := some 20) (v := ?_) (a' := ?_) #[T,T,F,T,F,F,F,F,T,F,F,T,F,F,F,F,F,F,F] rfl rfl (take_ofW HT_.out HW_.out (by kernel_rfl)) (fun _ _ _ h => h) (Or.inl ⟨by rfl, ?_⟩) hHeld ?_ ?_
  rotate_left
  ·rintro w' ⟨s0, s1, s2, s3⟩
   go_simp
   with_reducible rfl
  rotate_left
  ·simp only [Act.put, sA, sB, sC, i64_w, i32_w]
   rfl
  refine pure_ (i := 2) (N := some 21) (v := ?_) (a' := ?_) #[T,T,T,T,F,F,F,F,T,F,F,T,F,F,F,F,F,F,F] rfl rfl (any_of HT_.out (by kernel_rfl)) (fun _ _ _ h => h) (Or.inl ⟨by rfl, ?_⟩) ?_ ?_
  rotate_left
  ·intro w'
   go_simp
   with_reducible rfl
  rotate_left
  ·simp only [Act.put, sA, sB, sC, i64_w, i32_w]
   rfl
  refine take_ (i := 4) (N := some 23) (v := ?_) (a' := ?_) #[T,T,T,T,T,F,F,F,T,F,F,T,F,F,F,F,F,F,F] rfl rfl (take_ofW HT_.out HW_.out (by kernel_rfl)) (fun _ _ _ h => h) (Or.inl ⟨by rfl, ?_⟩) hHeld ?_ ?_
  rotate_left
  ·rintro w' ⟨s0, s1, s2, s3⟩
   go_simp
   with_reducible rfl
  rotate_left
  ·simp only [Act.put, sA, sB, sC, i64_w, i32_w]
   rfl
  refine pure_ (i := 5) (N := some 24) (v := ?_) (a' := ?_) #[T,T,T,T,T,T,F,F,T,F,F,T,F,F,F,F,F,F,F] rfl rfl (any_of HT_.out (by kernel_rfl)) (fun _ _ _ h => h) (Or.inl ⟨by rfl, ?_⟩) ?_ ?_
  rotate_left
  ·intro w'
   go_simp
   with_reducible rfl
  rotate_left
  ·simp only [Act.put, sA, sB, sC, i64_w, i32_w]
   rfl
  refine pure_ (i := 6) (N := some 25) (v := ?_) (a' := ?_) #[T,T,T,T,T,T,T,F,T,F,F,T,F,F,F,F,F,F,F] rfl rfl (any_of HT_.out (by kernel_rfl)) (fun _ _ _ h => h) (Or.inl ⟨by rfl, ?_⟩) ?_ ?_
  rotate_left
  ·intro w'
   go_simp
   with_reducible rfl
  rotate_left
  ·simp only [Act.put, sA, sB, sC, i64_w, i32_w]
   rfl
  refine take_ (i := 9) (N := some 28) (v := ?_) (a' := ?_) #[T,T,T,T,T,T,T,F,T,T,F,T,F,F,F,F,F,F,F] rfl rfl (take_ofW HT_.out HW_.out (by kernel_rfl)) (fun _ _ _ h => h) (Or.inl ⟨by rfl, ?_⟩) hHeld ?_ ?_
  rotate_left
  ·rintro w' ⟨s0, s1, s2, s3⟩
   go_simp
   with_reducible rfl
  rotate_left
  ·simp only [Act.put, sA, sB, sC, i64_w, i32_w]
   rfl
  refine pure_ (i := 10) (N := some 29) (v := ?_) (a' := ?_) #[T,T,T,T,T,T,T,F,T,T,T,T,F,F,F,F,F,F,F] rfl rfl (any_of HT_.out (by kernel_rfl)) (fun _ _ _ h => h) (Or.inl ⟨by rfl, ?_⟩) ?_ ?_
  rotate_left
  ·intro w'
   go_simp
   with_reducible rfl
  rotate_left
  ·simp only [Act.put, sA, sB, sC, i64_w, i32_w]
   rfl
  refine take_ (i := 12) (N := some 31) (v := ?_) (a' := ?_) #[T,T,T,T,T,T,T,F,T,T,T,T,T,F,F,F,F,F,F] rfl rfl (take_ofW HT_.out HW_.out (by kernel_rfl)) (fun _ _ _ h => h) (Or.inl ⟨by rfl, ?_⟩) hHeld ?_ ?_
  rotate_left
  ·rintro w' ⟨s0, s1, s2, s3⟩
   go_simp
   with_reducible rfl
  rotate_left
  ·simp only [Act.put, sA, sB, sC, i64_w, i32_w]
   rfl
  refine pure_ (i := 13) (N := some 32) (v := ?_) (a' := ?_) #[T,T,T,T,T,T,T,F,T,T,T,T,T,T,F,F,F,F,F] rfl rfl (any_of HT_.out (by kernel_rfl)) (fun _ _ _ h => h) (Or.inl ⟨by rfl, ?_⟩) ?_ ?_
  rotate_left
  ·intro w'
   go_simp
   with_reducible rfl
  rotate_left
  ·simp only [Act.put, sA, sB, sC, i64_w, i32_w]
   rfl
  refine pure_ (i := 14) (N := some 33) (v := ?_) (a' := ?_) #[T,T,T,T,T,T,T,F,T,T,T,T,T,T,T,F,F,F,F] rfl rfl (any_of HT_.out (by kernel_rfl)) (fun _ _ _ h => h) (Or.inl ⟨by rfl, ?_⟩) ?_ ?_
  rotate_left
  ·intro w'
   go_simp
   with_reducible rfl
  rotate_left
  ·simp only [Act.put, sA, sB, sC, i64_w, i32_w]
   rfl
  refine join_ (σ := Nat) 1 #[T,T,T,T,T,T,T,T,T,T,T,T,T,T,T,T,T,T,F] (fun s_ => [(26, .int .i32 t208), (34, .int .i32 t209), (12, .pointer (some ⟨s_, 0, none⟩)), (35, .agg #[.int .i32 t208, .int .i32 t209])]) (fun s_ w' => (w'.cell? ⟨b202, 0, none⟩ = some (.int .i32 a0_0) ∧ w'.cell? ⟨b202, 1, none⟩ = some (.int .i32 a0_1) ∧ w'.cell? ⟨b203, 0, none⟩ = some (.int .i32 a1_0) ∧ w'.cell? ⟨b203, 1, none⟩ = some (.int .i32 a1_1)) ∧ (w'.heap[b202]? = some (.cells #[.int .i32 a0_0, .int .i32 a0_1] 25 (0, 0))) ∧ (w'.heap[b203]? = some (.cells #[.int .i32 a1_0, .int .i32 a1_1] 25 (0, 0))) ∧ (w'.heap[b207]? = some (.cells #[.int .i32 t205, .int .i32 t206] 25 (0, 0))) ∧ (w'.heap[s_]? = some (.cells #[.int .i32 0, .int .i32 0] 25 (0, 0))) ∧ (w.heap.size ≤ s_) ∧ (w.heap.size ≤ s_) ∧ (b202 ≠ s_) ∧ (s_ ≠ b202) ∧ (b203 ≠ s_) ∧ (s_ ≠ b203) ∧ (b207 ≠ s_) ∧ (s_ ≠ b207) ∧ (Below w.heap.size w w')) ?_ ?_
  rotate_left
  ·intro hCont
   refine two_ (i := 7) (j := 17) (Ni := some 26) (Nj := some 12) #[T,T,T,T,T,T,T,T,T,T,T,T,T,T,T,F,F,F,F] #[T,T,T,T,T,T,T,F,T,T,T,T,T,T,T,F,F,T,F] rfl rfl rfl rfl (two_of HT_.out (by kernel_rfl)) (by decide) (by decide) (fun K hK => ?_) (fun K hK => ?_)
   ·skip
    refine goes_ Try.func17 (by kernel_rfl) rfl #[.int .i64 (wrap64 ((wrap64 (a0_0)) - (wrap64 (a1_0))))] (by rfl) rfl rfl (by (try simp only [List.map_toArray, List.map_cons, List.map_nil]); first | done | rfl | (simp only [List.length_drop, List.length_take]; rfl)) ?_
    with_reducible refine (billiardref02_Saturate.calls (wrap64 ((wrap64 (a0_0)) - (wrap64 (a1_0)))) t208 _ A9.out).mono ?_
    rintro e w' ⟨rfl, ⟨nd, rfl⟩⟩
    refine ⟨_, rfl, ?_⟩
    refine hK.out _ _ ⟨(bC BK202.out 0).trans rfl, (bC BK202.out 1).trans rfl, (bC BK203.out 0).trans rfl, (bC BK203.out 1).trans rfl⟩ (fun hHeld => ?_)
    clear hK K
    refine norm_ (a' := ?_) ?_ ?_
    rotate_left
    ·show Act.put _ (some 26) _ = _
     simp only [Act.put, sA, sB, sC, i64_w, i32_w]
     rfl
    refine two_ (i := 15) (j := 17) (Ni := some 34) (Nj := some 12) #[T,T,T,T,T,T,T,T,T,T,T,T,T,T,T,T,F,F,F] #[T,T,T,T,T,T,T,T,T,T,T,T,T,T,T,F,F,T,F] rfl rfl rfl rfl (two_of HT_.out (by kernel_rfl)) (by decide) (by decide) (fun K hK => ?_) (fun K hK => ?_)
    ·skip
     refine goes_ Try.func17 (by kernel_rfl) rfl #[.int .i64 (wrap64 ((wrap64 (a0_1)) - (wrap64 (a1_1))))] (by rfl) rfl rfl (by (try simp only [List.map_toArray, List.map_cons, List.map_nil]); first | done | rfl | (simp only [List.length_drop, List.length_take]; rfl)) ?_
     with_reducible refine (billiardref02_Saturate.calls (wrap64 ((wrap64 (a0_1)) - (wrap64 (a1_1)))) t209 _ A10.out).mono ?_
     rintro e w' ⟨rfl, ⟨nd, rfl⟩⟩
     refine ⟨_, rfl, ?_⟩
     refine hK.out _ _ ⟨(bC BK202.out 0).trans rfl, (bC BK202.out 1).trans rfl, (bC BK203.out 0).trans rfl, (bC BK203.out 1).trans rfl⟩ (fun hHeld => ?_)
     clear hK K
     refine norm_ (a' := ?_) ?_ ?_
     rotate_left
     ·show Act.put _ (some 34) _ = _
      simp only [Act.put, sA, sB, sC, i64_w, i32_w]
      rfl
     refine pure_ (i := 16) (N := some 35) (v := ?_) (a' := ?_) #[T,T,T,T,T,T,T,T,T,T,T,T,T,T,T,T,T,F,F] rfl rfl (any_of HT_.out (by kernel_rfl)) (fun _ _ _ h => h) (Or.inl ⟨by rfl, ?_⟩) ?_ ?_
     rotate_left
     ·intro w'
      go_simp
      with_reducible rfl
     rotate_left
     ·simp only [Act.put, sA, sB, sC, i64_w, i32_w]
      rfl
     refine one_ (i := 17) (N := some 12) #[T,T,T,T,T,T,T,T,T,T,T,T,T,T,T,T,T,T,F] rfl rfl (one_of HT_.out (by kernel_rfl)) (by decide) (fun K hK => ?_)
     refine box_step ?hg (N := 12) ?hd (cs := #[.int .i32 0, .int .i32 0]) (t := 25) ?hr ?_; (case hd => rfl); (case hg => rfl); (case hr => first | (go_simp; done) | (go_simp; rfl))
     intro b210 hg w24 hbox hb
     have n0_ := aM (bB (by (with_reducible repeat first | apply bN | apply bD | apply bA); exact BK202.out) hb)
     have n1_ := aM (bB (by (with_reducible repeat first | apply bN | apply bD | apply bA); exact BK203.out) hb)
     have n2_ := aM (bB (by (with_reducible repeat first | apply bN | apply bD | apply bA); exact BK207.out) hb)
     have n3_ := aM (lT (by repeat (first | (with_reducible first | exact HB.out | apply lA | apply lN | apply lD | refine lS ?_ GE202.out | refine lS ?_ GE203.out | refine lS ?_ GE207.out) | exact HB.out)) hb)
     have n4_ := aM (hbox)
     have n5_ := aM ((by rw [hg]; exact (lZ (by repeat (first | (with_reducible first | exact HB.out | apply lA | apply lN | apply lD | refine lS ?_ GE202.out | refine lS ?_ GE203.out | refine lS ?_ GE207.out) | exact HB.out))) : w.heap.size ≤ b210))
     have n6_ := aM ((by rw [hg]; exact (lZ (by repeat (first | (with_reducible first | exact HB.out | apply lA | apply lN | apply lD | refine lS ?_ GE202.out | refine lS ?_ GE203.out | refine lS ?_ GE207.out) | exact HB.out))) : w.heap.size ≤ b210))
     have n7_ := aM ((by rw [hg]; exact Nat.ne_of_lt (bL (g := b202) (by (with_reducible repeat first | apply bN | apply bD | apply bA); exact BK202.out)) : b202 ≠ b210))
     have n8_ := aM ((by rw [hg]; exact Nat.ne_of_gt (bL (g := b202) (by (with_reducible repeat first | apply bN | apply bD | apply bA); exact BK202.out)) : b210 ≠ b202))
     have n9_ := aM ((by rw [hg]; exact Nat.ne_of_lt (bL (g := b203) (by (with_reducible repeat first | apply bN | apply bD | apply bA); exact BK203.out)) : b203 ≠ b210))
     have n10_ := aM ((by rw [hg]; exact Nat.ne_of_gt (bL (g := b203) (by (with_reducible repeat first | apply bN | apply bD | apply bA); exact BK203.out)) : b210 ≠ b203))
     have n11_ := aM ((by rw [hg]; exact Nat.ne_of_lt (bL (g := b207) (by (with_reducible repeat first | apply bN | apply bD | apply bA); exact BK207.out)) : b207 ≠ b210))
     have n12_ := aM ((by rw [hg]; exact Nat.ne_of_gt (bL (g := b207) (by (with_reducible repeat first | apply bN | apply bD | apply bA); exact BK207.out)) : b210 ≠ b207))
     clear BK202
     clear BK203
     clear BK207
     clear HB
     have BK202 := n0_
     have BK203 := n1_
     have BK207 := n2_
     have HB := n3_
     have BK210 := n4_
     have GW210 := n5_
     have GE210 := n6_
     have N6_ := n7_
     have N7_ := n8_
     have N8_ := n9_
     have N9_ := n10_
     have N10_ := n11_
     have N11_ := n12_
     clear n0_ n1_ n2_ n3_ n4_ n5_ n6_ n7_ n8_ n9_ n10_ n11_ n12_
     clear hb hbox hg
     refine hK.out _ _ ⟨(bC BK202.out 0).trans rfl, (bC BK202.out 1).trans rfl, (bC BK203.out 0).trans rfl, (bC BK203.out 1).trans rfl⟩ (fun hHeld => ?_)
     clear hK K
     refine norm_ (a' := ?_) ?_ ?_
     rotate_left
     ·show Act.put _ (some 12) _ = _
      simp only [Act.put, sA, sB, sC, i64_w, i32_w]
      rfl
     exact norm_ (by simp only [putAll, Act.put, sA, sB, sC]) (hCont (b210) _ ⟨hHeld, (by (with_reducible repeat first | apply bN | apply bD | apply bA); exact BK202.out), (by (with_reducible repeat first | apply bN | apply bD | apply bA); exact BK203.out), (by (with_reducible repeat first | apply bN | apply bD | apply bA); exact BK207.out), (by (with_reducible repeat first | apply bN | apply bD | apply bA); exact BK210.out), GW210.out, GE210.out, N6_.out, N7_.out, N8_.out, N9_.out, N10_.out, N11_.out, (by repeat (first | (with_reducible first | exact HB.out | apply lA | apply lN | apply lD | refine lS ?_ GE202.out | refine lS ?_ GE203.out | refine lS ?_ GE207.out | refine lS ?_ GE210.out) | exact HB.out))⟩)
    ·skip
     refine box_step ?hg (N := 12) ?hd (cs := #[.int .i32 0, .int .i32 0]) (t := 25) ?hr ?_; (case hd => rfl); (case hg => rfl); (case hr => first | (go_simp; done) | (go_simp; rfl))
     intro b210 hg w24 hbox hb
     have n0_ := aM (bB (by (with_reducible repeat first | apply bN | apply bD | apply bA); exact BK202.out) hb)
     have n1_ := aM (bB (by (with_reducible repeat first | apply bN | apply bD | apply bA); exact BK203.out) hb)
     have n2_ := aM (bB (by (with_reducible repeat first | apply bN | apply bD | apply bA); exact BK207.out) hb)
     have n3_ := aM (lT (by repeat (first | (with_reducible first | exact HB.out | apply lA | apply lN | apply lD | refine lS ?_ GE202.out | refine lS ?_ GE203.out | refine lS ?_ GE207.out) | exact HB.out)) hb)
     have n4_ := aM (hbox)
     have n5_ := aM ((by rw [hg]; exact (lZ (by repeat (first | (with_reducible first | exact HB.out | apply lA | apply lN | apply lD | refine lS ?_ GE202.out | refine lS ?_ GE203.out | refine lS ?_ GE207.out) | exact HB.out))) : w.heap.size ≤ b210))
     have n6_ := aM ((by rw [hg]; exact (lZ (by repeat (first | (with_reducible first | exact HB.out | apply lA | apply lN | apply lD | refine lS ?_ GE202.out | refine lS ?_ GE203.out | refine lS ?_ GE207.out) | exact HB.out))) : w.heap.size ≤ b210))
     have n7_ := aM ((by rw [hg]; exact Nat.ne_of_lt (bL (g := b202) (by (with_reducible repeat first | apply bN | apply bD | apply bA); exact BK202.out)) : b202 ≠ b210))
     have n8_ := aM ((by rw [hg]; exact Nat.ne_of_gt (bL (g := b202) (by (with_reducible repeat first | apply bN | apply bD | apply bA); exact BK202.out)) : b210 ≠ b202))
     have n9_ := aM ((by rw [hg]; exact Nat.ne_of_lt (bL (g := b203) (by (with_reducible repeat first | apply bN | apply bD | apply bA); exact BK203.out)) : b203 ≠ b210))
     have n10_ := aM ((by rw [hg]; exact Nat.ne_of_gt (bL (g := b203) (by (with_reducible repeat first | apply bN | apply bD | apply bA); exact BK203.out)) : b210 ≠ b203))
     have n11_ := aM ((by rw [hg]; exact Nat.ne_of_lt (bL (g := b207) (by (with_reducible repeat first | apply bN | apply bD | apply bA); exact BK207.out)) : b207 ≠ b210))
     have n12_ := aM ((by rw [hg]; exact Nat.ne_of_gt (bL (g := b207) (by (with_reducible repeat first | apply bN | apply bD | apply bA); exact BK207.out)) : b210 ≠ b207))
     clear BK202
     clear BK203
     clear BK207
     clear HB
     have BK202 := n0_
     have BK203 := n1_
     have BK207 := n2_
     have HB := n3_
     have BK210 := n4_
     have GW210 := n5_
     have GE210 := n6_
     have N6_ := n7_
     have N7_ := n8_
     have N8_ := n9_
     have N9_ := n10_
     have N10_ := n11_
     have N11_ := n12_
     clear n0_ n1_ n2_ n3_ n4_ n5_ n6_ n7_ n8_ n9_ n10_ n11_ n12_
     clear hb hbox hg
     refine hK.out _ _ ⟨(bC BK202.out 0).trans rfl, (bC BK202.out 1).trans rfl, (bC BK203.out 0).trans rfl, (bC BK203.out 1).trans rfl⟩ (fun hHeld => ?_)
     clear hK K
     refine norm_ (a' := ?_) ?_ ?_
     rotate_left
     ·show Act.put _ (some 12) _ = _
      simp only [Act.put, sA, sB, sC, i64_w, i32_w]
      rfl
     refine one_ (i := 15) (N := some 34) #[T,T,T,T,T,T,T,T,T,T,T,T,T,T,T,T,F,T,F] rfl rfl (one_of HT_.out (by kernel_rfl)) (by decide) (fun K hK => ?_)
     refine goes_ Try.func17 (by kernel_rfl) rfl #[.int .i64 (wrap64 ((wrap64 (a0_1)) - (wrap64 (a1_1))))] (by rfl) rfl rfl (by (try simp only [List.map_toArray, List.map_cons, List.map_nil]); first | done | rfl | (simp only [List.length_drop, List.length_take]; rfl)) ?_
     with_reducible refine (billiardref02_Saturate.calls (wrap64 ((wrap64 (a0_1)) - (wrap64 (a1_1)))) t209 _ A10.out).mono ?_
     rintro e w' ⟨rfl, ⟨nd, rfl⟩⟩
     refine ⟨_, rfl, ?_⟩
     refine hK.out _ _ ⟨(bC BK202.out 0).trans rfl, (bC BK202.out 1).trans rfl, (bC BK203.out 0).trans rfl, (bC BK203.out 1).trans rfl⟩ (fun hHeld => ?_)
     clear hK K
     refine norm_ (a' := ?_) ?_ ?_
     rotate_left
     ·show Act.put _ (some 34) _ = _
      simp only [Act.put, sA, sB, sC, i64_w, i32_w]
      rfl
     refine pure_ (i := 16) (N := some 35) (v := ?_) (a' := ?_) #[T,T,T,T,T,T,T,T,T,T,T,T,T,T,T,T,T,T,F] rfl rfl (any_of HT_.out (by kernel_rfl)) (fun _ _ _ h => h) (Or.inl ⟨by rfl, ?_⟩) ?_ ?_
     rotate_left
     ·intro w'
      go_simp
      with_reducible rfl
     rotate_left
     ·simp only [Act.put, sA, sB, sC, i64_w, i32_w]
      rfl
     exact norm_ (by simp only [putAll, Act.put, sA, sB, sC]) (hCont (b210) _ ⟨hHeld, (by (with_reducible repeat first | apply bN | apply bD | apply bA); exact BK202.out), (by (with_reducible repeat first | apply bN | apply bD | apply bA); exact BK203.out), (by (with_reducible repeat first | apply bN | apply bD | apply bA); exact BK207.out), (by (with_reducible repeat first | apply bN | apply bD | apply bA); exact BK210.out), GW210.out, GE210.out, N6_.out, N7_.out, N8_.out, N9_.out, N10_.out, N11_.out, (by repeat (first | (with_reducible first | exact HB.out | apply lA | apply lN | apply lD | refine lS ?_ GE202.out | refine lS ?_ GE203.out | refine lS ?_ GE207.out | refine lS ?_ GE210.out) | exact HB.out))⟩)
   ·skip
    refine box_step ?hg (N := 12) ?hd (cs := #[.int .i32 0, .int .i32 0]) (t := 25) ?hr ?_; (case hd => rfl); (case hg => rfl); (case hr => first | (go_simp; done) | (go_simp; rfl))
    intro b210 hg w24 hbox hb
    have n0_ := aM (bB (by (with_reducible repeat first | apply bN | apply bD | apply bA); exact BK202.out) hb)
    have n1_ := aM (bB (by (with_reducible repeat first | apply bN | apply bD | apply bA); exact BK203.out) hb)
    have n2_ := aM (bB (by (with_reducible repeat first | apply bN | apply bD | apply bA); exact BK207.out) hb)
    have n3_ := aM (lT (by repeat (first | (with_reducible first | exact HB.out | apply lA | apply lN | apply lD | refine lS ?_ GE202.out | refine lS ?_ GE203.out | refine lS ?_ GE207.out) | exact HB.out)) hb)
    have n4_ := aM (hbox)
    have n5_ := aM ((by rw [hg]; exact (lZ (by repeat (first | (with_reducible first | exact HB.out | apply lA | apply lN | apply lD | refine lS ?_ GE202.out | refine lS ?_ GE203.out | refine lS ?_ GE207.out) | exact HB.out))) : w.heap.size ≤ b210))
    have n6_ := aM ((by rw [hg]; exact (lZ (by repeat (first | (with_reducible first | exact HB.out | apply lA | apply lN | apply lD | refine lS ?_ GE202.out | refine lS ?_ GE203.out | refine lS ?_ GE207.out) | exact HB.out))) : w.heap.size ≤ b210))
    have n7_ := aM ((by rw [hg]; exact Nat.ne_of_lt (bL (g := b202) (by (with_reducible repeat first | apply bN | apply bD | apply bA); exact BK202.out)) : b202 ≠ b210))
    have n8_ := aM ((by rw [hg]; exact Nat.ne_of_gt (bL (g := b202) (by (with_reducible repeat first | apply bN | apply bD | apply bA); exact BK202.out)) : b210 ≠ b202))
    have n9_ := aM ((by rw [hg]; exact Nat.ne_of_lt (bL (g := b203) (by (with_reducible repeat first | apply bN | apply bD | apply bA); exact BK203.out)) : b203 ≠ b210))
    have n10_ := aM ((by rw [hg]; exact Nat.ne_of_gt (bL (g := b203) (by (with_reducible repeat first | apply bN | apply bD | apply bA); exact BK203.out)) : b210 ≠ b203))
    have n11_ := aM ((by rw [hg]; exact Nat.ne_of_lt (bL (g := b207) (by (with_reducible repeat first | apply bN | apply bD | apply bA); exact BK207.out)) : b207 ≠ b210))
    have n12_ := aM ((by rw [hg]; exact Nat.ne_of_gt (bL (g := b207) (by (with_reducible repeat first | apply bN | apply bD | apply bA); exact BK207.out)) : b210 ≠ b207))
    clear BK202
    clear BK203
    clear BK207
    clear HB
    have BK202 := n0_
    have BK203 := n1_
    have BK207 := n2_
    have HB := n3_
    have BK210 := n4_
    have GW210 := n5_
    have GE210 := n6_
    have N6_ := n7_
    have N7_ := n8_
    have N8_ := n9_
    have N9_ := n10_
    have N10_ := n11_
    have N11_ := n12_
    clear n0_ n1_ n2_ n3_ n4_ n5_ n6_ n7_ n8_ n9_ n10_ n11_ n12_
    clear hb hbox hg
    refine hK.out _ _ ⟨(bC BK202.out 0).trans rfl, (bC BK202.out 1).trans rfl, (bC BK203.out 0).trans rfl, (bC BK203.out 1).trans rfl⟩ (fun hHeld => ?_)
    clear hK K
    refine norm_ (a' := ?_) ?_ ?_
    rotate_left
    ·show Act.put _ (some 12) _ = _
     simp only [Act.put, sA, sB, sC, i64_w, i32_w]
     rfl
    refine one_ (i := 7) (N := some 26) #[T,T,T,T,T,T,T,T,T,T,T,T,T,T,T,F,F,T,F] rfl rfl (one_of HT_.out (by kernel_rfl)) (by decide) (fun K hK => ?_)
    refine goes_ Try.func17 (by kernel_rfl) rfl #[.int .i64 (wrap64 ((wrap64 (a0_0)) - (wrap64 (a1_0))))] (by rfl) rfl rfl (by (try simp only [List.map_toArray, List.map_cons, List.map_nil]); first | done | rfl | (simp only [List.length_drop, List.length_take]; rfl)) ?_
    with_reducible refine (billiardref02_Saturate.calls (wrap64 ((wrap64 (a0_0)) - (wrap64 (a1_0)))) t208 _ A9.out).mono ?_
    rintro e w' ⟨rfl, ⟨nd, rfl⟩⟩
    refine ⟨_, rfl, ?_⟩
    refine hK.out _ _ ⟨(bC BK202.out 0).trans rfl, (bC BK202.out 1).trans rfl, (bC BK203.out 0).trans rfl, (bC BK203.out 1).trans rfl⟩ (fun hHeld => ?_)
    clear hK K
    refine norm_ (a' := ?_) ?_ ?_
    rotate_left
    ·show Act.put _ (some 26) _ = _
     simp only [Act.put, sA, sB, sC, i64_w, i32_w]
     rfl
    refine one_ (i := 15) (N := some 34) #[T,T,T,T,T,T,T,T,T,T,T,T,T,T,T,T,F,T,F] rfl rfl (one_of HT_.out (by kernel_rfl)) (by decide) (fun K hK => ?_)
    refine goes_ Try.func17 (by kernel_rfl) rfl #[.int .i64 (wrap64 ((wrap64 (a0_1)) - (wrap64 (a1_1))))] (by rfl) rfl rfl (by (try simp only [List.map_toArray, List.map_cons, List.map_nil]); first | done | rfl | (simp only [List.length_drop, List.length_take]; rfl)) ?_
    with_reducible refine (billiardref02_Saturate.calls (wrap64 ((wrap64 (a0_1)) - (wrap64 (a1_1)))) t209 _ A10.out).mono ?_
    rintro e w' ⟨rfl, ⟨nd, rfl⟩⟩
    refine ⟨_, rfl, ?_⟩
    refine hK.out _ _ ⟨(bC BK202.out 0).trans rfl, (bC BK202.out 1).trans rfl, (bC BK203.out 0).trans rfl, (bC BK203.out 1).trans rfl⟩ (fun hHeld => ?_)
    clear hK K
    refine norm_ (a' := ?_) ?_ ?_
    rotate_left
    ·show Act.put _ (some 34) _ = _
     simp only [Act.put, sA, sB, sC, i64_w, i32_w]
     rfl
    refine pure_ (i := 16) (N := some 35) (v := ?_) (a' := ?_) #[T,T,T,T,T,T,T,T,T,T,T,T,T,T,T,T,T,T,F] rfl rfl (any_of HT_.out (by kernel_rfl)) (fun _ _ _ h => h) (Or.inl ⟨by rfl, ?_⟩) ?_ ?_
    rotate_left
    ·intro w'
     go_simp
     with_reducible rfl
    rotate_left
    ·simp only [Act.put, sA, sB, sC, i64_w, i32_w]
     rfl
    exact norm_ (by simp only [putAll, Act.put, sA, sB, sC]) (hCont (b210) _ ⟨hHeld, (by (with_reducible repeat first | apply bN | apply bD | apply bA); exact BK202.out), (by (with_reducible repeat first | apply bN | apply bD | apply bA); exact BK203.out), (by (with_reducible repeat first | apply bN | apply bD | apply bA); exact BK207.out), (by (with_reducible repeat first | apply bN | apply bD | apply bA); exact BK210.out), GW210.out, GE210.out, N6_.out, N7_.out, N8_.out, N9_.out, N10_.out, N11_.out, (by repeat (first | (with_reducible first | exact HB.out | apply lA | apply lN | apply lD | refine lS ?_ GE202.out | refine lS ?_ GE203.out | refine lS ?_ GE207.out | refine lS ?_ GE210.out) | exact HB.out))⟩)
  rintro b210 w25 ⟨hS_, h0_, h1_, h2_, h3_, h4_, h5_, h6_, h7_, h8_, h9_, h10_, h11_, h12_⟩
  have n0_ : Aside0 (w25.heap[b202]? = some (.cells #[.int .i32 a0_0, .int .i32 a0_1] 25 (0, 0))) := ⟨h0_⟩
  have n1_ : Aside0 (w25.heap[b203]? = some (.cells #[.int .i32 a1_0, .int .i32 a1_1] 25 (0, 0))) := ⟨h1_⟩
  have n2_ : Aside0 (w25.heap[b207]? = some (.cells #[.int .i32 t205, .int .i32 t206] 25 (0, 0))) := ⟨h2_⟩
  have n3_ : Aside0 (w25.heap[b210]? = some (.cells #[.int .i32 0, .int .i32 0] 25 (0, 0))) := ⟨h3_⟩
  have n4_ : Aside0 (w.heap.size ≤ b210) := ⟨h4_⟩
  have n5_ : Aside0 (w.heap.size ≤ b210) := ⟨h5_⟩
  have n6_ : Aside0 (b202 ≠ b210) := ⟨h6_⟩
  have n7_ : Aside0 (b210 ≠ b202) := ⟨h7_⟩
  have n8_ : Aside0 (b203 ≠ b210) := ⟨h8_⟩
  have n9_ : Aside0 (b210 ≠ b203) := ⟨h9_⟩
  have n10_ : Aside0 (b207 ≠ b210) := ⟨h10_⟩
  have n11_ : Aside0 (b210 ≠ b207) := ⟨h11_⟩
  have n12_ : Aside0 (Below w.heap.size w w25) := ⟨h12_⟩
  clear BK202
  clear BK203
  clear BK207
  clear HB
  clear h0_ h1_ h2_ h3_ h4_ h5_ h6_ h7_ h8_ h9_ h10_ h11_ h12_
  have BK202 := n0_
  have BK203 := n1_
  have BK207 := n2_
  have BK210 := n3_
  have GW210 := n4_
  have GE210 := n5_
  have N6_ := n6_
  have N7_ := n7_
  have N8_ := n8_
  have N9_ := n9_
  have N10_ := n10_
  have N11_ := n11_
  have HB := n12_
  clear n0_ n1_ n2_ n3_ n4_ n5_ n6_ n7_ n8_ n9_ n10_ n11_ n12_
  have hHeld : w25.cell? ⟨b202, 0, none⟩ = some (.int .i32 a0_0) ∧ w25.cell? ⟨b202, 1, none⟩ = some (.int .i32 a0_1) ∧ w25.cell? ⟨b203, 0, none⟩ = some (.int .i32 a1_0) ∧ w25.cell? ⟨b203, 1, none⟩ = some (.int .i32 a1_1) := hS_
  refine norm_ (a' := ?_) ?_ ?_
  rotate_left
  ·simp only [putAll, Act.put, sA, sB, sC]
   rfl
  refine one_ (i := 18) (N := none) #[T,T,T,T,T,T,T,T,T,T,T,T,T,T,T,T,T,T,T] rfl rfl (one_of HT_.out (by kernel_rfl)) (by decide) (fun K hK => ?_)
  have hs26 : w25.cell? ⟨b210, 0, none⟩ = some (.int .i32 0) := (bC BK210.out 0).trans rfl
  have hfs26 := bF BK210.out 0
  have hns26_0 := N6_.out
  have hns26_1 := N8_.out
  have hns26_2 := N10_.out
  have hms26_0 := N7_.out
  have hms26_1 := N9_.out
  have hms26_2 := N11_.out
  have hs27 : w25.cell? ⟨b210, 1, none⟩ = some (.int .i32 0) := (bC BK210.out 1).trans rfl
  have hfs27 := bF BK210.out 1
  have hns27_0 := N6_.out
  have hns27_1 := N8_.out
  have hns27_2 := N10_.out
  have hms27_0 := N7_.out
  have hms27_1 := N9_.out
  have hms27_2 := N11_.out
  refine skip_ (w1 := ?_) (by rfl) rfl ?_ ?_
  rotate_left
  ·go_simp
   rfl
  refine hK.out _ _ ⟨((cF (p := ⟨b210, _, none⟩) N6_.out _).trans (((cF (p := ⟨b210, _, none⟩) N6_.out _).trans (hHeld.1)))), ((cF (p := ⟨b210, _, none⟩) N6_.out _).trans (((cF (p := ⟨b210, _, none⟩) N6_.out _).trans (hHeld.2.1)))), ((cF (p := ⟨b210, _, none⟩) N8_.out _).trans (((cF (p := ⟨b210, _, none⟩) N8_.out _).trans (hHeld.2.2.1)))), ((cF (p := ⟨b210, _, none⟩) N8_.out _).trans (((cF (p := ⟨b210, _, none⟩) N8_.out _).trans (hHeld.2.2.2))))⟩ (fun hHeld => ?_)
  clear hK K
  refine done_ (done_of HT_.out (by kernel_rfl)) ?_
  go_upto_region 5 with (fail)
  go_cut [74] (fun v74 wc => ∃ (kq : Nat) (x74_10 : Bool), v74 = .bool x74_10 ∧ Aside0 (billiardlaw04_VecMatchesReference.j0 kq a3 a4 x74_10 a0_0 a0_1 a1_0 a1_1 = some r) ∧ Aside0 (kq ≤ k) ∧ Aside0 (wc.heap[b202]? = some (.cells #[.int .i32 a0_0, .int .i32 a0_1] 25 (0, 0))) ∧ Aside0 (wc.heap[b203]? = some (.cells #[.int .i32 a1_0, .int .i32 a1_1] 25 (0, 0))) ∧ Aside0 (wc.heap[b207]? = some (.cells #[.int .i32 t205, .int .i32 t206] 25 (0, 0))) ∧ Aside0 (wc.heap[b210]? = some (.cells #[.int .i32 t208, .int .i32 t209] 25 (0, 0))) ∧ Aside0 (Below w.heap.size w wc))
  case first =>
   have H := HC11.out
   clear HC11
   replace H := Option.bind_eq_some_iff.mp H
   obtain ⟨⟨t211, t212⟩, A280, H⟩ := H
   replace H : ((billiardref04_Add.f a0_0 a0_1 a1_0 a1_1).bind fun bt213 => (if (!(t211 == bt213.1) || (!(t212 == bt213.2))) = true then (billiardlaw04_VecMatchesReference.j0 k a3 a4 true a0_0 a0_1 a1_0 a1_1) else ((vec_Sub.f a0_0 a0_1 a1_0 a1_1).bind fun bt215 => (if (!(bt215.1 == t208) || (!(bt215.2 == t209))) = true then (billiardlaw04_VecMatchesReference.j0 k a3 a4 true a0_0 a0_1 a1_0 a1_1) else ((vec_Neg.f a1_0 a1_1).bind fun bt217 => (if (!(bt217.1 == t205) || (!(bt217.2 == t206))) = true then (billiardlaw04_VecMatchesReference.j0 k a3 a4 true a0_0 a0_1 a1_0 a1_1) else ((vec_Scale.f a0_0 a0_1 a2).bind fun bt219 => ((billiardref04_Scale.f a0_0 a0_1 a2).bind fun bt221 => (if (!(bt219.1 == bt221.1) || (!(bt219.2 == bt221.2))) = true then (billiardlaw04_VecMatchesReference.j0 k a3 a4 true a0_0 a0_1 a1_0 a1_1) else ((vec_Perp.f a1_0 a1_1).bind fun bt223 => (billiardlaw04_VecMatchesReference.j0 k a3 a4 (!(bt223.1 == t206) || (!(bt223.2 == a1_0))) a0_0 a0_1 a1_0 a1_1))))))))))) = some r := H
   have A28 := aM A280
   clear A280
   replace H := Option.bind_eq_some_iff.mp H
   obtain ⟨⟨t213, t214⟩, A290, H⟩ := H
   replace H : (if (!(t211 == t213) || (!(t212 == t214))) = true then (billiardlaw04_VecMatchesReference.j0 k a3 a4 true a0_0 a0_1 a1_0 a1_1) else ((vec_Sub.f a0_0 a0_1 a1_0 a1_1).bind fun bt215 => (if (!(bt215.1 == t208) || (!(bt215.2 == t209))) = true then (billiardlaw04_VecMatchesReference.j0 k a3 a4 true a0_0 a0_1 a1_0 a1_1) else ((vec_Neg.f a1_0 a1_1).bind fun bt217 => (if (!(bt217.1 == t205) || (!(bt217.2 == t206))) = true then (billiardlaw04_VecMatchesReference.j0 k a3 a4 true a0_0 a0_1 a1_0 a1_1) else ((vec_Scale.f a0_0 a0_1 a2).bind fun bt219 => ((billiardref04_Scale.f a0_0 a0_1 a2).bind fun bt221 => (if (!(bt219.1 == bt221.1) || (!(bt219.2 == bt221.2))) = true then (billiardlaw04_VecMatchesReference.j0 k a3 a4 true a0_0 a0_1 a1_0 a1_1) else ((vec_Perp.f a1_0 a1_1).bind fun bt223 => (billiardlaw04_VecMatchesReference.j0 k a3 a4 (!(bt223.1 == t206) || (!(bt223.2 == a1_0))) a0_0 a0_1 a1_0 a1_1)))))))))) = some r := H
   have A29 := aM A290
   clear A290
   by_cases c30 : (!(t211 == t213) || (!(t212 == t214))) = true
   ·rw [if_pos c30] at H
    have c30b0 : (!(t211 == t213) || (!(t212 == t214))) = true := c30
    clear c30
    (first | rw [c30b0] | (simp only [i64_w, i32_w]; rw [c30b0]) | skip)
    as_aux_lemma =>
     have H' := aM H
     clear H
     try go_wp2
     have n0_ : Aside0 (((w25.setCell ⟨b210, 0, none⟩ (.int .i32 t208)).setCell ⟨b210, 1, none⟩ (.int .i32 t209)).heap[b202]? = some (.cells #[.int .i32 a0_0, .int .i32 a0_1] 25 (0, 0))) := ⟨by (with_reducible repeat first | apply bN | apply bD | apply bA); refine bR ?_ N6_.out _; (with_reducible repeat first | apply bN | apply bD | apply bA); refine bR ?_ N6_.out _; (with_reducible repeat first | apply bN | apply bD | apply bA); exact BK202.out⟩
     have n1_ : Aside0 (((w25.setCell ⟨b210, 0, none⟩ (.int .i32 t208)).setCell ⟨b210, 1, none⟩ (.int .i32 t209)).heap[b203]? = some (.cells #[.int .i32 a1_0, .int .i32 a1_1] 25 (0, 0))) := ⟨by (with_reducible repeat first | apply bN | apply bD | apply bA); refine bR ?_ N8_.out _; (with_reducible repeat first | apply bN | apply bD | apply bA); refine bR ?_ N8_.out _; (with_reducible repeat first | apply bN | apply bD | apply bA); exact BK203.out⟩
     have n2_ : Aside0 (((w25.setCell ⟨b210, 0, none⟩ (.int .i32 t208)).setCell ⟨b210, 1, none⟩ (.int .i32 t209)).heap[b207]? = some (.cells #[.int .i32 t205, .int .i32 t206] 25 (0, 0))) := ⟨by (with_reducible repeat first | apply bN | apply bD | apply bA); refine bR ?_ N10_.out _; (with_reducible repeat first | apply bN | apply bD | apply bA); refine bR ?_ N10_.out _; (with_reducible repeat first | apply bN | apply bD | apply bA); exact BK207.out⟩
     have n3_ : Aside0 (((w25.setCell ⟨b210, 0, none⟩ (.int .i32 t208)).setCell ⟨b210, 1, none⟩ (.int .i32 t209)).heap[b210]? = some (.cells #[.int .i32 t208, .int .i32 t209] 25 (0, 0))) := ⟨by (with_reducible repeat first | apply bN | apply bD | apply bA); refine bP (cs := #[.int .i32 t208, .int .i32 0]) ?_ 1 _ rfl; (with_reducible repeat first | apply bN | apply bD | apply bA); refine bP (cs := #[.int .i32 0, .int .i32 0]) ?_ 0 _ rfl; (with_reducible repeat first | apply bN | apply bD | apply bA); exact BK210.out⟩
     have n4_ : Aside0 (Below w.heap.size w ((w25.setCell ⟨b210, 0, none⟩ (.int .i32 t208)).setCell ⟨b210, 1, none⟩ (.int .i32 t209))) := ⟨by repeat (first | (with_reducible first | exact HB.out | apply lA | apply lN | apply lD | refine lS ?_ GE202.out | refine lS ?_ GE203.out | refine lS ?_ GE207.out | refine lS ?_ GE210.out) | exact HB.out)⟩
     (try clear BK202)
     (try clear BK203)
     (try clear BK207)
     (try clear BK210)
     (try clear HB)
     generalize ((w25.setCell ⟨b210, 0, none⟩ (.int .i32 t208)).setCell ⟨b210, 1, none⟩ (.int .i32 t209)) = w31 at n0_ n1_ n2_ n3_ n4_ ⊢
     have BK202 := n0_
     have BK203 := n1_
     have BK207 := n2_
     have BK210 := n3_
     have HB := n4_
     clear n0_ n1_ n2_ n3_ n4_
     have n0_ := aM (bD BK202.out)
     have n1_ := aM (bD BK203.out)
     have n2_ := aM (bD BK207.out)
     have n3_ := aM (bD BK210.out)
     have n4_ := aM (lD HB.out)
     clear BK202
     clear BK203
     clear BK207
     clear BK210
     clear HB
     have BK202 := n0_
     have BK203 := n1_
     have BK207 := n2_
     have BK210 := n3_
     have HB := n4_
     clear n0_ n1_ n2_ n3_ n4_
     refine start_ (n := 39) (S := fun w' => w'.cell? ⟨b202, 0, none⟩ = some (.int .i32 a0_0) ∧ w'.cell? ⟨b202, 1, none⟩ = some (.int .i32 a0_1) ∧ w'.cell? ⟨b203, 0, none⟩ = some (.int .i32 a1_0) ∧ w'.cell? ⟨b203, 1, none⟩ = some (.int .i32 a1_1)) (ds := []) #[F,F,F,F,F,F,F,F,F,F,F,F,F,F,F,F,F,F,F,F,F,F,F,F,F,F,F,F,F,F,F,F,F,F,F,F,F,F,F] (by kernel_rfl) rfl rfl ⟨(bC BK202.out 0).trans rfl, (bC BK202.out 1).trans rfl, (bC BK203.out 0).trans rfl, (bC BK203.out 1).trans rfl⟩ (fun hHeld => ?_); refine with_tabW billiardlaw04_VecMatchesReference.tab5 billiardlaw04_VecMatchesReference.bits5 (fun HT_ HW_ => ?_)
     generalize w31.drew = w32 at BK202 BK203 BK207 BK210 HB hHeld ⊢
     refine take_ (i := 0) (N := some 36) (v := ?_) (a' := ?_) #[T,F,F,F,F,F,F,F,F,F,F,F,F,F,F,F,F,F,F,F,F,F,F,F,F,F,F,F,F,F,F,F,F,F,F,F,F,F,F] rfl rfl (take_ofW HT_.out HW_.out (by kernel_rfl)) (fun _ _ _ h => h) (Or.inl ⟨by rfl, ?_⟩) hHeld ?_ ?_
     rotate_left
     ·rintro w' ⟨s0, s1, s2, s3⟩
      go_simp
      with_reducible rfl
     rotate_left
     ·simp only [Act.put, sA, sB, sC, i64_w, i32_w]
      rfl
     refine take_ (i := 1) (N := some 37) (v := ?_) (a' := ?_) #[T,T,F,F,F,F,F,F,F,F,F,F,F,F,F,F,F,F,F,F,F,F,F,F,F,F,F,F,F,F,F,F,F,F,F,F,F,F,F] rfl rfl (take_ofW HT_.out HW_.out (by kernel_rfl)) (fun _ _ _ h => h) (Or.inl ⟨by rfl, ?_⟩) hHeld ?_ ?_
     rotate_left
     ·rintro w' ⟨s0, s1, s2, s3⟩
      go_simp
      with_reducible rfl
     rotate_left
     ·simp only [Act.put, sA, sB, sC, i64_w, i32_w]
      rfl
     refine take_ (i := 3) (N := some 39) (v := ?_) (a' := ?_) #[T,T,F,T,F,F,F,F,F,F,F,F,F,F,F,F,F,F,F,F,F,F,F,F,F,F,F,F,F,F,F,F,F,F,F,F,F,F,F] rfl rfl (take_ofW HT_.out HW_.out (by kernel_rfl)) (fun _ _ _ h => h) (Or.inl ⟨by rfl, ?_⟩) hHeld ?_ ?_
     rotate_left
     ·rintro w' ⟨s0, s1, s2, s3⟩
      go_simp
      with_reducible rfl
     rotate_left
     ·simp only [Act.put, sA, sB, sC, i64_w, i32_w]
      rfl
     refine take_ (i := 4) (N := some 40) (v := ?_) (a' := ?_) #[T,T,F,T,T,F,F,F,F,F,F,F,F,F,F,F,F,F,F,F,F,F,F,F,F,F,F,F,F,F,F,F,F,F,F,F,F,F,F] rfl rfl (take_ofW HT_.out HW_.out (by kernel_rfl)) (fun _ _ _ h => h) (Or.inl ⟨by rfl, ?_⟩) hHeld ?_ ?_
     rotate_left
     ·rintro w' ⟨s0, s1, s2, s3⟩
      go_simp
      with_reducible rfl
     rotate_left
     ·simp only [Act.put, sA, sB, sC, i64_w, i32_w]
      rfl
     refine one_ (i := 2) (N := some 38) #[T,T,T,T,T,F,F,F,F,F,F,F,F,F,F,F,F,F,F,F,F,F,F,F,F,F,F,F,F,F,F,F,F,F,F,F,F,F,F] rfl rfl (one_of HT_.out (by kernel_rfl)) (by decide) (fun K hK => ?_)
     refine goes_ Try.func18 (by kernel_rfl) rfl #[.agg #[.int .i32 a0_0, .int .i32 a0_1], .agg #[.int .i32 a1_0, .int .i32 a1_1]] (by rfl) rfl rfl (by (try simp only [List.map_toArray, List.map_cons, List.map_nil]); first | done | rfl | (simp only [List.length_drop, List.length_take]; rfl)) ?_
     with_reducible refine (vec_Add.calls a0_0 a0_1 a1_0 a1_1 t211 t212 _ A28.out).mono ?_
     rintro e w33 ⟨rfl, hb⟩
     refine ⟨_, rfl, ?_⟩
     have n0_ := aM (bB (by (with_reducible repeat first | apply bN | apply bD | apply bA); exact BK202.out) hb)
     have n1_ := aM (bB (by (with_reducible repeat first | apply bN | apply bD | apply bA); exact BK203.out) hb)
     have n2_ := aM (bB (by (with_reducible repeat first | apply bN | apply bD | apply bA); exact BK207.out) hb)
     have n3_ := aM (bB (by (with_reducible repeat first | apply bN | apply bD | apply bA); exact BK210.out) hb)
     have n4_ := aM (lT (by repeat (first | (with_reducible first | exact HB.out | apply lA | apply lN | apply lD | refine lS ?_ GE202.out | refine lS ?_ GE203.out | refine lS ?_ GE207.out | refine lS ?_ GE210.out) | exact HB.out)) hb)
     clear BK202
     clear BK203
     clear BK207
     clear BK210
     clear HB
     have BK202 := n0_
     have BK203 := n1_
     have BK207 := n2_
     have BK210 := n3_
     have HB := n4_
     clear n0_ n1_ n2_ n3_ n4_
     (try clear hb)
     (try clear hb2)
     (try clear hk)
     (try clear hi)
     refine hK.out _ _ ⟨(bC BK202.out 0).trans rfl, (bC BK202.out 1).trans rfl, (bC BK203.out 0).trans rfl, (bC BK203.out 1).trans rfl⟩ (fun hHeld => ?_)
     clear hK K
     refine norm_ (a' := ?_) ?_ ?_
     rotate_left
     ·show Act.put _ (some 38) _ = _
      simp only [Act.put, sA, sB, sC, i64_w, i32_w]
      rfl
     refine one_ (i := 5) (N := some 41) #[T,T,T,T,T,T,F,F,F,F,F,F,F,F,F,F,F,F,F,F,F,F,F,F,F,F,F,F,F,F,F,F,F,F,F,F,F,F,F] rfl rfl (one_of HT_.out (by kernel_rfl)) (by decide) (fun K hK => ?_)
     refine goes_ Try.func19 (by kernel_rfl) rfl #[.agg #[.int .i32 a0_0, .int .i32 a0_1], .agg #[.int .i32 a1_0, .int .i32 a1_1]] (by rfl) rfl rfl (by (try simp only [List.map_toArray, List.map_cons, List.map_nil]); first | done | rfl | (simp only [List.length_drop, List.length_take]; rfl)) ?_
     with_reducible refine (billiardref04_Add.calls a0_0 a0_1 a1_0 a1_1 t213 t214 _ A29.out).mono ?_
     rintro e w34 ⟨rfl, hb⟩
     refine ⟨_, rfl, ?_⟩
     have n0_ := aM (bB (by (with_reducible repeat first | apply bN | apply bD | apply bA); exact BK202.out) hb)
     have n1_ := aM (bB (by (with_reducible repeat first | apply bN | apply bD | apply bA); exact BK203.out) hb)
     have n2_ := aM (bB (by (with_reducible repeat first | apply bN | apply bD | apply bA); exact BK207.out) hb)
     have n3_ := aM (bB (by (with_reducible repeat first | apply bN | apply bD | apply bA); exact BK210.out) hb)
     have n4_ := aM (lT (by repeat (first | (with_reducible first | exact HB.out | apply lA | apply lN | apply lD | refine lS ?_ GE202.out | refine lS ?_ GE203.out | refine lS ?_ GE207.out | refine lS ?_ GE210.out) | exact HB.out)) hb)
     clear BK202
     clear BK203
     clear BK207
     clear BK210
     clear HB
     have BK202 := n0_
     have BK203 := n1_
     have BK207 := n2_
     have BK210 := n3_
     have HB := n4_
     clear n0_ n1_ n2_ n3_ n4_
     (try clear hb)
     (try clear hb2)
     (try clear hk)
     (try clear hi)
     refine hK.out _ _ ⟨(bC BK202.out 0).trans rfl, (bC BK202.out 1).trans rfl, (bC BK203.out 0).trans rfl, (bC BK203.out 1).trans rfl⟩ (fun hHeld => ?_)
     clear hK K
     refine norm_ (a' := ?_) ?_ ?_
     rotate_left
     ·show Act.put _ (some 41) _ = _
      simp only [Act.put, sA, sB, sC, i64_w, i32_w]
      rfl
     refine pure_ (i := 6) (N := some 42) (v := ?_) (a' := ?_) #[T,T,T,T,T,T,T,F,F,F,F,F,F,F,F,F,F,F,F,F,F,F,F,F,F,F,F,F,F,F,F,F,F,F,F,F,F,F,F] rfl rfl (any_of HT_.out (by kernel_rfl)) (fun _ _ _ h => h) (Or.inl ⟨by rfl, ?_⟩) ?_ ?_
     rotate_left
     ·intro w'
      go_simp
      with_reducible rfl
     rotate_left
     ·simp only [Act.put, sA, sB, sC, i64_w, i32_w]
      rfl
     refine pure_ (i := 7) (N := some 43) (v := ?_) (a' := ?_) #[T,T,T,T,T,T,T,T,F,F,F,F,F,F,F,F,F,F,F,F,F,F,F,F,F,F,F,F,F,F,F,F,F,F,F,F,F,F,F] rfl rfl (any_of HT_.out (by kernel_rfl)) (fun _ _ _ h => h) (Or.inl ⟨by rfl, ?_⟩) ?_ ?_
     rotate_left
     ·intro w'
      go_simp
      with_reducible rfl
     rotate_left
     ·simp only [Act.put, sA, sB, sC, i64_w, i32_w]
      rfl
     refine pure_ (i := 8) (N := some 44) (v := undef) (a' := ?_) #[T,T,T,T,T,T,T,T,T,F,F,F,F,F,F,F,F,F,F,F,F,F,F,F,F,F,F,F,F,F,F,F,F,F,F,F,F,F,F] rfl rfl (any_of HT_.out (by kernel_rfl)) (fun _ _ _ h => h) (Or.inr ⟨by rfl, rfl⟩) ?_ ?_
     rotate_left
     ·simp only [Act.put, sA, sB, sC, i64_w, i32_w]
      rfl
     refine pure_ (i := 9) (N := some 45) (v := undef) (a' := ?_) #[T,T,T,T,T,T,T,T,T,T,F,F,F,F,F,F,F,F,F,F,F,F,F,F,F,F,F,F,F,F,F,F,F,F,F,F,F,F,F] rfl rfl (any_of HT_.out (by kernel_rfl)) (fun _ _ _ h => h) (Or.inr ⟨by rfl, rfl⟩) ?_ ?_
     rotate_left
     ·simp only [Act.put, sA, sB, sC, i64_w, i32_w]
      rfl
     refine pure_ (i := 10) (N := some 46) (v := undef) (a' := ?_) #[T,T,T,T,T,T,T,T,T,T,T,F,F,F,F,F,F,F,F,F,F,F,F,F,F,F,F,F,F,F,F,F,F,F,F,F,F,F,F] rfl rfl (any_of HT_.out (by kernel_rfl)) (fun _ _ _ h => h) (Or.inr ⟨by rfl, rfl⟩) ?_ ?_
     rotate_left
     ·simp only [Act.put, sA, sB, sC, i64_w, i32_w]
      rfl
     refine pure_ (i := 11) (N := some 47) (v := undef) (a' := ?_) #[T,T,T,T,T,T,T,T,T,T,T,T,F,F,F,F,F,F,F,F,F,F,F,F,F,F,F,F,F,F,F,F,F,F,F,F,F,F,F] rfl rfl (any_of HT_.out (by kernel_rfl)) (fun _ _ _ h => h) (Or.inr ⟨by rfl, rfl⟩) ?_ ?_
     rotate_left
     ·simp only [Act.put, sA, sB, sC, i64_w, i32_w]
      rfl
     refine pure_ (i := 12) (N := some 48) (v := undef) (a' := ?_) #[T,T,T,T,T,T,T,T,T,T,T,T,T,F,F,F,F,F,F,F,F,F,F,F,F,F,F,F,F,F,F,F,F,F,F,F,F,F,F] rfl rfl (any_of HT_.out (by kernel_rfl)) (fun _ _ _ h => h) (Or.inr ⟨by rfl, rfl⟩) ?_ ?_
     rotate_left
     ·simp only [Act.put, sA, sB, sC, i64_w, i32_w]
      rfl
     refine pure_ (i := 13) (N := some 49) (v := ?_) (a' := ?_) #[T,T,T,T,T,T,T,T,T,T,T,T,T,T,F,F,F,F,F,F,F,F,F,F,F,F,F,F,F,F,F,F,F,F,F,F,F,F,F] rfl rfl (any_of HT_.out (by kernel_rfl)) (fun _ _ _ h => h) (Or.inl ⟨by rfl, ?_⟩) ?_ ?_
     rotate_left
     ·intro w'
      go_simp
      with_reducible rfl
     rotate_left
     ·simp only [Act.put, sA, sB, sC, i64_w, i32_w]
      rfl
     refine pure_ (i := 14) (N := some 50) (v := ?_) (a' := ?_) #[T,T,T,T,T,T,T,T,T,T,T,T,T,T,T,F,F,F,F,F,F,F,F,F,F,F,F,F,F,F,F,F,F,F,F,F,F,F,F] rfl rfl (any_of HT_.out (by kernel_rfl)) (fun _ _ _ h => h) (Or.inl ⟨by rfl, ?_⟩) ?_ ?_
     rotate_left
     ·intro w'
      go_simp
      with_reducible rfl
     rotate_left
     ·simp only [Act.put, sA, sB, sC, i64_w, i32_w]
      rfl
     refine pure_ (i := 15) (N := some 51) (v := undef) (a' := ?_) #[T,T,T,T,T,T,T,T,T,T,T,T,T,T,T,T,F,F,F,F,F,F,F,F,F,F,F,F,F,F,F,F,F,F,F,F,F,F,F] rfl rfl (any_of HT_.out (by kernel_rfl)) (fun _ _ _ h => h) (Or.inr ⟨by rfl, rfl⟩) ?_ ?_
     rotate_left
     ·simp only [Act.put, sA, sB, sC, i64_w, i32_w]
      rfl
     refine pure_ (i := 16) (N := some 52) (v := undef) (a' := ?_) #[T,T,T,T,T,T,T,T,T,T,T,T,T,T,T,T,T,F,F,F,F,F,F,F,F,F,F,F,F,F,F,F,F,F,F,F,F,F,F] rfl rfl (any_of HT_.out (by kernel_rfl)) (fun _ _ _ h => h) (Or.inr ⟨by rfl, rfl⟩) ?_ ?_
     rotate_left
     ·simp only [Act.put, sA, sB, sC, i64_w, i32_w]
      rfl
     refine pure_ (i := 17) (N := some 53) (v := undef) (a' := ?_) #[T,T,T,T,T,T,T,T,T,T,T,T,T,T,T,T,T,T,F,F,F,F,F,F,F,F,F,F,F,F,F,F,F,F,F,F,F,F,F] rfl rfl (any_of HT_.out (by kernel_rfl)) (fun _ _ _ h => h) (Or.inr ⟨by rfl, rfl⟩) ?_ ?_
     rotate_left
     ·simp only [Act.put, sA, sB, sC, i64_w, i32_w]
      rfl
     refine pure_ (i := 18) (N := some 54) (v := undef) (a' := ?_) #[T,T,T,T,T,T,T,T,T,T,T,T,T,T,T,T,T,T,T,F,F,F,F,F,F,F,F,F,F,F,F,F,F,F,F,F,F,F,F] rfl rfl (any_of HT_.out (by kernel_rfl)) (fun _ _ _ h => h) (Or.inr ⟨by rfl, rfl⟩) ?_ ?_
     rotate_left
     ·simp only [Act.put, sA, sB, sC, i64_w, i32_w]
      rfl
     refine pure_ (i := 19) (N := some 55) (v := ?_) (a' := ?_) #[T,T,T,T,T,T,T,T,T,T,T,T,T,T,T,T,T,T,T,T,F,F,F,F,F,F,F,F,F,F,F,F,F,F,F,F,F,F,F] rfl rfl (any_of HT_.out (by kernel_rfl)) (fun _ _ _ h => h) (Or.inl ⟨by rfl, ?_⟩) ?_ ?_
     rotate_left
     ·intro w'
      go_simp
      with_reducible rfl
     rotate_left
     ·simp only [Act.put, sA, sB, sC, i64_w, i32_w]
      rfl
     refine pure_ (i := 20) (N := some 56) (v := ?_) (a' := ?_) #[T,T,T,T,T,T,T,T,T,T,T,T,T,T,T,T,T,T,T,T,T,F,F,F,F,F,F,F,F,F,F,F,F,F,F,F,F,F,F] rfl rfl (any_of HT_.out (by kernel_rfl)) (fun _ _ _ h => h) (Or.inl ⟨by rfl, ?_⟩) ?_ ?_
     rotate_left
     ·intro w'
      go_simp
      with_reducible rfl
     rotate_left
     ·simp only [Act.put, sA, sB, sC, i64_w, i32_w]
      rfl
     refine pure_ (i := 21) (N := some 57) (v := undef) (a' := ?_) #[T,T,T,T,T,T,T,T,T,T,T,T,T,T,T,T,T,T,T,T,T,T,F,F,F,F,F,F,F,F,F,F,F,F,F,F,F,F,F] rfl rfl (any_of HT_.out (by kernel_rfl)) (fun _ _ _ h => h) (Or.inr ⟨by rfl, rfl⟩) ?_ ?_
     rotate_left
     ·simp only [Act.put, sA, sB, sC, i64_w, i32_w]
      rfl
     refine pure_ (i := 22) (N := some 58) (v := undef) (a' := ?_) #[T,T,T,T,T,T,T,T,T,T,T,T,T,T,T,T,T,T,T,T,T,T,T,F,F,F,F,F,F,F,F,F,F,F,F,F,F,F,F] rfl rfl (any_of HT_.out (by kernel_rfl)) (fun _ _ _ h => h) (Or.inr ⟨by rfl, rfl⟩) ?_ ?_
     rotate_left
     ·simp only [Act.put, sA, sB, sC, i64_w, i32_w]
      rfl
     refine pure_ (i := 23) (N := some 59) (v := undef) (a' := ?_) #[T,T,T,T,T,T,T,T,T,T,T,T,T,T,T,T,T,T,T,T,T,T,T,T,F,F,F,F,F,F,F,F,F,F,F,F,F,F,F] rfl rfl (any_of HT_.out (by kernel_rfl)) (fun _ _ _ h => h) (Or.inr ⟨by rfl, rfl⟩) ?_ ?_
     rotate_left
     ·simp only [Act.put, sA, sB, sC, i64_w, i32_w]
      rfl
     refine pure_ (i := 24) (N := some 60) (v := undef) (a' := ?_) #[T,T,T,T,T,T,T,T,T,T,T,T,T,T,T,T,T,T,T,T,T,T,T,T,T,F,F,F,F,F,F,F,F,F,F,F,F,F,F] rfl rfl (any_of HT_.out (by kernel_rfl)) (fun _ _ _ h => h) (Or.inr ⟨by rfl, rfl⟩) ?_ ?_
     rotate_left
     ·simp only [Act.put, sA, sB, sC, i64_w, i32_w]
      rfl
     refine pure_ (i := 25) (N := some 61) (v := undef) (a' := ?_) #[T,T,T,T,T,T,T,T,T,T,T,T,T,T,T,T,T,T,T,T,T,T,T,T,T,T,F,F,F,F,F,F,F,F,F,F,F,F,F] rfl rfl (any_of HT_.out (by kernel_rfl)) (fun _ _ _ h => h) (Or.inr ⟨by rfl, rfl⟩) ?_ ?_
     rotate_left
     ·simp only [Act.put, sA, sB, sC, i64_w, i32_w]
      rfl
     refine pure_ (i := 26) (N := some 62) (v := undef) (a' := ?_) #[T,T,T,T,T,T,T,T,T,T,T,T,T,T,T,T,T,T,T,T,T,T,T,T,T,T,T,F,F,F,F,F,F,F,F,F,F,F,F] rfl rfl (any_of HT_.out (by kernel_rfl)) (fun _ _ _ h => h) (Or.inr ⟨by rfl, rfl⟩) ?_ ?_
     rotate_left
     ·simp only [Act.put, sA, sB, sC, i64_w, i32_w]
      rfl
     refine pure_ (i := 27) (N := some 63) (v := undef) (a' := ?_) #[T,T,T,T,T,T,T,T,T,T,T,T,T,T,T,T,T,T,T,T,T,T,T,T,T,T,T,T,F,F,F,F,F,F,F,F,F,F,F] rfl rfl (any_of HT_.out (by kernel_rfl)) (fun _ _ _ h => h) (Or.inr ⟨by rfl, rfl⟩) ?_ ?_
     rotate_left
     ·simp only [Act.put, sA, sB, sC, i64_w, i32_w]
      rfl
     refine pure_ (i := 28) (N := some 64) (v := ?_) (a' := ?_) #[T,T,T,T,T,T,T,T,T,T,T,T,T,T,T,T,T,T,T,T,T,T,T,T,T,T,T,T,T,F,F,F,F,F,F,F,F,F,F] rfl rfl (any_of HT_.out (by kernel_rfl)) (fun _ _ _ h => h) (Or.inl ⟨by rfl, ?_⟩) ?_ ?_
     rotate_left
     ·intro w'
      go_simp
      with_reducible rfl
     rotate_left
     ·simp only [Act.put, sA, sB, sC, i64_w, i32_w]
      rfl
     refine pure_ (i := 29) (N := some 65) (v := ?_) (a' := ?_) #[T,T,T,T,T,T,T,T,T,T,T,T,T,T,T,T,T,T,T,T,T,T,T,T,T,T,T,T,T,T,F,F,F,F,F,F,F,F,F] rfl rfl (any_of HT_.out (by kernel_rfl)) (fun _ _ _ h => h) (Or.inl ⟨by rfl, ?_⟩) ?_ ?_
     rotate_left
     ·intro w'
      go_simp
      with_reducible rfl
     rotate_left
     ·simp only [Act.put, sA, sB, sC, i64_w, i32_w]
      rfl
     refine pure_ (i := 30) (N := some 66) (v := undef) (a' := ?_) #[T,T,T,T,T,T,T,T,T,T,T,T,T,T,T,T,T,T,T,T,T,T,T,T,T,T,T,T,T,T,T,F,F,F,F,F,F,F,F] rfl rfl (any_of HT_.out (by kernel_rfl)) (fun _ _ _ h => h) (Or.inr ⟨by rfl, rfl⟩) ?_ ?_
     rotate_left
     ·simp only [Act.put, sA, sB, sC, i64_w, i32_w]
      rfl
     refine pure_ (i := 31) (N := some 67) (v := undef) (a' := ?_) #[T,T,T,T,T,T,T,T,T,T,T,T,T,T,T,T,T,T,T,T,T,T,T,T,T,T,T,T,T,T,T,T,F,F,F,F,F,F,F] rfl rfl (any_of HT_.out (by kernel_rfl)) (fun _ _ _ h => h) (Or.inr ⟨by rfl, rfl⟩) ?_ ?_
     rotate_left
     ·simp only [Act.put, sA, sB, sC, i64_w, i32_w]
      rfl
     refine pure_ (i := 32) (N := some 68) (v := undef) (a' := ?_) #[T,T,T,T,T,T,T,T,T,T,T,T,T,T,T,T,T,T,T,T,T,T,T,T,T,T,T,T,T,T,T,T,T,F,F,F,F,F,F] rfl rfl (any_of HT_.out (by kernel_rfl)) (fun _ _ _ h => h) (Or.inr ⟨by rfl, rfl⟩) ?_ ?_
     rotate_left
     ·simp only [Act.put, sA, sB, sC, i64_w, i32_w]
      rfl
     refine pure_ (i := 33) (N := some 69) (v := undef) (a' := ?_) #[T,T,T,T,T,T,T,T,T,T,T,T,T,T,T,T,T,T,T,T,T,T,T,T,T,T,T,T,T,T,T,T,T,T,F,F,F,F,F] rfl rfl (any_of HT_.out (by kernel_rfl)) (fun _ _ _ h => h) (Or.inr ⟨by rfl, rfl⟩) ?_ ?_
     rotate_left
     ·simp only [Act.put, sA, sB, sC, i64_w, i32_w]
      rfl
     refine pure_ (i := 34) (N := some 70) (v := undef) (a' := ?_) #[T,T,T,T,T,T,T,T,T,T,T,T,T,T,T,T,T,T,T,T,T,T,T,T,T,T,T,T,T,T,T,T,T,T,T,F,F,F,F] rfl rfl (any_of HT_.out (by kernel_rfl)) (fun _ _ _ h => h) (Or.inr ⟨by rfl, rfl⟩) ?_ ?_
     rotate_left
     ·simp only [Act.put, sA, sB, sC, i64_w, i32_w]
      rfl
     refine pure_ (i := 35) (N := some 71) (v := undef) (a' := ?_) #[T,T,T,T,T,T,T,T,T,T,T,T,T,T,T,T,T,T,T,T,T,T,T,T,T,T,T,T,T,T,T,T,T,T,T,T,F,F,F] rfl rfl (any_of HT_.out (by kernel_rfl)) (fun _ _ _ h => h) (Or.inr ⟨by rfl, rfl⟩) ?_ ?_
     rotate_left
     ·simp only [Act.put, sA, sB, sC, i64_w, i32_w]
      rfl
     refine pure_ (i := 36) (N := some 72) (v := undef) (a' := ?_) #[T,T,T,T,T,T,T,T,T,T,T,T,T,T,T,T,T,T,T,T,T,T,T,T,T,T,T,T,T,T,T,T,T,T,T,T,T,F,F] rfl rfl (any_of HT_.out (by kernel_rfl)) (fun _ _ _ h => h) (Or.inr ⟨by rfl, rfl⟩) ?_ ?_
     rotate_left
     ·simp only [Act.put, sA, sB, sC, i64_w, i32_w]
      rfl
     refine pure_ (i := 37) (N := some 73) (v := undef) (a' := ?_) #[T,T,T,T,T,T,T,T,T,T,T,T,T,T,T,T,T,T,T,T,T,T,T,T,T,T,T,T,T,T,T,T,T,T,T,T,T,T,F] rfl rfl (any_of HT_.out (by kernel_rfl)) (fun _ _ _ h => h) (Or.inr ⟨by rfl, rfl⟩) ?_ ?_
     rotate_left
     ·simp only [Act.put, sA, sB, sC, i64_w, i32_w]
      rfl
     refine pure_ (i := 38) (N := some 74) (v := ?_) (a' := ?_) #[T,T,T,T,T,T,T,T,T,T,T,T,T,T,T,T,T,T,T,T,T,T,T,T,T,T,T,T,T,T,T,T,T,T,T,T,T,T,T] rfl rfl (any_of HT_.out (by kernel_rfl)) (fun _ _ _ h => h) (Or.inl ⟨by rfl, ?_⟩) ?_ ?_
     rotate_left
     ·intro w'
      go_simp
      with_reducible rfl
     rotate_left
     ·simp only [Act.put, sA, sB, sC, i64_w, i32_w]
      rfl
     refine done_ (done_of HT_.out (by kernel_rfl)) ?_
     try go_wp2
     go_meet
     case rel => exact ⟨_, (true), (by first | rfl | (simp; done) | (simp [*]; done)), H', ⟨by first | omega | exact Nat.le_refl _⟩, ⟨by (with_reducible repeat first | apply bN | apply bD | apply bA); exact BK202.out⟩, ⟨by (with_reducible repeat first | apply bN | apply bD | apply bA); exact BK203.out⟩, ⟨by (with_reducible repeat first | apply bN | apply bD | apply bA); exact BK207.out⟩, ⟨by (with_reducible repeat first | apply bN | apply bD | apply bA); exact BK210.out⟩, ⟨by repeat (first | (with_reducible first | exact HB.out | apply lA | apply lN | apply lD | refine lS ?_ GE202.out | refine lS ?_ GE203.out | refine lS ?_ GE207.out | refine lS ?_ GE210.out) | exact HB.out)⟩⟩
   ·rw [if_neg c30] at H
    have c30b0 : (!(t211 == t213) || (!(t212 == t214))) = false := by simpa using c30
    clear c30
    (first | rw [c30b0] | (simp only [i64_w, i32_w]; rw [c30b0]) | skip)
    replace H := Option.bind_eq_some_iff.mp H
    obtain ⟨⟨t215, t216⟩, A350, H⟩ := H
    replace H : (if (!(t215 == t208) || (!(t216 == t209))) = true then (billiardlaw04_VecMatchesReference.j0 k a3 a4 true a0_0 a0_1 a1_0 a1_1) else ((vec_Neg.f a1_0 a1_1).bind fun bt217 => (if (!(bt217.1 == t205) || (!(bt217.2 == t206))) = true then (billiardlaw04_VecMatchesReference.j0 k a3 a4 true a0_0 a0_1 a1_0 a1_1) else ((vec_Scale.f a0_0 a0_1 a2).bind fun bt219 => ((billiardref04_Scale.f a0_0 a0_1 a2).bind fun bt221 => (if (!(bt219.1 == bt221.1) || (!(bt219.2 == bt221.2))) = true then (billiardlaw04_VecMatchesReference.j0 k a3 a4 true a0_0 a0_1 a1_0 a1_1) else ((vec_Perp.f a1_0 a1_1).bind fun bt223 => (billiardlaw04_VecMatchesReference.j0 k a3 a4 (!(bt223.1 == t206) || (!(bt223.2 == a1_0))) a0_0 a0_1 a1_0 a1_1)))))))) = some r := H
    have A35 := aM A350
    clear A350
    by_cases c36 : (!(t215 == t208) || (!(t216 == t209))) = true
    ·rw [if_pos c36] at H
     have c36b0 : (!(t215 == t208) || (!(t216 == t209))) = true := c36
     clear c36
     as_aux_lemma =>
      have H' := aM H
      clear H
      try go_wp2
      have n0_ : Aside0 (((w25.setCell ⟨b210, 0, none⟩ (.int .i32 t208)).setCell ⟨b210, 1, none⟩ (.int .i32 t209)).heap[b202]? = some (.cells #[.int .i32 a0_0, .int .i32 a0_1] 25 (0, 0))) := ⟨by (with_reducible repeat first | apply bN | apply bD | apply bA); refine bR ?_ N6_.out _; (with_reducible repeat first | apply bN | apply bD | apply bA); refine bR ?_ N6_.out _; (with_reducible repeat first | apply bN | apply bD | apply bA); exact BK202.out⟩
      have n1_ : Aside0 (((w25.setCell ⟨b210, 0, none⟩ (.int .i32 t208)).setCell ⟨b210, 1, none⟩ (.int .i32 t209)).heap[b203]? = some (.cells #[.int .i32 a1_0, .int .i32 a1_1] 25 (0, 0))) := ⟨by (with_reducible repeat first | apply bN | apply bD | apply bA); refine bR ?_ N8_.out _; (with_reducible repeat first | apply bN | apply bD | apply bA); refine bR ?_ N8_.out _; (with_reducible repeat first | apply bN | apply bD | apply bA); exact BK203.out⟩
      have n2_ : Aside0 (((w25.setCell ⟨b210, 0, none⟩ (.int .i32 t208)).setCell ⟨b210, 1, none⟩ (.int .i32 t209)).heap[b207]? = some (.cells #[.int .i32 t205, .int .i32 t206] 25 (0, 0))) := ⟨by (with_reducible repeat first | apply bN | apply bD | apply bA); refine bR ?_ N10_.out _; (with_reducible repeat first | apply bN | apply bD | apply bA); refine bR ?_ N10_.out _; (with_reducible repeat first | apply bN | apply bD | apply bA); exact BK207.out⟩
      have n3_ : Aside0 (((w25.setCell ⟨b210, 0, none⟩ (.int .i32 t208)).setCell ⟨b210, 1, none⟩ (.int .i32 t209)).heap[b210]? = some (.cells #[.int .i32 t208, .int .i32 t209] 25 (0, 0))) := ⟨by (with_reducible repeat first | apply bN | apply bD | apply bA); refine bP (cs := #[.int .i32 t208, .int .i32 0]) ?_ 1 _ rfl; (with_reducible repeat first | apply bN | apply bD | apply bA); refine bP (cs := #[.int .i32 0, .int .i32 0]) ?_ 0 _ rfl; (with_reducible repeat first | apply bN | apply bD | apply bA); exact BK210.out⟩
      have n4_ : Aside0 (Below w.heap.size w ((w25.setCell ⟨b210, 0, none⟩ (.int .i32 t208)).setCell ⟨b210, 1, none⟩ (.int .i32 t209))) := ⟨by repeat (first | (with_reducible first | exact HB.out | apply lA | apply lN | apply lD | refine lS ?_ GE202.out | refine lS ?_ GE203.out | refine lS ?_ GE207.out | refine lS ?_ GE210.out) | exact HB.out)⟩
      (try clear BK202)
      (try clear BK203)
      (try clear BK207)
      (try clear BK210)
      (try clear HB)
      generalize ((w25.setCell ⟨b210, 0, none⟩ (.int .i32 t208)).setCell ⟨b210, 1, none⟩ (.int .i32 t209)) = w37 at n0_ n1_ n2_ n3_ n4_ ⊢
      have BK202 := n0_
      have BK203 := n1_
      have BK207 := n2_
      have BK210 := n3_
      have HB := n4_
      clear n0_ n1_ n2_ n3_ n4_
      have n0_ := aM (bD BK202.out)
      have n1_ := aM (bD BK203.out)
      have n2_ := aM (bD BK207.out)
      have n3_ := aM (bD BK210.out)
      have n4_ := aM (lD HB.out)
      clear BK202
      clear BK203
      clear BK207
      clear BK210
      clear HB
      have BK202 := n0_
      have BK203 := n1_
      have BK207 := n2_
      have BK210 := n3_
      have HB := n4_
      clear n0_ n1_ n2_ n3_ n4_
      refine start_ (n := 39) (S := fun w' => w'.cell? ⟨b202, 0, none⟩ = some (.int .i32 a0_0) ∧ w'.cell? ⟨b202, 1, none⟩ = some (.int .i32 a0_1) ∧ w'.cell? ⟨b203, 0, none⟩ = some (.int .i32 a1_0) ∧ w'.cell? ⟨b203, 1, none⟩ = some (.int .i32 a1_1) ∧ w'.cell? ⟨b210, 0, none⟩ = some (.int .i32 t208) ∧ w'.cell? ⟨b210, 1, none⟩ = some (.int .i32 t209)) (ds := []) #[F,F,F,F,F,F,F,F,F,F,F,F,F,F,F,F,F,F,F,F,F,F,F,F,F,F,F,F,F,F,F,F,F,F,F,F,F,F,F] (by kernel_rfl) rfl rfl ⟨(bC BK202.out 0).trans rfl, (bC BK202.out 1).trans rfl, (bC BK203.out 0).trans rfl, (bC BK203.out 1).trans rfl, (bC BK210.out 0).trans rfl, (bC BK210.out 1).trans rfl⟩ (fun hHeld => ?_); refine with_tabW billiardlaw04_VecMatchesReference.tab5 billiardlaw04_VecMatchesReference.bits5 (fun HT_ HW_ => ?_)
      generalize w37.drew = w38 at BK202 BK203 BK207 BK210 HB hHeld ⊢
      refine take_ (i := 0) (N := some 36) (v := ?_) (a' := ?_) #[T,F,F,F,F,F,F,F,F,F,F,F,F,F,F,F,F,F,F,F,F,F,F,F,F,F,F,F,F,F,F,F,F,F,F,F,F,F,F] rfl rfl (take_ofW HT_.out HW_.out (by kernel_rfl)) (fun _ _ _ h => h) (Or.inl ⟨by rfl, ?_⟩) hHeld ?_ ?_
      rotate_left
      ·rintro w' ⟨s0, s1, s2, s3, s4, s5⟩
       go_simp
       with_reducible rfl
      rotate_left
      ·simp only [Act.put, sA, sB, sC, i64_w, i32_w]
       rfl
      refine take_ (i := 1) (N := some 37) (v := ?_) (a' := ?_) #[T,T,F,F,F,F,F,F,F,F,F,F,F,F,F,F,F,F,F,F,F,F,F,F,F,F,F,F,F,F,F,F,F,F,F,F,F,F,F] rfl rfl (take_ofW HT_.out HW_.out (by kernel_rfl)) (fun _ _ _ h => h) (Or.inl ⟨by rfl, ?_⟩) hHeld ?_ ?_
      rotate_left
      ·rintro w' ⟨s0, s1, s2, s3, s4, s5⟩
       go_simp
       with_reducible rfl
      rotate_left
      ·simp only [Act.put, sA, sB, sC, i64_w, i32_w]
       rfl
      refine take_ (i := 3) (N := some 39) (v := ?_) (a' := ?_) #[T,T,F,T,F,F,F,F,F,F,F,F,F,F,F,F,F,F,F,F,F,F,F,F,F,F,F,F,F,F,F,F,F,F,F,F,F,F,F] rfl rfl (take_ofW HT_.out HW_.out (by kernel_rfl)) (fun _ _ _ h => h) (Or.inl ⟨by rfl, ?_⟩) hHeld ?_ ?_
      rotate_left
      ·rintro w' ⟨s0, s1, s2, s3, s4, s5⟩
       go_simp
       with_reducible rfl
      rotate_left
      ·simp only [Act.put, sA, sB, sC, i64_w, i32_w]
       rfl
      refine take_ (i := 4) (N := some 40) (v := ?_) (a' := ?_) #[T,T,F,T,T,F,F,F,F,F,F,F,F,F,F,F,F,F,F,F,F,F,F,F,F,F,F,F,F,F,F,F,F,F,F,F,F,F,F] rfl rfl (take_ofW HT_.out HW_.out (by kernel_rfl)) (fun _ _ _ h => h) (Or.inl ⟨by rfl, ?_⟩) hHeld ?_ ?_
      rotate_left
      ·rintro w' ⟨s0, s1, s2, s3, s4, s5⟩
       go_simp
       with_reducible rfl
      rotate_left
      ·simp only [Act.put, sA, sB, sC, i64_w, i32_w]
       rfl
      refine one_ (i := 2) (N := some 38) #[T,T,T,T,T,F,F,F,F,F,F,F,F,F,F,F,F,F,F,F,F,F,F,F,F,F,F,F,F,F,F,F,F,F,F,F,F,F,F] rfl rfl (one_of HT_.out (by kernel_rfl)) (by decide) (fun K hK => ?_)
      refine goes_ Try.func18 (by kernel_rfl) rfl #[.agg #[.int .i32 a0_0, .int .i32 a0_1], .agg #[.int .i32 a1_0, .int .i32 a1_1]] (by rfl) rfl rfl (by (try simp only [List.map_toArray, List.map_cons, List.map_nil]); first | done | rfl | (simp only [List.length_drop, List.length_take]; rfl)) ?_
      with_reducible refine (vec_Add.calls a0_0 a0_1 a1_0 a1_1 t211 t212 _ A28.out).mono ?_
      rintro e w39 ⟨rfl, hb⟩
      refine ⟨_, rfl, ?_⟩
      have n0_ := aM (bB (by (with_reducible repeat first | apply bN | apply bD | apply bA); exact BK202.out) hb)
      have n1_ := aM (bB (by (with_reducible repeat first | apply bN | apply bD | apply bA); exact BK203.out) hb)
      have n2_ := aM (bB (by (with_reducible repeat first | apply bN | apply bD | apply bA); exact BK207.out) hb)
      have n3_ := aM (bB (by (with_reducible repeat first | apply bN | apply bD | apply bA); exact BK210.out) hb)
      have n4_ := aM (lT (by repeat (first | (with_reducible first | exact HB.out | apply lA | apply lN | apply lD | refine lS ?_ GE202.out | refine lS ?_ GE203.out | refine lS ?_ GE207.out | refine lS ?_ GE210.out) | exact HB.out)) hb)
      clear BK202
      clear BK203
      clear BK207
      clear BK210
      clear HB
      have BK202 := n0_
      have BK203 := n1_
      have BK207 := n2_
      have BK210 := n3_
      have HB := n4_
      clear n0_ n1_ n2_ n3_ n4_
      (try clear hb)
      (try clear hb2)
      (try clear hk)
      (try clear hi)
      refine hK.out _ _ ⟨(bC BK202.out 0).trans rfl, (bC BK202.out 1).trans rfl, (bC BK203.out 0).trans rfl, (bC BK203.out 1).trans rfl, (bC BK210.out 0).trans rfl, (bC BK210.out 1).trans rfl⟩ (fun hHeld => ?_)
      clear hK K
      refine norm_ (a' := ?_) ?_ ?_
      rotate_left
      ·show Act.put _ (some 38) _ = _
       simp only [Act.put, sA, sB, sC, i64_w, i32_w]
       rfl
      refine one_ (i := 5) (N := some 41) #[T,T,T,T,T,T,F,F,F,F,F,F,F,F,F,F,F,F,F,F,F,F,F,F,F,F,F,F,F,F,F,F,F,F,F,F,F,F,F] rfl rfl (one_of HT_.out (by kernel_rfl)) (by decide) (fun K hK => ?_)
      refine goes_ Try.func19 (by kernel_rfl) rfl #[.agg #[.int .i32 a0_0, .int .i32 a0_1], .agg #[.int .i32 a1_0, .int .i32 a1_1]] (by rfl) rfl rfl (by (try simp only [List.map_toArray, List.map_cons, List.map_nil]); first | done | rfl | (simp only [List.length_drop, List.length_take]; rfl)) ?_
      with_reducible refine (billiardref04_Add.calls a0_0 a0_1 a1_0 a1_1 t213 t214 _ A29.out).mono ?_
      rintro e w40 ⟨rfl, hb⟩
      refine ⟨_, rfl, ?_⟩
      have n0_ := aM (bB (by (with_reducible repeat first | apply bN | apply bD | apply bA); exact BK202.out) hb)
      have n1_ := aM (bB (by (with_reducible repeat first | apply bN | apply bD | apply bA); exact BK203.out) hb)
      have n2_ := aM (bB (by (with_reducible repeat first | apply bN | apply bD | apply bA); exact BK207.out) hb)
      have n3_ := aM (bB (by (with_reducible repeat first | apply bN | apply bD | apply bA); exact BK210.out) hb)
      have n4_ := aM (lT (by repeat (first | (with_reducible first | exact HB.out | apply lA | apply lN | apply lD | refine lS ?_ GE202.out | refine lS ?_ GE203.out | refine lS ?_ GE207.out | refine lS ?_ GE210.out) | exact HB.out)) hb)
      clear BK202
      clear BK203
      clear BK207
      clear BK210
      clear HB
      have BK202 := n0_
      have BK203 := n1_
      have BK207 := n2_
      have BK210 := n3_
      have HB := n4_
      clear n0_ n1_ n2_ n3_ n4_
      (try clear hb)
      (try clear hb2)
      (try clear hk)
      (try clear hi)
      refine hK.out _ _ ⟨(bC BK202.out 0).trans rfl, (bC BK202.out 1).trans rfl, (bC BK203.out 0).trans rfl, (bC BK203.out 1).trans rfl, (bC BK210.out 0).trans rfl, (bC BK210.out 1).trans rfl⟩ (fun hHeld => ?_)
      clear hK K
      refine norm_ (a' := ?_) ?_ ?_
      rotate_left
      ·show Act.put _ (some 41) _ = _
       simp only [Act.put, sA, sB, sC, i64_w, i32_w]
       rfl
      refine pure_ (i := 6) (N := some 42) (v := ?_) (a' := ?_) #[T,T,T,T,T,T,T,F,F,F,F,F,F,F,F,F,F,F,F,F,F,F,F,F,F,F,F,F,F,F,F,F,F,F,F,F,F,F,F] rfl rfl (any_of HT_.out (by kernel_rfl)) (fun _ _ _ h => h) (Or.inl ⟨by rfl, ?_⟩) ?_ ?_
      rotate_left
      ·intro w'
       go_simp
       with_reducible rfl
      rotate_left
      ·simp only [Act.put, sA, sB, sC, i64_w, i32_w]
       rfl
      refine pure_ (i := 7) (N := some 43) (v := ?_) (a' := ?_) #[T,T,T,T,T,T,T,T,F,F,F,F,F,F,F,F,F,F,F,F,F,F,F,F,F,F,F,F,F,F,F,F,F,F,F,F,F,F,F] rfl rfl (any_of HT_.out (by kernel_rfl)) (fun _ _ _ h => h) (Or.inl ⟨by rfl, ?_⟩) ?_ ?_
      rotate_left
      ·intro w'
       go_simp
       with_reducible rfl
      rotate_left
      ·simp only [Act.put, sA, sB, sC, i64_w, i32_w]
       rfl
      refine take_ (i := 8) (N := some 44) (v := ?_) (a' := ?_) #[T,T,T,T,T,T,T,T,T,F,F,F,F,F,F,F,F,F,F,F,F,F,F,F,F,F,F,F,F,F,F,F,F,F,F,F,F,F,F] rfl rfl (take_ofW HT_.out HW_.out (by kernel_rfl)) (fun _ _ _ h => h) (Or.inl ⟨by rfl, ?_⟩) hHeld ?_ ?_
      rotate_left
      ·rintro w' ⟨s0, s1, s2, s3, s4, s5⟩
       go_simp
       with_reducible rfl
      rotate_left
      ·simp only [Act.put, sA, sB, sC, i64_w, i32_w]
       rfl
      refine take_ (i := 9) (N := some 45) (v := ?_) (a' := ?_) #[T,T,T,T,T,T,T,T,T,T,F,F,F,F,F,F,F,F,F,F,F,F,F,F,F,F,F,F,F,F,F,F,F,F,F,F,F,F,F] rfl rfl (take_ofW HT_.out HW_.out (by kernel_rfl)) (fun _ _ _ h => h) (Or.inl ⟨by rfl, ?_⟩) hHeld ?_ ?_
      rotate_left
      ·rintro w' ⟨s0, s1, s2, s3, s4, s5⟩
       go_simp
       with_reducible rfl
      rotate_left
      ·simp only [Act.put, sA, sB, sC, i64_w, i32_w]
       rfl
      refine take_ (i := 11) (N := some 47) (v := ?_) (a' := ?_) #[T,T,T,T,T,T,T,T,T,T,F,T,F,F,F,F,F,F,F,F,F,F,F,F,F,F,F,F,F,F,F,F,F,F,F,F,F,F,F] rfl rfl (take_ofW HT_.out HW_.out (by kernel_rfl)) (fun _ _ _ h => h) (Or.inl ⟨by rfl, ?_⟩) hHeld ?_ ?_
      rotate_left
      ·rintro w' ⟨s0, s1, s2, s3, s4, s5⟩
       go_simp
       with_reducible rfl
      rotate_left
      ·simp only [Act.put, sA, sB, sC, i64_w, i32_w]
       rfl
      refine one_ (i := 10) (N := some 46) #[T,T,T,T,T,T,T,T,T,T,T,T,F,F,F,F,F,F,F,F,F,F,F,F,F,F,F,F,F,F,F,F,F,F,F,F,F,F,F] rfl rfl (one_of HT_.out (by kernel_rfl)) (by decide) (fun K hK => ?_)
      refine goes_ Try.func20 (by kernel_rfl) rfl #[.agg #[.int .i32 a0_0, .int .i32 a0_1], .agg #[.int .i32 a1_0, .int .i32 a1_1]] (by rfl) rfl rfl (by (try simp only [List.map_toArray, List.map_cons, List.map_nil]); first | done | rfl | (simp only [List.length_drop, List.length_take]; rfl)) ?_
      with_reducible refine (vec_Sub.calls a0_0 a0_1 a1_0 a1_1 t215 t216 _ A35.out).mono ?_
      rintro e w41 ⟨rfl, hb⟩
      refine ⟨_, rfl, ?_⟩
      have n0_ := aM (bB (by (with_reducible repeat first | apply bN | apply bD | apply bA); exact BK202.out) hb)
      have n1_ := aM (bB (by (with_reducible repeat first | apply bN | apply bD | apply bA); exact BK203.out) hb)
      have n2_ := aM (bB (by (with_reducible repeat first | apply bN | apply bD | apply bA); exact BK207.out) hb)
      have n3_ := aM (bB (by (with_reducible repeat first | apply bN | apply bD | apply bA); exact BK210.out) hb)
      have n4_ := aM (lT (by repeat (first | (with_reducible first | exact HB.out | apply lA | apply lN | apply lD | refine lS ?_ GE202.out | refine lS ?_ GE203.out | refine lS ?_ GE207.out | refine lS ?_ GE210.out) | exact HB.out)) hb)
      clear BK202
      clear BK203
      clear BK207
      clear BK210
      clear HB
      have BK202 := n0_
      have BK203 := n1_
      have BK207 := n2_
      have BK210 := n3_
      have HB := n4_
      clear n0_ n1_ n2_ n3_ n4_
      (try clear hb)
      (try clear hb2)
      (try clear hk)
      (try clear hi)
      refine hK.out _ _ ⟨(bC BK202.out 0).trans rfl, (bC BK202.out 1).trans rfl, (bC BK203.out 0).trans rfl, (bC BK203.out 1).trans rfl, (bC BK210.out 0).trans rfl, (bC BK210.out 1).trans rfl⟩ (fun hHeld => ?_)
      clear hK K
      refine norm_ (a' := ?_) ?_ ?_
      rotate_left
      ·show Act.put _ (some 46) _ = _
       simp only [Act.put, sA, sB, sC, i64_w, i32_w]
       rfl
      refine pure_ (i := 12) (N := some 48) (v := ?_) (a' := ?_) #[T,T,T,T,T,T,T,T,T,T,T,T,T,F,F,F,F,F,F,F,F,F,F,F,F,F,F,F,F,F,F,F,F,F,F,F,F,F,F] rfl rfl (any_of HT_.out (by kernel_rfl)) (fun _ _ _ h => h) (Or.inl ⟨by rfl, ?_⟩) ?_ ?_
      rotate_left
      ·intro w'
       go_simp
       with_reducible rfl
      rotate_left
      ·simp only [Act.put, sA, sB, sC, i64_w, i32_w]
       rfl
      refine pure_ (i := 13) (N := some 49) (v := ?_) (a' := ?_) #[T,T,T,T,T,T,T,T,T,T,T,T,T,T,F,F,F,F,F,F,F,F,F,F,F,F,F,F,F,F,F,F,F,F,F,F,F,F,F] rfl rfl (any_of HT_.out (by kernel_rfl)) (fun _ _ _ h => h) (Or.inl ⟨by rfl, ?_⟩) ?_ ?_
      rotate_left
      ·intro w'
       go_simp
       with_reducible rfl
      rotate_left
      ·simp only [Act.put, sA, sB, sC, i64_w, i32_w]
       rfl
      refine pure_ (i := 14) (N := some 50) (v := ?_) (a' := ?_) #[T,T,T,T,T,T,T,T,T,T,T,T,T,T,T,F,F,F,F,F,F,F,F,F,F,F,F,F,F,F,F,F,F,F,F,F,F,F,F] rfl rfl (any_of HT_.out (by kernel_rfl)) (fun _ _ _ h => h) (Or.inl ⟨by rfl, ?_⟩) ?_ ?_
      rotate_left
      ·intro w'
       go_simp
       with_reducible rfl
      rotate_left
      ·simp only [Act.put, sA, sB, sC, i64_w, i32_w]
       rfl
      refine pure_ (i := 15) (N := some 51) (v := undef) (a' := ?_) #[T,T,T,T,T,T,T,T,T,T,T,T,T,T,T,T,F,F,F,F,F,F,F,F,F,F,F,F,F,F,F,F,F,F,F,F,F,F,F] rfl rfl (any_of HT_.out (by kernel_rfl)) (fun _ _ _ h => h) (Or.inr ⟨by rfl, rfl⟩) ?_ ?_
      rotate_left
      ·simp only [Act.put, sA, sB, sC, i64_w, i32_w]
       rfl
      refine pure_ (i := 16) (N := some 52) (v := undef) (a' := ?_) #[T,T,T,T,T,T,T,T,T,T,T,T,T,T,T,T,T,F,F,F,F,F,F,F,F,F,F,F,F,F,F,F,F,F,F,F,F,F,F] rfl rfl (any_of HT_.out (by kernel_rfl)) (fun _ _ _ h => h) (Or.inr ⟨by rfl, rfl⟩) ?_ ?_
      rotate_left
      ·simp only [Act.put, sA, sB, sC, i64_w, i32_w]
       rfl
      refine pure_ (i := 17) (N := some 53) (v := undef) (a' := ?_) #[T,T,T,T,T,T,T,T,T,T,T,T,T,T,T,T,T,T,F,F,F,F,F,F,F,F,F,F,F,F,F,F,F,F,F,F,F,F,F] rfl rfl (any_of HT_.out (by kernel_rfl)) (fun _ _ _ h => h) (Or.inr ⟨by rfl, rfl⟩) ?_ ?_
      rotate_left
      ·simp only [Act.put, sA, sB, sC, i64_w, i32_w]
       rfl
      refine pure_ (i := 18) (N := some 54) (v := undef) (a' := ?_) #[T,T,T,T,T,T,T,T,T,T,T,T,T,T,T,T,T,T,T,F,F,F,F,F,F,F,F,F,F,F,F,F,F,F,F,F,F,F,F] rfl rfl (any_of HT_.out (by kernel_rfl)) (fun _ _ _ h => h) (Or.inr ⟨by rfl, rfl⟩) ?_ ?_
      rotate_left
      ·simp only [Act.put, sA, sB, sC, i64_w, i32_w]
       rfl
      refine pure_ (i := 19) (N := some 55) (v := ?_) (a' := ?_) #[T,T,T,T,T,T,T,T,T,T,T,T,T,T,T,T,T,T,T,T,F,F,F,F,F,F,F,F,F,F,F,F,F,F,F,F,F,F,F] rfl rfl (any_of HT_.out (by kernel_rfl)) (fun _ _ _ h => h) (Or.inl ⟨by rfl, ?_⟩) ?_ ?_
      rotate_left
      ·intro w'
       go_simp
       with_reducible rfl
      rotate_left
      ·simp only [Act.put, sA, sB, sC, i64_w, i32_w]
       rfl
      refine pure_ (i := 20) (N := some 56) (v := ?_) (a' := ?_) #[T,T,T,T,T,T,T,T,T,T,T,T,T,T,T,T,T,T,T,T,T,F,F,F,F,F,F,F,F,F,F,F,F,F,F,F,F,F,F] rfl rfl (any_of HT_.out (by kernel_rfl)) (fun _ _ _ h => h) (Or.inl ⟨by rfl, ?_⟩) ?_ ?_
      rotate_left
      ·intro w'
       go_simp
       with_reducible rfl
      rotate_left
      ·simp only [Act.put, sA, sB, sC, i64_w, i32_w]
       rfl
      refine pure_ (i := 21) (N := some 57) (v := undef) (a' := ?_) #[T,T,T,T,T,T,T,T,T,T,T,T,T,T,T,T,T,T,T,T,T,T,F,F,F,F,F,F,F,F,F,F,F,F,F,F,F,F,F] rfl rfl (any_of HT_.out (by kernel_rfl)) (fun _ _ _ h => h) (Or.inr ⟨by rfl, rfl⟩) ?_ ?_
      rotate_left
      ·simp only [Act.put, sA, sB, sC, i64_w, i32_w]
       rfl
      refine pure_ (i := 22) (N := some 58) (v := undef) (a' := ?_) #[T,T,T,T,T,T,T,T,T,T,T,T,T,T,T,T,T,T,T,T,T,T,T,F,F,F,F,F,F,F,F,F,F,F,F,F,F,F,F] rfl rfl (any_of HT_.out (by kernel_rfl)) (fun _ _ _ h => h) (Or.inr ⟨by rfl, rfl⟩) ?_ ?_
      rotate_left
      ·simp only [Act.put, sA, sB, sC, i64_w, i32_w]
       rfl
      refine pure_ (i := 23) (N := some 59) (v := undef) (a' := ?_) #[T,T,T,T,T,T,T,T,T,T,T,T,T,T,T,T,T,T,T,T,T,T,T,T,F,F,F,F,F,F,F,F,F,F,F,F,F,F,F] rfl rfl (any_of HT_.out (by kernel_rfl)) (fun _ _ _ h => h) (Or.inr ⟨by rfl, rfl⟩) ?_ ?_
      rotate_left
      ·simp only [Act.put, sA, sB, sC, i64_w, i32_w]
       rfl
      refine pure_ (i := 24) (N := some 60) (v := undef) (a' := ?_) #[T,T,T,T,T,T,T,T,T,T,T,T,T,T,T,T,T,T,T,T,T,T,T,T,T,F,F,F,F,F,F,F,F,F,F,F,F,F,F] rfl rfl (any_of HT_.out (by kernel_rfl)) (fun _ _ _ h => h) (Or.inr ⟨by rfl, rfl⟩) ?_ ?_
      rotate_left
      ·simp only [Act.put, sA, sB, sC, i64_w, i32_w]
       rfl
      refine pure_ (i := 25) (N := some 61) (v := undef) (a' := ?_) #[T,T,T,T,T,T,T,T,T,T,T,T,T,T,T,T,T,T,T,T,T,T,T,T,T,T,F,F,F,F,F,F,F,F,F,F,F,F,F] rfl rfl (any_of HT_.out (by kernel_rfl)) (fun _ _ _ h => h) (Or.inr ⟨by rfl, rfl⟩) ?_ ?_
      rotate_left
      ·simp only [Act.put, sA, sB, sC, i64_w, i32_w]
       rfl
      refine pure_ (i := 26) (N := some 62) (v := undef) (a' := ?_) #[T,T,T,T,T,T,T,T,T,T,T,T,T,T,T,T,T,T,T,T,T,T,T,T,T,T,T,F,F,F,F,F,F,F,F,F,F,F,F] rfl rfl (any_of HT_.out (by kernel_rfl)) (fun _ _ _ h => h) (Or.inr ⟨by rfl, rfl⟩) ?_ ?_
      rotate_left
      ·simp only [Act.put, sA, sB, sC, i64_w, i32_w]
       rfl
      refine pure_ (i := 27) (N := some 63) (v := undef) (a' := ?_) #[T,T,T,T,T,T,T,T,T,T,T,T,T,T,T,T,T,T,T,T,T,T,T,T,T,T,T,T,F,F,F,F,F,F,F,F,F,F,F] rfl rfl (any_of HT_.out (by kernel_rfl)) (fun _ _ _ h => h) (Or.inr ⟨by rfl, rfl⟩) ?_ ?_
      rotate_left
      ·simp only [Act.put, sA, sB, sC, i64_w, i32_w]
       rfl
      refine pure_ (i := 28) (N := some 64) (v := ?_) (a' := ?_) #[T,T,T,T,T,T,T,T,T,T,T,T,T,T,T,T,T,T,T,T,T,T,T,T,T,T,T,T,T,F,F,F,F,F,F,F,F,F,F] rfl rfl (any_of HT_.out (by kernel_rfl)) (fun _ _ _ h => h) (Or.inl ⟨by rfl, ?_⟩) ?_ ?_
      rotate_left
      ·intro w'
       go_simp
       with_reducible rfl
      rotate_left
      ·simp only [Act.put, sA, sB, sC, i64_w, i32_w]
       rfl
      refine pure_ (i := 29) (N := some 65) (v := ?_) (a' := ?_) #[T,T,T,T,T,T,T,T,T,T,T,T,T,T,T,T,T,T,T,T,T,T,T,T,T,T,T,T,T,T,F,F,F,F,F,F,F,F,F] rfl rfl (any_of HT_.out (by kernel_rfl)) (fun _ _ _ h => h) (Or.inl ⟨by rfl, ?_⟩) ?_ ?_
      rotate_left
      ·intro w'
       go_simp
       with_reducible rfl
      rotate_left
      ·simp only [Act.put, sA, sB, sC, i64_w, i32_w]
       rfl
      refine pure_ (i := 30) (N := some 66) (v := undef) (a' := ?_) #[T,T,T,T,T,T,T,T,T,T,T,T,T,T,T,T,T,T,T,T,T,T,T,T,T,T,T,T,T,T,T,F,F,F,F,F,F,F,F] rfl rfl (any_of HT_.out (by kernel_rfl)) (fun _ _ _ h => h) (Or.inr ⟨by rfl, rfl⟩) ?_ ?_
      rotate_left
      ·simp only [Act.put, sA, sB, sC, i64_w, i32_w]
       rfl
      refine pure_ (i := 31) (N := some 67) (v := undef) (a' := ?_) #[T,T,T,T,T,T,T,T,T,T,T,T,T,T,T,T,T,T,T,T,T,T,T,T,T,T,T,T,T,T,T,T,F,F,F,F,F,F,F] rfl rfl (any_of HT_.out (by kernel_rfl)) (fun _ _ _ h => h) (Or.inr ⟨by rfl, rfl⟩) ?_ ?_
      rotate_left
      ·simp only [Act.put, sA, sB, sC, i64_w, i32_w]
       rfl
      refine pure_ (i := 32) (N := some 68) (v := undef) (a' := ?_) #[T,T,T,T,T,T,T,T,T,T,T,T,T,T,T,T,T,T,T,T,T,T,T,T,T,T,T,T,T,T,T,T,T,F,F,F,F,F,F] rfl rfl (any_of HT_.out (by kernel_rfl)) (fun _ _ _ h => h) (Or.inr ⟨by rfl, rfl⟩) ?_ ?_
      rotate_left
      ·simp only [Act.put, sA, sB, sC, i64_w, i32_w]
       rfl
      refine pure_ (i := 33) (N := some 69) (v := undef) (a' := ?_) #[T,T,T,T,T,T,T,T,T,T,T,T,T,T,T,T,T,T,T,T,T,T,T,T,T,T,T,T,T,T,T,T,T,T,F,F,F,F,F] rfl rfl (any_of HT_.out (by kernel_rfl)) (fun _ _ _ h => h) (Or.inr ⟨by rfl, rfl⟩) ?_ ?_
      rotate_left
      ·simp only [Act.put, sA, sB, sC, i64_w, i32_w]
       rfl
      refine pure_ (i := 34) (N := some 70) (v := undef) (a' := ?_) #[T,T,T,T,T,T,T,T,T,T,T,T,T,T,T,T,T,T,T,T,T,T,T,T,T,T,T,T,T,T,T,T,T,T,T,F,F,F,F] rfl rfl (any_of HT_.out (by kernel_rfl)) (fun _ _ _ h => h) (Or.inr ⟨by rfl, rfl⟩) ?_ ?_
      rotate_left
      ·simp only [Act.put, sA, sB, sC, i64_w, i32_w]
       rfl
      refine pure_ (i := 35) (N := some 71) (v := undef) (a' := ?_) #[T,T,T,T,T,T,T,T,T,T,T,T,T,T,T,T,T,T,T,T,T,T,T,T,T,T,T,T,T,T,T,T,T,T,T,T,F,F,F] rfl rfl (any_of HT_.out (by kernel_rfl)) (fun _ _ _ h => h) (Or.inr ⟨by rfl, rfl⟩) ?_ ?_
      rotate_left
      ·simp only [Act.put, sA, sB, sC, i64_w, i32_w]
       rfl
      refine pure_ (i := 36) (N := some 72) (v := undef) (a' := ?_) #[T,T,T,T,T,T,T,T,T,T,T,T,T,T,T,T,T,T,T,T,T,T,T,T,T,T,T,T,T,T,T,T,T,T,T,T,T,F,F] rfl rfl (any_of HT_.out (by kernel_rfl)) (fun _ _ _ h => h) (Or.inr ⟨by rfl, rfl⟩) ?_ ?_
      rotate_left
      ·simp only [Act.put, sA, sB, sC, i64_w, i32_w]
       rfl
      refine pure_ (i := 37) (N := some 73) (v := undef) (a' := ?_) #[T,T,T,T,T,T,T,T,T,T,T,T,T,T,T,T,T,T,T,T,T,T,T,T,T,T,T,T,T,T,T,T,T,T,T,T,T,T,F] rfl rfl (any_of HT_.out (by kernel_rfl)) (fun _ _ _ h => h) (Or.inr ⟨by rfl, rfl⟩) ?_ ?_
      rotate_left
      ·simp only [Act.put, sA, sB, sC, i64_w, i32_w]
       rfl
      refine pure_ (i := 38) (N := some 74) (v := ?_) (a' := ?_) #[T,T,T,T,T,T,T,T,T,T,T,T,T,T,T,T,T,T,T,T,T,T,T,T,T,T,T,T,T,T,T,T,T,T,T,T,T,T,T] rfl rfl (any_of HT_.out (by kernel_rfl)) (fun _ _ _ h => h) (Or.inl ⟨by rfl, ?_⟩) ?_ ?_
      rotate_left
      ·intro w'
       go_simp
       with_reducible rfl
      rotate_left
      ·simp only [Act.put, sA, sB, sC, i64_w, i32_w]
       rfl
      refine done_ (done_of HT_.out (by kernel_rfl)) ?_
      try go_wp2
      go_meet
      case rel => exact ⟨_, (true), (by first | rfl | (simp; done) | (simp [*]; done)), H', ⟨by first | omega | exact Nat.le_refl _⟩, ⟨by (with_reducible repeat first | apply bN | apply bD | apply bA); exact BK202.out⟩, ⟨by (with_reducible repeat first | apply bN | apply bD | apply bA); exact BK203.out⟩, ⟨by (with_reducible repeat first | apply bN | apply bD | apply bA); exact BK207.out⟩, ⟨by (with_reducible repeat first | apply bN | apply bD | apply bA); exact BK210.out⟩, ⟨by repeat (first | (with_reducible first | exact HB.out | apply lA | apply lN | apply lD | refine lS ?_ GE202.out | refine lS ?_ GE203.out | refine lS ?_ GE207.out | refine lS ?_ GE210.out) | exact HB.out)⟩⟩
    ·rw [if_neg c36] at H
     have c36b0 : (!(t215 == t208) || (!(t216 == t209))) = false := by simpa using c36
     clear c36
     replace H := Option.bind_eq_some_iff.mp H
     obtain ⟨⟨t217, t218⟩, A420, H⟩ := H
     replace H : (if (!(t217 == t205) || (!(t218 == t206))) = true then (billiardlaw04_VecMatchesReference.j0 k a3 a4 true a0_0 a0_1 a1_0 a1_1) else ((vec_Scale.f a0_0 a0_1 a2).bind fun bt219 => ((billiardref04_Scale.f a0_0 a0_1 a2).bind fun bt221 => (if (!(bt219.1 == bt221.1) || (!(bt219.2 == bt221.2))) = true then (billiardlaw04_VecMatchesReference.j0 k a3 a4 true a0_0 a0_1 a1_0 a1_1) else ((vec_Perp.f a1_0 a1_1).bind fun bt223 => (billiardlaw04_VecMatchesReference.j0 k a3 a4 (!(bt223.1 == t206) || (!(bt223.2 == a1_0))) a0_0 a0_1 a1_0 a1_1)))))) = some r := H
     have A42 := aM A420
     clear A420
     by_cases c43 : (!(t217 == t205) || (!(t218 == t206))) = true
     ·rw [if_pos c43] at H
      have c43b0 : (!(t217 == t205) || (!(t218 == t206))) = true := c43
      clear c43
      as_aux_lemma =>
       have H' := aM H
       clear H
       try go_wp2
       have n0_ : Aside0 (((w25.setCell ⟨b210, 0, none⟩ (.int .i32 t208)).setCell ⟨b210, 1, none⟩ (.int .i32 t209)).heap[b202]? = some (.cells #[.int .i32 a0_0, .int .i32 a0_1] 25 (0, 0))) := ⟨by (with_reducible repeat first | apply bN | apply bD | apply bA); refine bR ?_ N6_.out _; (with_reducible repeat first | apply bN | apply bD | apply bA); refine bR ?_ N6_.out _; (with_reducible repeat first | apply bN | apply bD | apply bA); exact BK202.out⟩
       have n1_ : Aside0 (((w25.setCell ⟨b210, 0, none⟩ (.int .i32 t208)).setCell ⟨b210, 1, none⟩ (.int .i32 t209)).heap[b203]? = some (.cells #[.int .i32 a1_0, .int .i32 a1_1] 25 (0, 0))) := ⟨by (with_reducible repeat first | apply bN | apply bD | apply bA); refine bR ?_ N8_.out _; (with_reducible repeat first | apply bN | apply bD | apply bA); refine bR ?_ N8_.out _; (with_reducible repeat first | apply bN | apply bD | apply bA); exact BK203.out⟩
       have n2_ : Aside0 (((w25.setCell ⟨b210, 0, none⟩ (.int .i32 t208)).setCell ⟨b210, 1, none⟩ (.int .i32 t209)).heap[b207]? = some (.cells #[.int .i32 t205, .int .i32 t206] 25 (0, 0))) := ⟨by (with_reducible repeat first | apply bN | apply bD | apply bA); refine bR ?_ N10_.out _; (with_reducible repeat first | apply bN | apply bD | apply bA); refine bR ?_ N10_.out _; (with_reducible repeat first | apply bN | apply bD | apply bA); exact BK207.out⟩
       have n3_ : Aside0 (((w25.setCell ⟨b210, 0, none⟩ (.int .i32 t208)).setCell ⟨b210, 1, none⟩ (.int .i32 t209)).heap[b210]? = some (.cells #[.int .i32 t208, .int .i32 t209] 25 (0, 0))) := ⟨by (with_reducible repeat first | apply bN | apply bD | apply bA); refine bP (cs := #[.int .i32 t208, .int .i32 0]) ?_ 1 _ rfl; (with_reducible repeat first | apply bN | apply bD | apply bA); refine bP (cs := #[.int .i32 0, .int .i32 0]) ?_ 0 _ rfl; (with_reducible repeat first | apply bN | apply bD | apply bA); exact BK210.out⟩
       have n4_ : Aside0 (Below w.heap.size w ((w25.setCell ⟨b210, 0, none⟩ (.int .i32 t208)).setCell ⟨b210, 1, none⟩ (.int .i32 t209))) := ⟨by repeat (first | (with_reducible first | exact HB.out | apply lA | apply lN | apply lD | refine lS ?_ GE202.out | refine lS ?_ GE203.out | refine lS ?_ GE207.out | refine lS ?_ GE210.out) | exact HB.out)⟩
       (try clear BK202)
       (try clear BK203)
       (try clear BK207)
       (try clear BK210)
       (try clear HB)
       generalize ((w25.setCell ⟨b210, 0, none⟩ (.int .i32 t208)).setCell ⟨b210, 1, none⟩ (.int .i32 t209)) = w44 at n0_ n1_ n2_ n3_ n4_ ⊢
       have BK202 := n0_
       have BK203 := n1_
       have BK207 := n2_
       have BK210 := n3_
       have HB := n4_
       clear n0_ n1_ n2_ n3_ n4_
       have n0_ := aM (bD BK202.out)
       have n1_ := aM (bD BK203.out)
       have n2_ := aM (bD BK207.out)
       have n3_ := aM (bD BK210.out)
       have n4_ := aM (lD HB.out)
       clear BK202
       clear BK203
       clear BK207
       clear BK210
       clear HB
       have BK202 := n0_
       have BK203 := n1_
       have BK207 := n2_
       have BK210 := n3_
       have HB := n4_
       clear n0_ n1_ n2_ n3_ n4_
       refine start_ (n := 39) (S := fun w' => w'.cell? ⟨b202, 0, none⟩ = some (.int .i32 a0_0) ∧ w'.cell? ⟨b202, 1, none⟩ = some (.int .i32 a0_1) ∧ w'.cell? ⟨b203, 0, none⟩ = some (.int .i32 a1_0) ∧ w'.cell? ⟨b203, 1, none⟩ = some (.int .i32 a1_1) ∧ w'.cell? ⟨b210, 0, none⟩ = some (.int .i32 t208) ∧ w'.cell? ⟨b210, 1, none⟩ = some (.int .i32 t209) ∧ w'.cell? ⟨b207, 0, none⟩ = some (.int .i32 t205) ∧ w'.cell? ⟨b207, 1, none⟩ = some (.int .i32 t206)) (ds := []) #[F,F,F,F,F,F,F,F,F,F,F,F,F,F,F,F,F,F,F,F,F,F,F,F,F,F,F,F,F,F,F,F,F,F,F,F,F,F,F] (by kernel_rfl) rfl rfl ⟨(bC BK202.out 0).trans rfl, (bC BK202.out 1).trans rfl, (bC BK203.out 0).trans rfl, (bC BK203.out 1).trans rfl, (bC BK210.out 0).trans rfl, (bC BK210.out 1).trans rfl, (bC BK207.out 0).trans rfl, (bC BK207.out 1).trans rfl⟩ (fun hHeld => ?_); refine with_tabW billiardlaw04_VecMatchesReference.tab5 billiardlaw04_VecMatchesReference.bits5 (fun HT_ HW_ => ?_)
       generalize w44.drew = w45 at BK202 BK203 BK207 BK210 HB hHeld ⊢
       refine take_ (i := 0) (N := some 36) (v := ?_) (a' := ?_) #[T,F,F,F,F,F,F,F,F,F,F,F,F,F,F,F,F,F,F,F,F,F,F,F,F,F,F,F,F,F,F,F,F,F,F,F,F,F,F] rfl rfl (take_ofW HT_.out HW_.out (by kernel_rfl)) (fun _ _ _ h => h) (Or.inl ⟨by rfl, ?_⟩) hHeld ?_ ?_
       rotate_left
       ·rintro w' ⟨s0, s1, s2, s3, s4, s5, s6, s7⟩
        go_simp
        with_reducible rfl
       rotate_left
       ·simp only [Act.put, sA, sB, sC, i64_w, i32_w]
        rfl
       refine take_ (i := 1) (N := some 37) (v := ?_) (a' := ?_) #[T,T,F,F,F,F,F,F,F,F,F,F,F,F,F,F,F,F,F,F,F,F,F,F,F,F,F,F,F,F,F,F,F,F,F,F,F,F,F] rfl rfl (take_ofW HT_.out HW_.out (by kernel_rfl)) (fun _ _ _ h => h) (Or.inl ⟨by rfl, ?_⟩) hHeld ?_ ?_
       rotate_left
       ·rintro w' ⟨s0, s1, s2, s3, s4, s5, s6, s7⟩
        go_simp
        with_reducible rfl
       rotate_left
       ·simp only [Act.put, sA, sB, sC, i64_w, i32_w]
        rfl
       refine take_ (i := 3) (N := some 39) (v := ?_) (a' := ?_) #[T,T,F,T,F,F,F,F,F,F,F,F,F,F,F,F,F,F,F,F,F,F,F,F,F,F,F,F,F,F,F,F,F,F,F,F,F,F,F] rfl rfl (take_ofW HT_.out HW_.out (by kernel_rfl)) (fun _ _ _ h => h) (Or.inl ⟨by rfl, ?_⟩) hHeld ?_ ?_
       rotate_left
       ·rintro w' ⟨s0, s1, s2, s3, s4, s5, s6, s7⟩
        go_simp
        with_reducible rfl
       rotate_left
       ·simp only [Act.put, sA, sB, sC, i64_w, i32_w]
        rfl
       refine take_ (i := 4) (N := some 40) (v := ?_) (a' := ?_) #[T,T,F,T,T,F,F,F,F,F,F,F,F,F,F,F,F,F,F,F,F,F,F,F,F,F,F,F,F,F,F,F,F,F,F,F,F,F,F] rfl rfl (take_ofW HT_.out HW_.out (by kernel_rfl)) (fun _ _ _ h => h) (Or.inl ⟨by rfl, ?_⟩) hHeld ?_ ?_
       rotate_left
       ·rintro w' ⟨s0, s1, s2, s3, s4, s5, s6, s7⟩
        go_simp
        with_reducible rfl
       rotate_left
       ·simp only [Act.put, sA, sB, sC, i64_w, i32_w]
        rfl
       refine one_ (i := 2) (N := some 38) #[T,T,T,T,T,F,F,F,F,F,F,F,F,F,F,F,F,F,F,F,F,F,F,F,F,F,F,F,F,F,F,F,F,F,F,F,F,F,F] rfl rfl (one_of HT_.out (by kernel_rfl)) (by decide) (fun K hK => ?_)
       refine goes_ Try.func18 (by kernel_rfl) rfl #[.agg #[.int .i32 a0_0, .int .i32 a0_1], .agg #[.int .i32 a1_0, .int .i32 a1_1]] (by rfl) rfl rfl (by (try simp only [List.map_toArray, List.map_cons, List.map_nil]); first | done | rfl | (simp only [List.length_drop, List.length_take]; rfl)) ?_
       with_reducible refine (vec_Add.calls a0_0 a0_1 a1_0 a1_1 t211 t212 _ A28.out).mono ?_
       rintro e w46 ⟨rfl, hb⟩
       refine ⟨_, rfl, ?_⟩
       have n0_ := aM (bB (by (with_reducible repeat first | apply bN | apply bD | apply bA); exact BK202.out) hb)
       have n1_ := aM (bB (by (with_reducible repeat first | apply bN | apply bD | apply bA); exact BK203.out) hb)
       have n2_ := aM (bB (by (with_reducible repeat first | apply bN | apply bD | apply bA); exact BK207.out) hb)
       have n3_ := aM (bB (by (with_reducible repeat first | apply bN | apply bD | apply bA); exact BK210.out) hb)
       have n4_ := aM (lT (by repeat (first | (with_reducible first | exact HB.out | apply lA | apply lN | apply lD | refine lS ?_ GE202.out | refine lS ?_ GE203.out | refine lS ?_ GE207.out | refine lS ?_ GE210.out) | exact HB.out)) hb)
       clear BK202
       clear BK203
       clear BK207
       clear BK210
       clear HB
       have BK202 := n0_
       have BK203 := n1_
       have BK207 := n2_
       have BK210 := n3_
       have HB := n4_
       clear n0_ n1_ n2_ n3_ n4_
       (try clear hb)
       (try clear hb2)
       (try clear hk)
       (try clear hi)
       refine hK.out _ _ ⟨(bC BK202.out 0).trans rfl, (bC BK202.out 1).trans rfl, (bC BK203.out 0).trans rfl, (bC BK203.out 1).trans rfl, (bC BK210.out 0).trans rfl, (bC BK210.out 1).trans rfl, (bC BK207.out 0).trans rfl, (bC BK207.out 1).trans rfl⟩ (fun hHeld => ?_)
       clear hK K
       refine norm_ (a' := ?_) ?_ ?_
       rotate_left
       ·show Act.put _ (some 38) _ = _
        simp only [Act.put, sA, sB, sC, i64_w, i32_w]
        rfl
       refine one_ (i := 5) (N := some 41) #[T,T,T,T,T,T,F,F,F,F,F,F,F,F,F,F,F,F,F,F,F,F,F,F,F,F,F,F,F,F,F,F,F,F,F,F,F,F,F] rfl rfl (one_of HT_.out (by kernel_rfl)) (by decide) (fun K hK => ?_)
       refine goes_ Try.func19 (by kernel_rfl) rfl #[.agg #[.int .i32 a0_0, .int .i32 a0_1], .agg #[.int .i32 a1_0, .int .i32 a1_1]] (by rfl) rfl rfl (by (try simp only [List.map_toArray, List.map_cons, List.map_nil]); first | done | rfl | (simp only [List.length_drop, List.length_take]; rfl)) ?_
       with_reducible refine (billiardref04_Add.calls a0_0 a0_1 a1_0 a1_1 t213 t214 _ A29.out).mono ?_
       rintro e w47 ⟨rfl, hb⟩
       refine ⟨_, rfl, ?_⟩
       have n0_ := aM (bB (by (with_reducible repeat first | apply bN | apply bD | apply bA); exact BK202.out) hb)
       have n1_ := aM (bB (by (with_reducible repeat first | apply bN | apply bD | apply bA); exact BK203.out) hb)
       have n2_ := aM (bB (by (with_reducible repeat first | apply bN | apply bD | apply bA); exact BK207.out) hb)
       have n3_ := aM (bB (by (with_reducible repeat first | apply bN | apply bD | apply bA); exact BK210.out) hb)
       have n4_ := aM (lT (by repeat (first | (with_reducible first | exact HB.out | apply lA | apply lN | apply lD | refine lS ?_ GE202.out | refine lS ?_ GE203.out | refine lS ?_ GE207.out | refine lS ?_ GE210.out) | exact HB.out)) hb)
       clear BK202
       clear BK203
       clear BK207
       clear BK210
       clear HB
       have BK202 := n0_
       have BK203 := n1_
       have BK207 := n2_
       have BK210 := n3_
       have HB := n4_
       clear n0_ n1_ n2_ n3_ n4_
       (try clear hb)
       (try clear hb2)
       (try clear hk)
       (try clear hi)
       refine hK.out _ _ ⟨(bC BK202.out 0).trans rfl, (bC BK202.out 1).trans rfl, (bC BK203.out 0).trans rfl, (bC BK203.out 1).trans rfl, (bC BK210.out 0).trans rfl, (bC BK210.out 1).trans rfl, (bC BK207.out 0).trans rfl, (bC BK207.out 1).trans rfl⟩ (fun hHeld => ?_)
       clear hK K
       refine norm_ (a' := ?_) ?_ ?_
       rotate_left
       ·show Act.put _ (some 41) _ = _
        simp only [Act.put, sA, sB, sC, i64_w, i32_w]
        rfl
       refine pure_ (i := 6) (N := some 42) (v := ?_) (a' := ?_) #[T,T,T,T,T,T,T,F,F,F,F,F,F,F,F,F,F,F,F,F,F,F,F,F,F,F,F,F,F,F,F,F,F,F,F,F,F,F,F] rfl rfl (any_of HT_.out (by kernel_rfl)) (fun _ _ _ h => h) (Or.inl ⟨by rfl, ?_⟩) ?_ ?_
       rotate_left
       ·intro w'
        go_simp
        with_reducible rfl
       rotate_left
       ·simp only [Act.put, sA, sB, sC, i64_w, i32_w]
        rfl
       refine pure_ (i := 7) (N := some 43) (v := ?_) (a' := ?_) #[T,T,T,T,T,T,T,T,F,F,F,F,F,F,F,F,F,F,F,F,F,F,F,F,F,F,F,F,F,F,F,F,F,F,F,F,F,F,F] rfl rfl (any_of HT_.out (by kernel_rfl)) (fun _ _ _ h => h) (Or.inl ⟨by rfl, ?_⟩) ?_ ?_
       rotate_left
       ·intro w'
        go_simp
        with_reducible rfl
       rotate_left
       ·simp only [Act.put, sA, sB, sC, i64_w, i32_w]
        rfl
       refine take_ (i := 8) (N := some 44) (v := ?_) (a' := ?_) #[T,T,T,T,T,T,T,T,T,F,F,F,F,F,F,F,F,F,F,F,F,F,F,F,F,F,F,F,F,F,F,F,F,F,F,F,F,F,F] rfl rfl (take_ofW HT_.out HW_.out (by kernel_rfl)) (fun _ _ _ h => h) (Or.inl ⟨by rfl, ?_⟩) hHeld ?_ ?_
       rotate_left
       ·rintro w' ⟨s0, s1, s2, s3, s4, s5, s6, s7⟩
        go_simp
        with_reducible rfl
       rotate_left
       ·simp only [Act.put, sA, sB, sC, i64_w, i32_w]
        rfl
       refine take_ (i := 9) (N := some 45) (v := ?_) (a' := ?_) #[T,T,T,T,T,T,T,T,T,T,F,F,F,F,F,F,F,F,F,F,F,F,F,F,F,F,F,F,F,F,F,F,F,F,F,F,F,F,F] rfl rfl (take_ofW HT_.out HW_.out (by kernel_rfl)) (fun _ _ _ h => h) (Or.inl ⟨by rfl, ?_⟩) hHeld ?_ ?_
       rotate_left
       ·rintro w' ⟨s0, s1, s2, s3, s4, s5, s6, s7⟩
        go_simp
        with_reducible rfl
       rotate_left
       ·simp only [Act.put, sA, sB, sC, i64_w, i32_w]
        rfl
       refine take_ (i := 11) (N := some 47) (v := ?_) (a' := ?_) #[T,T,T,T,T,T,T,T,T,T,F,T,F,F,F,F,F,F,F,F,F,F,F,F,F,F,F,F,F,F,F,F,F,F,F,F,F,F,F] rfl rfl (take_ofW HT_.out HW_.out (by kernel_rfl)) (fun _ _ _ h => h) (Or.inl ⟨by rfl, ?_⟩) hHeld ?_ ?_
       rotate_left
       ·rintro w' ⟨s0, s1, s2, s3, s4, s5, s6, s7⟩
        go_simp
        with_reducible rfl
       rotate_left
       ·simp only [Act.put, sA, sB, sC, i64_w, i32_w]
        rfl
       refine one_ (i := 10) (N := some 46) #[T,T,T,T,T,T,T,T,T,T,T,T,F,F,F,F,F,F,F,F,F,F,F,F,F,F,F,F,F,F,F,F,F,F,F,F,F,F,F] rfl rfl (one_of HT_.out (by kernel_rfl)) (by decide) (fun K hK => ?_)
       refine goes_ Try.func20 (by kernel_rfl) rfl #[.agg #[.int .i32 a0_0, .int .i32 a0_1], .agg #[.int .i32 a1_0, .int .i32 a1_1]] (by rfl) rfl rfl (by (try simp only [List.map_toArray, List.map_cons, List.map_nil]); first | done | rfl | (simp only [List.length_drop, List.length_take]; rfl)) ?_
       with_reducible refine (vec_Sub.calls a0_0 a0_1 a1_0 a1_1 t215 t216 _ A35.out).mono ?_
       rintro e w48 ⟨rfl, hb⟩
       refine ⟨_, rfl, ?_⟩
       have n0_ := aM (bB (by (with_reducible repeat first | apply bN | apply bD | apply bA); exact BK202.out) hb)
       have n1_ := aM (bB (by (with_reducible repeat first | apply bN | apply bD | apply bA); exact BK203.out) hb)
       have n2_ := aM (bB (by (with_reducible repeat first | apply bN | apply bD | apply bA); exact BK207.out) hb)
       have n3_ := aM (bB (by (with_reducible repeat first | apply bN | apply bD | apply bA); exact BK210.out) hb)
       have n4_ := aM (lT (by repeat (first | (with_reducible first | exact HB.out | apply lA | apply lN | apply lD | refine lS ?_ GE202.out | refine lS ?_ GE203.out | refine lS ?_ GE207.out | refine lS ?_ GE210.out) | exact HB.out)) hb)
       clear BK202
       clear BK203
       clear BK207
       clear BK210
       clear HB
       have BK202 := n0_
       have BK203 := n1_
       have BK207 := n2_
       have BK210 := n3_
       have HB := n4_
       clear n0_ n1_ n2_ n3_ n4_
       (try clear hb)
       (try clear hb2)
       (try clear hk)
       (try clear hi)
       refine hK.out _ _ ⟨(bC BK202.out 0).trans rfl, (bC BK202.out 1).trans rfl, (bC BK203.out 0).trans rfl, (bC BK203.out 1).trans rfl, (bC BK210.out 0).trans rfl, (bC BK210.out 1).trans rfl, (bC BK207.out 0).trans rfl, (bC BK207.out 1).trans rfl⟩ (fun hHeld => ?_)
       clear hK K
       refine norm_ (a' := ?_) ?_ ?_
       rotate_left
       ·show Act.put _ (some 46) _ = _
        simp only [Act.put, sA, sB, sC, i64_w, i32_w]
        rfl
       refine pure_ (i := 12) (N := some 48) (v := ?_) (a' := ?_) #[T,T,T,T,T,T,T,T,T,T,T,T,T,F,F,F,F,F,F,F,F,F,F,F,F,F,F,F,F,F,F,F,F,F,F,F,F,F,F] rfl rfl (any_of HT_.out (by kernel_rfl)) (fun _ _ _ h => h) (Or.inl ⟨by rfl, ?_⟩) ?_ ?_
       rotate_left
       ·intro w'
        go_simp
        with_reducible rfl
       rotate_left
       ·simp only [Act.put, sA, sB, sC, i64_w, i32_w]
        rfl
       refine pure_ (i := 13) (N := some 49) (v := ?_) (a' := ?_) #[T,T,T,T,T,T,T,T,T,T,T,T,T,T,F,F,F,F,F,F,F,F,F,F,F,F,F,F,F,F,F,F,F,F,F,F,F,F,F] rfl rfl (any_of HT_.out (by kernel_rfl)) (fun _ _ _ h => h) (Or.inl ⟨by rfl, ?_⟩) ?_ ?_
       rotate_left
       ·intro w'
        go_simp
        with_reducible rfl
       rotate_left
       ·simp only [Act.put, sA, sB, sC, i64_w, i32_w]
        rfl
       refine pure_ (i := 14) (N := some 50) (v := ?_) (a' := ?_) #[T,T,T,T,T,T,T,T,T,T,T,T,T,T,T,F,F,F,F,F,F,F,F,F,F,F,F,F,F,F,F,F,F,F,F,F,F,F,F] rfl rfl (any_of HT_.out (by kernel_rfl)) (fun _ _ _ h => h) (Or.inl ⟨by rfl, ?_⟩) ?_ ?_
       rotate_left
       ·intro w'
        go_simp
        with_reducible rfl
       rotate_left
       ·simp only [Act.put, sA, sB, sC, i64_w, i32_w]
        rfl
       refine take_ (i := 15) (N := some 51) (v := ?_) (a' := ?_) #[T,T,T,T,T,T,T,T,T,T,T,T,T,T,T,T,F,F,F,F,F,F,F,F,F,F,F,F,F,F,F,F,F,F,F,F,F,F,F] rfl rfl (take_ofW HT_.out HW_.out (by kernel_rfl)) (fun _ _ _ h => h) (Or.inl ⟨by rfl, ?_⟩) hHeld ?_ ?_
       rotate_left
       ·rintro w' ⟨s0, s1, s2, s3, s4, s5, s6, s7⟩
        go_simp
        with_reducible rfl
       rotate_left
       ·simp only [Act.put, sA, sB, sC, i64_w, i32_w]
        rfl
       refine take_ (i := 17) (N := some 53) (v := ?_) (a' := ?_) #[T,T,T,T,T,T,T,T,T,T,T,T,T,T,T,T,F,T,F,F,F,F,F,F,F,F,F,F,F,F,F,F,F,F,F,F,F,F,F] rfl rfl (take_ofW HT_.out HW_.out (by kernel_rfl)) (fun _ _ _ h => h) (Or.inl ⟨by rfl, ?_⟩) hHeld ?_ ?_
       rotate_left
       ·rintro w' ⟨s0, s1, s2, s3, s4, s5, s6, s7⟩
        go_simp
        with_reducible rfl
       rotate_left
       ·simp only [Act.put, sA, sB, sC, i64_w, i32_w]
        rfl
       refine one_ (i := 16) (N := some 52) #[T,T,T,T,T,T,T,T,T,T,T,T,T,T,T,T,T,T,F,F,F,F,F,F,F,F,F,F,F,F,F,F,F,F,F,F,F,F,F] rfl rfl (one_of HT_.out (by kernel_rfl)) (by decide) (fun K hK => ?_)
       refine goes_ Try.func21 (by kernel_rfl) rfl #[.agg #[.int .i32 a1_0, .int .i32 a1_1]] (by rfl) rfl rfl (by (try simp only [List.map_toArray, List.map_cons, List.map_nil]); first | done | rfl | (simp only [List.length_drop, List.length_take]; rfl)) ?_
       with_reducible refine (vec_Neg.calls a1_0 a1_1 t217 t218 _ A42.out).mono ?_
       rintro e w49 ⟨rfl, hb⟩
       refine ⟨_, rfl, ?_⟩
       have n0_ := aM (bB (by (with_reducible repeat first | apply bN | apply bD | apply bA); exact BK202.out) hb)
       have n1_ := aM (bB (by (with_reducible repeat first | apply bN | apply bD | apply bA); exact BK203.out) hb)
       have n2_ := aM (bB (by (with_reducible repeat first | apply bN | apply bD | apply bA); exact BK207.out) hb)
       have n3_ := aM (bB (by (with_reducible repeat first | apply bN | apply bD | apply bA); exact BK210.out) hb)
       have n4_ := aM (lT (by repeat (first | (with_reducible first | exact HB.out | apply lA | apply lN | apply lD | refine lS ?_ GE202.out | refine lS ?_ GE203.out | refine lS ?_ GE207.out | refine lS ?_ GE210.out) | exact HB.out)) hb)
       clear BK202
       clear BK203
       clear BK207
       clear BK210
       clear HB
       have BK202 := n0_
       have BK203 := n1_
       have BK207 := n2_
       have BK210 := n3_
       have HB := n4_
       clear n0_ n1_ n2_ n3_ n4_
       (try clear hb)
       (try clear hb2)
       (try clear hk)
       (try clear hi)
       refine hK.out _ _ ⟨(bC BK202.out 0).trans rfl, (bC BK202.out 1).trans rfl, (bC BK203.out 0).trans rfl, (bC BK203.out 1).trans rfl, (bC BK210.out 0).trans rfl, (bC BK210.out 1).trans rfl, (bC BK207.out 0).trans rfl, (bC BK207.out 1).trans rfl⟩ (fun hHeld => ?_)
       clear hK K
       refine norm_ (a' := ?_) ?_ ?_
       rotate_left
       ·show Act.put _ (some 52) _ = _
        simp only [Act.put, sA, sB, sC, i64_w, i32_w]
        rfl
       refine pure_ (i := 18) (N := some 54) (v := ?_) (a' := ?_) #[T,T,T,T,T,T,T,T,T,T,T,T,T,T,T,T,T,T,T,F,F,F,F,F,F,F,F,F,F,F,F,F,F,F,F,F,F,F,F] rfl rfl (any_of HT_.out (by kernel_rfl)) (fun _ _ _ h => h) (Or.inl ⟨by rfl, ?_⟩) ?_ ?_
       rotate_left
       ·intro w'
        go_simp
        with_reducible rfl
       rotate_left
       ·simp only [Act.put, sA, sB, sC, i64_w, i32_w]
        rfl
       refine pure_ (i := 19) (N := some 55) (v := ?_) (a' := ?_) #[T,T,T,T,T,T,T,T,T,T,T,T,T,T,T,T,T,T,T,T,F,F,F,F,F,F,F,F,F,F,F,F,F,F,F,F,F,F,F] rfl rfl (any_of HT_.out (by kernel_rfl)) (fun _ _ _ h => h) (Or.inl ⟨by rfl, ?_⟩) ?_ ?_
       rotate_left
       ·intro w'
        go_simp
        with_reducible rfl
       rotate_left
       ·simp only [Act.put, sA, sB, sC, i64_w, i32_w]
        rfl
       refine pure_ (i := 20) (N := some 56) (v := ?_) (a' := ?_) #[T,T,T,T,T,T,T,T,T,T,T,T,T,T,T,T,T,T,T,T,T,F,F,F,F,F,F,F,F,F,F,F,F,F,F,F,F,F,F] rfl rfl (any_of HT_.out (by kernel_rfl)) (fun _ _ _ h => h) (Or.inl ⟨by rfl, ?_⟩) ?_ ?_
       rotate_left
       ·intro w'
        go_simp
        with_reducible rfl
       rotate_left
       ·simp only [Act.put, sA, sB, sC, i64_w, i32_w]
        rfl
       refine pure_ (i := 21) (N := some 57) (v := undef) (a' := ?_) #[T,T,T,T,T,T,T,T,T,T,T,T,T,T,T,T,T,T,T,T,T,T,F,F,F,F,F,F,F,F,F,F,F,F,F,F,F,F,F] rfl rfl (any_of HT_.out (by kernel_rfl)) (fun _ _ _ h => h) (Or.inr ⟨by rfl, rfl⟩) ?_ ?_
       rotate_left
       ·simp only [Act.put, sA, sB, sC, i64_w, i32_w]
        rfl
       refine pure_ (i := 22) (N := some 58) (v := undef) (a' := ?_) #[T,T,T,T,T,T,T,T,T,T,T,T,T,T,T,T,T,T,T,T,T,T,T,F,F,F,F,F,F,F,F,F,F,F,F,F,F,F,F] rfl rfl (any_of HT_.out (by kernel_rfl)) (fun _ _ _ h => h) (Or.inr ⟨by rfl, rfl⟩) ?_ ?_
       rotate_left
       ·simp only [Act.put, sA, sB, sC, i64_w, i32_w]
        rfl
       refine pure_ (i := 23) (N := some 59) (v := undef) (a' := ?_) #[T,T,T,T,T,T,T,T,T,T,T,T,T,T,T,T,T,T,T,T,T,T,T,T,F,F,F,F,F,F,F,F,F,F,F,F,F,F,F] rfl rfl (any_of HT_.out (by kernel_rfl)) (fun _ _ _ h => h) (Or.inr ⟨by rfl, rfl⟩) ?_ ?_
       rotate_left
       ·simp only [Act.put, sA, sB, sC, i64_w, i32_w]
        rfl
       refine pure_ (i := 24) (N := some 60) (v := undef) (a' := ?_) #[T,T,T,T,T,T,T,T,T,T,T,T,T,T,T,T,T,T,T,T,T,T,T,T,T,F,F,F,F,F,F,F,F,F,F,F,F,F,F] rfl rfl (any_of HT_.out (by kernel_rfl)) (fun _ _ _ h => h) (Or.inr ⟨by rfl, rfl⟩) ?_ ?_
       rotate_left
       ·simp only [Act.put, sA, sB, sC, i64_w, i32_w]
        rfl
       refine pure_ (i := 25) (N := some 61) (v := undef) (a' := ?_) #[T,T,T,T,T,T,T,T,T,T,T,T,T,T,T,T,T,T,T,T,T,T,T,T,T,T,F,F,F,F,F,F,F,F,F,F,F,F,F] rfl rfl (any_of HT_.out (by kernel_rfl)) (fun _ _ _ h => h) (Or.inr ⟨by rfl, rfl⟩) ?_ ?_
       rotate_left
       ·simp only [Act.put, sA, sB, sC, i64_w, i32_w]
        rfl
       refine pure_ (i := 26) (N := some 62) (v := undef) (a' := ?_) #[T,T,T,T,T,T,T,T,T,T,T,T,T,T,T,T,T,T,T,T,T,T,T,T,T,T,T,F,F,F,F,F,F,F,F,F,F,F,F] rfl rfl (any_of HT_.out (by kernel_rfl)) (fun _ _ _ h => h) (Or.inr ⟨by rfl, rfl⟩) ?_ ?_
       rotate_left
       ·simp only [Act.put, sA, sB, sC, i64_w, i32_w]
        rfl
       refine pure_ (i := 27) (N := some 63) (v := undef) (a' := ?_) #[T,T,T,T,T,T,T,T,T,T,T,T,T,T,T,T,T,T,T,T,T,T,T,T,T,T,T,T,F,F,F,F,F,F,F,F,F,F,F] rfl rfl (any_of HT_.out (by kernel_rfl)) (fun _ _ _ h => h) (Or.inr ⟨by rfl, rfl⟩) ?_ ?_
       rotate_left
       ·simp only [Act.put, sA, sB, sC, i64_w, i32_w]
        rfl
       refine pure_ (i := 28) (N := some 64) (v := ?_) (a' := ?_) #[T,T,T,T,T,T,T,T,T,T,T,T,T,T,T,T,T,T,T,T,T,T,T,T,T,T,T,T,T,F,F,F,F,F,F,F,F,F,F] rfl rfl (any_of HT_.out (by kernel_rfl)) (fun _ _ _ h => h) (Or.inl ⟨by rfl, ?_⟩) ?_ ?_
       rotate_left
       ·intro w'
        go_simp
        with_reducible rfl
       rotate_left
       ·simp only [Act.put, sA, sB, sC, i64_w, i32_w]
        rfl
       refine pure_ (i := 29) (N := some 65) (v := ?_) (a' := ?_) #[T,T,T,T,T,T,T,T,T,T,T,T,T,T,T,T,T,T,T,T,T,T,T,T,T,T,T,T,T,T,F,F,F,F,F,F,F,F,F] rfl rfl (any_of HT_.out (by kernel_rfl)) (fun _ _ _ h => h) (Or.inl ⟨by rfl, ?_⟩) ?_ ?_
       rotate_left
       ·intro w'
        go_simp
        with_reducible rfl
       rotate_left
       ·simp only [Act.put, sA, sB, sC, i64_w, i32_w]
        rfl
       refine pure_ (i := 30) (N := some 66) (v := undef) (a' := ?_) #[T,T,T,T,T,T,T,T,T,T,T,T,T,T,T,T,T,T,T,T,T,T,T,T,T,T,T,T,T,T,T,F,F,F,F,F,F,F,F] rfl rfl (any_of HT_.out (by kernel_rfl)) (fun _ _ _ h => h) (Or.inr ⟨by rfl, rfl⟩) ?_ ?_
       rotate_left
       ·simp only [Act.put, sA, sB, sC, i64_w, i32_w]
        rfl
       refine pure_ (i := 31) (N := some 67) (v := undef) (a' := ?_) #[T,T,T,T,T,T,T,T,T,T,T,T,T,T,T,T,T,T,T,T,T,T,T,T,T,T,T,T,T,T,T,T,F,F,F,F,F,F,F] rfl rfl (any_of HT_.out (by kernel_rfl)) (fun _ _ _ h => h) (Or.inr ⟨by rfl, rfl⟩) ?_ ?_
       rotate_left
       ·simp only [Act.put, sA, sB, sC, i64_w, i32_w]
        rfl
       refine pure_ (i := 32) (N := some 68) (v := undef) (a' := ?_) #[T,T,T,T,T,T,T,T,T,T,T,T,T,T,T,T,T,T,T,T,T,T,T,T,T,T,T,T,T,T,T,T,T,F,F,F,F,F,F] rfl rfl (any_of HT_.out (by kernel_rfl)) (fun _ _ _ h => h) (Or.inr ⟨by rfl, rfl⟩) ?_ ?_
       rotate_left
       ·simp only [Act.put, sA, sB, sC, i64_w, i32_w]
        rfl
       refine pure_ (i := 33) (N := some 69) (v := undef) (a' := ?_) #[T,T,T,T,T,T,T,T,T,T,T,T,T,T,T,T,T,T,T,T,T,T,T,T,T,T,T,T,T,T,T,T,T,T,F,F,F,F,F] rfl rfl (any_of HT_.out (by kernel_rfl)) (fun _ _ _ h => h) (Or.inr ⟨by rfl, rfl⟩) ?_ ?_
       rotate_left
       ·simp only [Act.put, sA, sB, sC, i64_w, i32_w]
        rfl
       refine pure_ (i := 34) (N := some 70) (v := undef) (a' := ?_) #[T,T,T,T,T,T,T,T,T,T,T,T,T,T,T,T,T,T,T,T,T,T,T,T,T,T,T,T,T,T,T,T,T,T,T,F,F,F,F] rfl rfl (any_of HT_.out (by kernel_rfl)) (fun _ _ _ h => h) (Or.inr ⟨by rfl, rfl⟩) ?_ ?_
       rotate_left
       ·simp only [Act.put, sA, sB, sC, i64_w, i32_w]
        rfl
       refine pure_ (i := 35) (N := some 71) (v := undef) (a' := ?_) #[T,T,T,T,T,T,T,T,T,T,T,T,T,T,T,T,T,T,T,T,T,T,T,T,T,T,T,T,T,T,T,T,T,T,T,T,F,F,F] rfl rfl (any_of HT_.out (by kernel_rfl)) (fun _ _ _ h => h) (Or.inr ⟨by rfl, rfl⟩) ?_ ?_
       rotate_left
       ·simp only [Act.put, sA, sB, sC, i64_w, i32_w]
        rfl
       refine pure_ (i := 36) (N := some 72) (v := undef) (a' := ?_) #[T,T,T,T,T,T,T,T,T,T,T,T,T,T,T,T,T,T,T,T,T,T,T,T,T,T,T,T,T,T,T,T,T,T,T,T,T,F,F] rfl rfl (any_of HT_.out (by kernel_rfl)) (fun _ _ _ h => h) (Or.inr ⟨by rfl, rfl⟩) ?_ ?_
       rotate_left
       ·simp only [Act.put, sA, sB, sC, i64_w, i32_w]
        rfl
       refine pure_ (i := 37) (N := some 73) (v := undef) (a' := ?_) #[T,T,T,T,T,T,T,T,T,T,T,T,T,T,T,T,T,T,T,T,T,T,T,T,T,T,T,T,T,T,T,T,T,T,T,T,T,T,F] rfl rfl (any_of HT_.out (by kernel_rfl)) (fun _ _ _ h => h) (Or.inr ⟨by rfl, rfl⟩) ?_ ?_
       rotate_left
       ·simp only [Act.put, sA, sB, sC, i64_w, i32_w]
        rfl
       refine pure_ (i := 38) (N := some 74) (v := ?_) (a' := ?_) #[T,T,T,T,T,T,T,T,T,T,T,T,T,T,T,T,T,T,T,T,T,T,T,T,T,T,T,T,T,T,T,T,T,T,T,T,T,T,T] rfl rfl (any_of HT_.out (by kernel_rfl)) (fun _ _ _ h => h) (Or.inl ⟨by rfl, ?_⟩) ?_ ?_
       rotate_left
       ·intro w'
        go_simp
        with_reducible rfl
       rotate_left
       ·simp only [Act.put, sA, sB, sC, i64_w, i32_w]
        rfl
       refine done_ (done_of HT_.out (by kernel_rfl)) ?_
       try go_wp2
       go_meet
       case rel => exact ⟨_, (true), (by first | rfl | (simp; done) | (simp [*]; done)), H', ⟨by first | omega | exact Nat.le_refl _⟩, ⟨by (with_reducible repeat first | apply bN | apply bD | apply bA); exact BK202.out⟩, ⟨by (with_reducible repeat first | apply bN | apply bD | apply bA); exact BK203.out⟩, ⟨by (with_reducible repeat first | apply bN | apply bD | apply bA); exact BK207.out⟩, ⟨by (with_reducible repeat first | apply bN | apply bD | apply bA); exact BK210.out⟩, ⟨by repeat (first | (with_reducible first | exact HB.out | apply lA | apply lN | apply lD | refine lS ?_ GE202.out | refine lS ?_ GE203.out | refine lS ?_ GE207.out | refine lS ?_ GE210.out) | exact HB.out)⟩⟩
     ·rw [if_neg c43] at H
      have c43b0 : (!(t217 == t205) || (!(t218 == t206))) = false := by simpa using c43
      clear c43
      replace H := Option.bind_eq_some_iff.mp H
      obtain ⟨⟨t219, t220⟩, A500, H⟩ := H
      replace H : ((billiardref04_Scale.f a0_0 a0_1 a2).bind fun bt221 => (if (!(t219 == bt221.1) || (!(t220 == bt221.2))) = true then (billiardlaw04_VecMatchesReference.j0 k a3 a4 true a0_0 a0_1 a1_0 a1_1) else ((vec_Perp.f a1_0 a1_1).bind fun bt223 => (billiardlaw04_VecMatchesReference.j0 k a3 a4 (!(bt223.1 == t206) || (!(bt223.2 == a1_0))) a0_0 a0_1 a1_0 a1_1)))) = some r := H
      have A50 := aM A500
      clear A500
      replace H := Option.bind_eq_some_iff.mp H
      obtain ⟨⟨t221, t222⟩, A510, H⟩ := H
      replace H : (if (!(t219 == t221) || (!(t220 == t222))) = true then (billiardlaw04_VecMatchesReference.j0 k a3 a4 true a0_0 a0_1 a1_0 a1_1) else ((vec_Perp.f a1_0 a1_1).bind fun bt223 => (billiardlaw04_VecMatchesReference.j0 k a3 a4 (!(bt223.1 == t206) || (!(bt223.2 == a1_0))) a0_0 a0_1 a1_0 a1_1))) = some r := H
      have A51 := aM A510
      clear A510
      by_cases c52 : (!(t219 == t221) || (!(t220 == t222))) = true
      ·rw [if_pos c52] at H
       have c52b0 : (!(t219 == t221) || (!(t220 == t222))) = true := c52
       clear c52
       as_aux_lemma =>
        have H' := aM H
        clear H
        try go_wp2
        have n0_ : Aside0 (((w25.setCell ⟨b210, 0, none⟩ (.int .i32 t208)).setCell ⟨b210, 1, none⟩ (.int .i32 t209)).heap[b202]? = some (.cells #[.int .i32 a0_0, .int .i32 a0_1] 25 (0, 0))) := ⟨by (with_reducible repeat first | apply bN | apply bD | apply bA); refine bR ?_ N6_.out _; (with_reducible repeat first | apply bN | apply bD | apply bA); refine bR ?_ N6_.out _; (with_reducible repeat first | apply bN | apply bD | apply bA); exact BK202.out⟩
        have n1_ : Aside0 (((w25.setCell ⟨b210, 0, none⟩ (.int .i32 t208)).setCell ⟨b210, 1, none⟩ (.int .i32 t209)).heap[b203]? = some (.cells #[.int .i32 a1_0, .int .i32 a1_1] 25 (0, 0))) := ⟨by (with_reducible repeat first | apply bN | apply bD | apply bA); refine bR ?_ N8_.out _; (with_reducible repeat first | apply bN | apply bD | apply bA); refine bR ?_ N8_.out _; (with_reducible repeat first | apply bN | apply bD | apply bA); exact BK203.out⟩
        have n2_ : Aside0 (((w25.setCell ⟨b210, 0, none⟩ (.int .i32 t208)).setCell ⟨b210, 1, none⟩ (.int .i32 t209)).heap[b207]? = some (.cells #[.int .i32 t205, .int .i32 t206] 25 (0, 0))) := ⟨by (with_reducible repeat first | apply bN | apply bD | apply bA); refine bR ?_ N10_.out _; (with_reducible repeat first | apply bN | apply bD | apply bA); refine bR ?_ N10_.out _; (with_reducible repeat first | apply bN | apply bD | apply bA); exact BK207.out⟩
        have n3_ : Aside0 (((w25.setCell ⟨b210, 0, none⟩ (.int .i32 t208)).setCell ⟨b210, 1, none⟩ (.int .i32 t209)).heap[b210]? = some (.cells #[.int .i32 t208, .int .i32 t209] 25 (0, 0))) := ⟨by (with_reducible repeat first | apply bN | apply bD | apply bA); refine bP (cs := #[.int .i32 t208, .int .i32 0]) ?_ 1 _ rfl; (with_reducible repeat first | apply bN | apply bD | apply bA); refine bP (cs := #[.int .i32 0, .int .i32 0]) ?_ 0 _ rfl; (with_reducible repeat first | apply bN | apply bD | apply bA); exact BK210.out⟩
        have n4_ : Aside0 (Below w.heap.size w ((w25.setCell ⟨b210, 0, none⟩ (.int .i32 t208)).setCell ⟨b210, 1, none⟩ (.int .i32 t209))) := ⟨by repeat (first | (with_reducible first | exact HB.out | apply lA | apply lN | apply lD | refine lS ?_ GE202.out | refine lS ?_ GE203.out | refine lS ?_ GE207.out | refine lS ?_ GE210.out) | exact HB.out)⟩
        (try clear BK202)
        (try clear BK203)
        (try clear BK207)
        (try clear BK210)
        (try clear HB)
        generalize ((w25.setCell ⟨b210, 0, none⟩ (.int .i32 t208)).setCell ⟨b210, 1, none⟩ (.int .i32 t209)) = w53 at n0_ n1_ n2_ n3_ n4_ ⊢
        have BK202 := n0_
        have BK203 := n1_
        have BK207 := n2_
        have BK210 := n3_
        have HB := n4_
        clear n0_ n1_ n2_ n3_ n4_
        have n0_ := aM (bD BK202.out)
        have n1_ := aM (bD BK203.out)
        have n2_ := aM (bD BK207.out)
        have n3_ := aM (bD BK210.out)
        have n4_ := aM (lD HB.out)
        clear BK202
        clear BK203
        clear BK207
        clear BK210
        clear HB
        have BK202 := n0_
        have BK203 := n1_
        have BK207 := n2_
        have BK210 := n3_
        have HB := n4_
        clear n0_ n1_ n2_ n3_ n4_
        refine start_ (n := 39) (S := fun w' => w'.cell? ⟨b202, 0, none⟩ = some (.int .i32 a0_0) ∧ w'.cell? ⟨b202, 1, none⟩ = some (.int .i32 a0_1) ∧ w'.cell? ⟨b203, 0, none⟩ = some (.int .i32 a1_0) ∧ w'.cell? ⟨b203, 1, none⟩ = some (.int .i32 a1_1) ∧ w'.cell? ⟨b210, 0, none⟩ = some (.int .i32 t208) ∧ w'.cell? ⟨b210, 1, none⟩ = some (.int .i32 t209) ∧ w'.cell? ⟨b207, 0, none⟩ = some (.int .i32 t205) ∧ w'.cell? ⟨b207, 1, none⟩ = some (.int .i32 t206)) (ds := []) #[F,F,F,F,F,F,F,F,F,F,F,F,F,F,F,F,F,F,F,F,F,F,F,F,F,F,F,F,F,F,F,F,F,F,F,F,F,F,F] (by kernel_rfl) rfl rfl ⟨(bC BK202.out 0).trans rfl, (bC BK202.out 1).trans rfl, (bC BK203.out 0).trans rfl, (bC BK203.out 1).trans rfl, (bC BK210.out 0).trans rfl, (bC BK210.out 1).trans rfl, (bC BK207.out 0).trans rfl, (bC BK207.out 1).trans rfl⟩ (fun hHeld => ?_); refine with_tabW billiardlaw04_VecMatchesReference.tab5 billiardlaw04_VecMatchesReference.bits5 (fun HT_ HW_ => ?_)
        generalize w53.drew = w54 at BK202 BK203 BK207 BK210 HB hHeld ⊢
        refine take_ (i := 0) (N := some 36) (v := ?_) (a' := ?_) #[T,F,F,F,F,F,F,F,F,F,F,F,F,F,F,F,F,F,F,F,F,F,F,F,F,F,F,F,F,F,F,F,F,F,F,F,F,F,F] rfl rfl (take_ofW HT_.out HW_.out (by kernel_rfl)) (fun _ _ _ h => h) (Or.inl ⟨by rfl, ?_⟩) hHeld ?_ ?_
        rotate_left
        ·rintro w' ⟨s0, s1, s2, s3, s4, s5, s6, s7⟩
         go_simp
         with_reducible rfl
        rotate_left
        ·simp only [Act.put, sA, sB, sC, i64_w, i32_w]
         rfl
        refine take_ (i := 1) (N := some 37) (v := ?_) (a' := ?_) #[T,T,F,F,F,F,F,F,F,F,F,F,F,F,F,F,F,F,F,F,F,F,F,F,F,F,F,F,F,F,F,F,F,F,F,F,F,F,F] rfl rfl (take_ofW HT_.out HW_.out (by kernel_rfl)) (fun _ _ _ h => h) (Or.inl ⟨by rfl, ?_⟩) hHeld ?_ ?_
        rotate_left
        ·rintro w' ⟨s0, s1, s2, s3, s4, s5, s6, s7⟩
         go_simp
         with_reducible rfl
        rotate_left
        ·simp only [Act.put, sA, sB, sC, i64_w, i32_w]
         rfl
        refine take_ (i := 3) (N := some 39) (v := ?_) (a' := ?_) #[T,T,F,T,F,F,F,F,F,F,F,F,F,F,F,F,F,F,F,F,F,F,F,F,F,F,F,F,F,F,F,F,F,F,F,F,F,F,F] rfl rfl (take_ofW HT_.out HW_.out (by kernel_rfl)) (fun _ _ _ h => h) (Or.inl ⟨by rfl, ?_⟩) hHeld ?_ ?_
        rotate_left
        ·rintro w' ⟨s0, s1, s2, s3, s4, s5, s6, s7⟩
         go_simp
         with_reducible rfl
        rotate_left
        ·simp only [Act.put, sA, sB, sC, i64_w, i32_w]
         rfl
        refine take_ (i := 4) (N := some 40) (v := ?_) (a' := ?_) #[T,T,F,T,T,F,F,F,F,F,F,F,F,F,F,F,F,F,F,F,F,F,F,F,F,F,F,F,F,F,F,F,F,F,F,F,F,F,F] rfl rfl (take_ofW HT_.out HW_.out (by kernel_rfl)) (fun _ _ _ h => h) (Or.inl ⟨by rfl, ?_⟩) hHeld ?_ ?_
        rotate_left
        ·rintro w' ⟨s0, s1, s2, s3, s4, s5, s6, s7⟩
         go_simp
         with_reducible rfl
        rotate_left
        ·simp only [Act.put, sA, sB, sC, i64_w, i32_w]
         rfl
        refine one_ (i := 2) (N := some 38) #[T,T,T,T,T,F,F,F,F,F,F,F,F,F,F,F,F,F,F,F,F,F,F,F,F,F,F,F,F,F,F,F,F,F,F,F,F,F,F] rfl rfl (one_of HT_.out (by kernel_rfl)) (by decide) (fun K hK => ?_)
        refine goes_ Try.func18 (by kernel_rfl) rfl #[.agg #[.int .i32 a0_0, .int .i32 a0_1], .agg #[.int .i32 a1_0, .int .i32 a1_1]] (by rfl) rfl rfl (by (try simp only [List.map_toArray, List.map_cons, List.map_nil]); first | done | rfl | (simp only [List.length_drop, List.length_take]; rfl)) ?_
        with_reducible refine (vec_Add.calls a0_0 a0_1 a1_0 a1_1 t211 t212 _ A28.out).mono ?_
        rintro e w55 ⟨rfl, hb⟩
        refine ⟨_, rfl, ?_⟩
        have n0_ := aM (bB (by (with_reducible repeat first | apply bN | apply bD | apply bA); exact BK202.out) hb)
        have n1_ := aM (bB (by (with_reducible repeat first | apply bN | apply bD | apply bA); exact BK203.out) hb)
        have n2_ := aM (bB (by (with_reducible repeat first | apply bN | apply bD | apply bA); exact BK207.out) hb)
        have n3_ := aM (bB (by (with_reducible repeat first | apply bN | apply bD | apply bA); exact BK210.out) hb)
        have n4_ := aM (lT (by repeat (first | (with_reducible first | exact HB.out | apply lA | apply lN | apply lD | refine lS ?_ GE202.out | refine lS ?_ GE203.out | refine lS ?_ GE207.out | refine lS ?_ GE210.out) | exact HB.out)) hb)
        clear BK202
        clear BK203
        clear BK207
        clear BK210
        clear HB
        have BK202 := n0_
        have BK203 := n1_
        have BK207 := n2_
        have BK210 := n3_
        have HB := n4_
        clear n0_ n1_ n2_ n3_ n4_
        (try clear hb)
        (try clear hb2)
        (try clear hk)
        (try clear hi)
        refine hK.out _ _ ⟨(bC BK202.out 0).trans rfl, (bC BK202.out 1).trans rfl, (bC BK203.out 0).trans rfl, (bC BK203.out 1).trans rfl, (bC BK210.out 0).trans rfl, (bC BK210.out 1).trans rfl, (bC BK207.out 0).trans rfl, (bC BK207.out 1).trans rfl⟩ (fun hHeld => ?_)
        clear hK K
        refine norm_ (a' := ?_) ?_ ?_
        rotate_left
        ·show Act.put _ (some 38) _ = _
         simp only [Act.put, sA, sB, sC, i64_w, i32_w]
         rfl
        refine one_ (i := 5) (N := some 41) #[T,T,T,T,T,T,F,F,F,F,F,F,F,F,F,F,F,F,F,F,F,F,F,F,F,F,F,F,F,F,F,F,F,F,F,F,F,F,F] rfl rfl (one_of HT_.out (by kernel_rfl)) (by decide) (fun K hK => ?_)
        refine goes_ Try.func19 (by kernel_rfl) rfl #[.agg #[.int .i32 a0_0, .int .i32 a0_1], .agg #[.int .i32 a1_0, .int .i32 a1_1]] (by rfl) rfl rfl (by (try simp only [List.map_toArray, List.map_cons, List.map_nil]); first | done | rfl | (simp only [List.length_drop, List.length_take]; rfl)) ?_
        with_reducible refine (billiardref04_Add.calls a0_0 a0_1 a1_0 a1_1 t213 t214 _ A29.out).mono ?_
        rintro e w56 ⟨rfl, hb⟩
        refine ⟨_, rfl, ?_⟩
        have n0_ := aM (bB (by (with_reducible repeat first | apply bN | apply bD | apply bA); exact BK202.out) hb)
        have n1_ := aM (bB (by (with_reducible repeat first | apply bN | apply bD | apply bA); exact BK203.out) hb)
        have n2_ := aM (bB (by (with_reducible repeat first | apply bN | apply bD | apply bA); exact BK207.out) hb)
        have n3_ := aM (bB (by (with_reducible repeat first | apply bN | apply bD | apply bA); exact BK210.out) hb)
        have n4_ := aM (lT (by repeat (first | (with_reducible first | exact HB.out | apply lA | apply lN | apply lD | refine lS ?_ GE202.out | refine lS ?_ GE203.out | refine lS ?_ GE207.out | refine lS ?_ GE210.out) | exact HB.out)) hb)
        clear BK202
        clear BK203
        clear BK207
        clear BK210
        clear HB
        have BK202 := n0_
        have BK203 := n1_
        have BK207 := n2_
        have BK210 := n3_
        have HB := n4_
        clear n0_ n1_ n2_ n3_ n4_
        (try clear hb)
        (try clear hb2)
        (try clear hk)
        (try clear hi)
        refine hK.out _ _ ⟨(bC BK202.out 0).trans rfl, (bC BK202.out 1).trans rfl, (bC BK203.out 0).trans rfl, (bC BK203.out 1).trans rfl, (bC BK210.out 0).trans rfl, (bC BK210.out 1).trans rfl, (bC BK207.out 0).trans rfl, (bC BK207.out 1).trans rfl⟩ (fun hHeld => ?_)
        clear hK K
        refine norm_ (a' := ?_) ?_ ?_
        rotate_left
        ·show Act.put _ (some 41) _ = _
         simp only [Act.put, sA, sB, sC, i64_w, i32_w]
         rfl
        refine pure_ (i := 6) (N := some 42) (v := ?_) (a' := ?_) #[T,T,T,T,T,T,T,F,F,F,F,F,F,F,F,F,F,F,F,F,F,F,F,F,F,F,F,F,F,F,F,F,F,F,F,F,F,F,F] rfl rfl (any_of HT_.out (by kernel_rfl)) (fun _ _ _ h => h) (Or.inl ⟨by rfl, ?_⟩) ?_ ?_
        rotate_left
        ·intro w'
         go_simp
         with_reducible rfl
        rotate_left
        ·simp only [Act.put, sA, sB, sC, i64_w, i32_w]
         rfl
        refine pure_ (i := 7) (N := some 43) (v := ?_) (a' := ?_) #[T,T,T,T,T,T,T,T,F,F,F,F,F,F,F,F,F,F,F,F,F,F,F,F,F,F,F,F,F,F,F,F,F,F,F,F,F,F,F] rfl rfl (any_of HT_.out (by kernel_rfl)) (fun _ _ _ h => h) (Or.inl ⟨by rfl, ?_⟩) ?_ ?_
        rotate_left
        ·intro w'
         go_simp
         with_reducible rfl
        rotate_left
        ·simp only [Act.put, sA, sB, sC, i64_w, i32_w]
         rfl
        refine take_ (i := 8) (N := some 44) (v := ?_) (a' := ?_) #[T,T,T,T,T,T,T,T,T,F,F,F,F,F,F,F,F,F,F,F,F,F,F,F,F,F,F,F,F,F,F,F,F,F,F,F,F,F,F] rfl rfl (take_ofW HT_.out HW_.out (by kernel_rfl)) (fun _ _ _ h => h) (Or.inl ⟨by rfl, ?_⟩) hHeld ?_ ?_
        rotate_left
        ·rintro w' ⟨s0, s1, s2, s3, s4, s5, s6, s7⟩
         go_simp
         with_reducible rfl
        rotate_left
        ·simp only [Act.put, sA, sB, sC, i64_w, i32_w]
         rfl
        refine take_ (i := 9) (N := some 45) (v := ?_) (a' := ?_) #[T,T,T,T,T,T,T,T,T,T,F,F,F,F,F,F,F,F,F,F,F,F,F,F,F,F,F,F,F,F,F,F,F,F,F,F,F,F,F] rfl rfl (take_ofW HT_.out HW_.out (by kernel_rfl)) (fun _ _ _ h => h) (Or.inl ⟨by rfl, ?_⟩) hHeld ?_ ?_
        rotate_left
        ·rintro w' ⟨s0, s1, s2, s3, s4, s5, s6, s7⟩
         go_simp
         with_reducible rfl
        rotate_left
        ·simp only [Act.put, sA, sB, sC, i64_w, i32_w]
         rfl
        refine take_ (i := 11) (N := some 47) (v := ?_) (a' := ?_) #[T,T,T,T,T,T,T,T,T,T,F,T,F,F,F,F,F,F,F,F,F,F,F,F,F,F,F,F,F,F,F,F,F,F,F,F,F,F,F] rfl rfl (take_ofW HT_.out HW_.out (by kernel_rfl)) (fun _ _ _ h => h) (Or.inl ⟨by rfl, ?_⟩) hHeld ?_ ?_
        rotate_left
        ·rintro w' ⟨s0, s1, s2, s3, s4, s5, s6, s7⟩
         go_simp
         with_reducible rfl
        rotate_left
        ·simp only [Act.put, sA, sB, sC, i64_w, i32_w]
         rfl
        refine one_ (i := 10) (N := some 46) #[T,T,T,T,T,T,T,T,T,T,T,T,F,F,F,F,F,F,F,F,F,F,F,F,F,F,F,F,F,F,F,F,F,F,F,F,F,F,F] rfl rfl (one_of HT_.out (by kernel_rfl)) (by decide) (fun K hK => ?_)
        refine goes_ Try.func20 (by kernel_rfl) rfl #[.agg #[.int .i32 a0_0, .int .i32 a0_1], .agg #[.int .i32 a1_0, .int .i32 a1_1]] (by rfl) rfl rfl (by (try simp only [List.map_toArray, List.map_cons, List.map_nil]); first | done | rfl | (simp only [List.length_drop, List.length_take]; rfl)) ?_
        with_reducible refine (vec_Sub.calls a0_0 a0_1 a1_0 a1_1 t215 t216 _ A35.out).mono ?_
        rintro e w57 ⟨rfl, hb⟩
        refine ⟨_, rfl, ?_⟩
        have n0_ := aM (bB (by (with_reducible repeat first | apply bN | apply bD | apply bA); exact BK202.out) hb)
        have n1_ := aM (bB (by (with_reducible repeat first | apply bN | apply bD | apply bA); exact BK203.out) hb)
        have n2_ := aM (bB (by (with_reducible repeat first | apply bN | apply bD | apply bA); exact BK207.out) hb)
        have n3_ := aM (bB (by (with_reducible repeat first | apply bN | apply bD | apply bA); exact BK210.out) hb)
        have n4_ := aM (lT (by repeat (first | (with_reducible first | exact HB.out | apply lA | apply lN | apply lD | refine lS ?_ GE202.out | refine lS ?_ GE203.out | refine lS ?_ GE207.out | refine lS ?_ GE210.out) | exact HB.out)) hb)
        clear BK202
        clear BK203
        clear BK207
        clear BK210
        clear HB
        have BK202 := n0_
        have BK203 := n1_
        have BK207 := n2_
        have BK210 := n3_
        have HB := n4_
        clear n0_ n1_ n2_ n3_ n4_
        (try clear hb)
        (try clear hb2)
        (try clear hk)
        (try clear hi)
        refine hK.out _ _ ⟨(bC BK202.out 0).trans rfl, (bC BK202.out 1).trans rfl, (bC BK203.out 0).trans rfl, (bC BK203.out 1).trans rfl, (bC BK210.out 0).trans rfl, (bC BK210.out 1).trans rfl, (bC BK207.out 0).trans rfl, (bC BK207.out 1).trans rfl⟩ (fun hHeld => ?_)
        clear hK K
        refine norm_ (a' := ?_) ?_ ?_
        rotate_left
        ·show Act.put _ (some 46) _ = _
         simp only [Act.put, sA, sB, sC, i64_w, i32_w]
         rfl
        refine pure_ (i := 12) (N := some 48) (v := ?_) (a' := ?_) #[T,T,T,T,T,T,T,T,T,T,T,T,T,F,F,F,F,F,F,F,F,F,F,F,F,F,F,F,F,F,F,F,F,F,F,F,F,F,F] rfl rfl (any_of HT_.out (by kernel_rfl)) (fun _ _ _ h => h) (Or.inl ⟨by rfl, ?_⟩) ?_ ?_
        rotate_left
        ·intro w'
         go_simp
         with_reducible rfl
        rotate_left
        ·simp only [Act.put, sA, sB, sC, i64_w, i32_w]
         rfl
        refine pure_ (i := 13) (N := some 49) (v := ?_) (a' := ?_) #[T,T,T,T,T,T,T,T,T,T,T,T,T,T,F,F,F,F,F,F,F,F,F,F,F,F,F,F,F,F,F,F,F,F,F,F,F,F,F] rfl rfl (any_of HT_.out (by kernel_rfl)) (fun _ _ _ h => h) (Or.inl ⟨by rfl, ?_⟩) ?_ ?_
        rotate_left
        ·intro w'
         go_simp
         with_reducible rfl
        rotate_left
        ·simp only [Act.put, sA, sB, sC, i64_w, i32_w]
         rfl
        refine pure_ (i := 14) (N := some 50) (v := ?_) (a' := ?_) #[T,T,T,T,T,T,T,T,T,T,T,T,T,T,T,F,F,F,F,F,F,F,F,F,F,F,F,F,F,F,F,F,F,F,F,F,F,F,F] rfl rfl (any_of HT_.out (by kernel_rfl)) (fun _ _ _ h => h) (Or.inl ⟨by rfl, ?_⟩) ?_ ?_
        rotate_left
        ·intro w'
         go_simp
         with_reducible rfl
        rotate_left
        ·simp only [Act.put, sA, sB, sC, i64_w, i32_w]
         rfl
        refine take_ (i := 15) (N := some 51) (v := ?_) (a' := ?_) #[T,T,T,T,T,T,T,T,T,T,T,T,T,T,T,T,F,F,F,F,F,F,F,F,F,F,F,F,F,F,F,F,F,F,F,F,F,F,F] rfl rfl (take_ofW HT_.out HW_.out (by kernel_rfl)) (fun _ _ _ h => h) (Or.inl ⟨by rfl, ?_⟩) hHeld ?_ ?_
        rotate_left
        ·rintro w' ⟨s0, s1, s2, s3, s4, s5, s6, s7⟩
         go_simp
         with_reducible rfl
        rotate_left
        ·simp only [Act.put, sA, sB, sC, i64_w, i32_w]
         rfl
        refine take_ (i := 17) (N := some 53) (v := ?_) (a' := ?_) #[T,T,T,T,T,T,T,T,T,T,T,T,T,T,T,T,F,T,F,F,F,F,F,F,F,F,F,F,F,F,F,F,F,F,F,F,F,F,F] rfl rfl (take_ofW HT_.out HW_.out (by kernel_rfl)) (fun _ _ _ h => h) (Or.inl ⟨by rfl, ?_⟩) hHeld ?_ ?_
        rotate_left
        ·rintro w' ⟨s0, s1, s2, s3, s4, s5, s6, s7⟩
         go_simp
         with_reducible rfl
        rotate_left
        ·simp only [Act.put, sA, sB, sC, i64_w, i32_w]
         rfl
        refine one_ (i := 16) (N := some 52) #[T,T,T,T,T,T,T,T,T,T,T,T,T,T,T,T,T,T,F,F,F,F,F,F,F,F,F,F,F,F,F,F,F,F,F,F,F,F,F] rfl rfl (one_of HT_.out (by kernel_rfl)) (by decide) (fun K hK => ?_)
        refine goes_ Try.func21 (by kernel_rfl) rfl #[.agg #[.int .i32 a1_0, .int .i32 a1_1]] (by rfl) rfl rfl (by (try simp only [List.map_toArray, List.map_cons, List.map_nil]); first | done | rfl | (simp only [List.length_drop, List.length_take]; rfl)) ?_
        with_reducible refine (vec_Neg.calls a1_0 a1_1 t217 t218 _ A42.out).mono ?_
        rintro e w58 ⟨rfl, hb⟩
        refine ⟨_, rfl, ?_⟩
        have n0_ := aM (bB (by (with_reducible repeat first | apply bN | apply bD | apply bA); exact BK202.out) hb)
        have n1_ := aM (bB (by (with_reducible repeat first | apply bN | apply bD | apply bA); exact BK203.out) hb)
        have n2_ := aM (bB (by (with_reducible repeat first | apply bN | apply bD | apply bA); exact BK207.out) hb)
        have n3_ := aM (bB (by (with_reducible repeat first | apply bN | apply bD | apply bA); exact BK210.out) hb)
        have n4_ := aM (lT (by repeat (first | (with_reducible first | exact HB.out | apply lA | apply lN | apply lD | refine lS ?_ GE202.out | refine lS ?_ GE203.out | refine lS ?_ GE207.out | refine lS ?_ GE210.out) | exact HB.out)) hb)
        clear BK202
        clear BK203
        clear BK207
        clear BK210
        clear HB
        have BK202 := n0_
        have BK203 := n1_
        have BK207 := n2_
        have BK210 := n3_
        have HB := n4_
        clear n0_ n1_ n2_ n3_ n4_
        (try clear hb)
        (try clear hb2)
        (try clear hk)
        (try clear hi)
        refine hK.out _ _ ⟨(bC BK202.out 0).trans rfl, (bC BK202.out 1).trans rfl, (bC BK203.out 0).trans rfl, (bC BK203.out 1).trans rfl, (bC BK210.out 0).trans rfl, (bC BK210.out 1).trans rfl, (bC BK207.out 0).trans rfl, (bC BK207.out 1).trans rfl⟩ (fun hHeld => ?_)
        clear hK K
        refine norm_ (a' := ?_) ?_ ?_
        rotate_left
        ·show Act.put _ (some 52) _ = _
         simp only [Act.put, sA, sB, sC, i64_w, i32_w]
         rfl
        refine pure_ (i := 18) (N := some 54) (v := ?_) (a' := ?_) #[T,T,T,T,T,T,T,T,T,T,T,T,T,T,T,T,T,T,T,F,F,F,F,F,F,F,F,F,F,F,F,F,F,F,F,F,F,F,F] rfl rfl (any_of HT_.out (by kernel_rfl)) (fun _ _ _ h => h) (Or.inl ⟨by rfl, ?_⟩) ?_ ?_
        rotate_left
        ·intro w'
         go_simp
         with_reducible rfl
        rotate_left
        ·simp only [Act.put, sA, sB, sC, i64_w, i32_w]
         rfl
        refine pure_ (i := 19) (N := some 55) (v := ?_) (a' := ?_) #[T,T,T,T,T,T,T,T,T,T,T,T,T,T,T,T,T,T,T,T,F,F,F,F,F,F,F,F,F,F,F,F,F,F,F,F,F,F,F] rfl rfl (any_of HT_.out (by kernel_rfl)) (fun _ _ _ h => h) (Or.inl ⟨by rfl, ?_⟩) ?_ ?_
        rotate_left
        ·intro w'
         go_simp
         with_reducible rfl
        rotate_left
        ·simp only [Act.put, sA, sB, sC, i64_w, i32_w]
         rfl
        refine pure_ (i := 20) (N := some 56) (v := ?_) (a' := ?_) #[T,T,T,T,T,T,T,T,T,T,T,T,T,T,T,T,T,T,T,T,T,F,F,F,F,F,F,F,F,F,F,F,F,F,F,F,F,F,F] rfl rfl (any_of HT_.out (by kernel_rfl)) (fun _ _ _ h => h) (Or.inl ⟨by rfl, ?_⟩) ?_ ?_
        rotate_left
        ·intro w'
         go_simp
         with_reducible rfl
        rotate_left
        ·simp only [Act.put, sA, sB, sC, i64_w, i32_w]
         rfl
        refine pure_ (i := 22) (N := some 58) (v := ?_) (a' := ?_) #[T,T,T,T,T,T,T,T,T,T,T,T,T,T,T,T,T,T,T,T,T,F,T,F,F,F,F,F,F,F,F,F,F,F,F,F,F,F,F] rfl rfl (any_of HT_.out (by kernel_rfl)) (fun _ _ _ h => h) (Or.inl ⟨by rfl, ?_⟩) ?_ ?_
        rotate_left
        ·intro w'
         go_simp
         with_reducible rfl
        rotate_left
        ·simp only [Act.put, sA, sB, sC, i64_w, i32_w]
         rfl
        refine pure_ (i := 25) (N := some 61) (v := ?_) (a' := ?_) #[T,T,T,T,T,T,T,T,T,T,T,T,T,T,T,T,T,T,T,T,T,F,T,F,F,T,F,F,F,F,F,F,F,F,F,F,F,F,F] rfl rfl (any_of HT_.out (by kernel_rfl)) (fun _ _ _ h => h) (Or.inl ⟨by rfl, ?_⟩) ?_ ?_
        rotate_left
        ·intro w'
         go_simp
         with_reducible rfl
        rotate_left
        ·simp only [Act.put, sA, sB, sC, i64_w, i32_w]
         rfl
        refine take_ (i := 21) (N := some 57) (v := ?_) (a' := ?_) #[T,T,T,T,T,T,T,T,T,T,T,T,T,T,T,T,T,T,T,T,T,T,T,F,F,T,F,F,F,F,F,F,F,F,F,F,F,F,F] rfl rfl (take_ofW HT_.out HW_.out (by kernel_rfl)) (fun _ _ _ h => h) (Or.inl ⟨by rfl, ?_⟩) hHeld ?_ ?_
        rotate_left
        ·rintro w' ⟨s0, s1, s2, s3, s4, s5, s6, s7⟩
         go_simp
         with_reducible rfl
        rotate_left
        ·simp only [Act.put, sA, sB, sC, i64_w, i32_w]
         rfl
        refine take_ (i := 24) (N := some 60) (v := ?_) (a' := ?_) #[T,T,T,T,T,T,T,T,T,T,T,T,T,T,T,T,T,T,T,T,T,T,T,F,T,T,F,F,F,F,F,F,F,F,F,F,F,F,F] rfl rfl (take_ofW HT_.out HW_.out (by kernel_rfl)) (fun _ _ _ h => h) (Or.inl ⟨by rfl, ?_⟩) hHeld ?_ ?_
        rotate_left
        ·rintro w' ⟨s0, s1, s2, s3, s4, s5, s6, s7⟩
         go_simp
         with_reducible rfl
        rotate_left
        ·simp only [Act.put, sA, sB, sC, i64_w, i32_w]
         rfl
        refine one_ (i := 23) (N := some 59) #[T,T,T,T,T,T,T,T,T,T,T,T,T,T,T,T,T,T,T,T,T,T,T,T,T,T,F,F,F,F,F,F,F,F,F,F,F,F,F] rfl rfl (one_of HT_.out (by kernel_rfl)) (by decide) (fun K hK => ?_)
        refine goes_ Try.func22 (by kernel_rfl) rfl #[.agg #[.int .i32 a0_0, .int .i32 a0_1], .int .i32 a2] (by rfl) rfl rfl (by (try simp only [List.map_toArray, List.map_cons, List.map_nil]); first | done | rfl | (simp only [List.length_drop, List.length_take]; rfl)) ?_
        with_reducible refine (vec_Scale.calls a0_0 a0_1 a2 t219 t220 _ A50.out).mono ?_
        rintro e w59 ⟨rfl, hb⟩
        refine ⟨_, rfl, ?_⟩
        have n0_ := aM (bB (by (with_reducible repeat first | apply bN | apply bD | apply bA); exact BK202.out) hb)
        have n1_ := aM (bB (by (with_reducible repeat first | apply bN | apply bD | apply bA); exact BK203.out) hb)
        have n2_ := aM (bB (by (with_reducible repeat first | apply bN | apply bD | apply bA); exact BK207.out) hb)
        have n3_ := aM (bB (by (with_reducible repeat first | apply bN | apply bD | apply bA); exact BK210.out) hb)
        have n4_ := aM (lT (by repeat (first | (with_reducible first | exact HB.out | apply lA | apply lN | apply lD | refine lS ?_ GE202.out | refine lS ?_ GE203.out | refine lS ?_ GE207.out | refine lS ?_ GE210.out) | exact HB.out)) hb)
        clear BK202
        clear BK203
        clear BK207
        clear BK210
        clear HB
        have BK202 := n0_
        have BK203 := n1_
        have BK207 := n2_
        have BK210 := n3_
        have HB := n4_
        clear n0_ n1_ n2_ n3_ n4_
        (try clear hb)
        (try clear hb2)
        (try clear hk)
        (try clear hi)
        refine hK.out _ _ ⟨(bC BK202.out 0).trans rfl, (bC BK202.out 1).trans rfl, (bC BK203.out 0).trans rfl, (bC BK203.out 1).trans rfl, (bC BK210.out 0).trans rfl, (bC BK210.out 1).trans rfl, (bC BK207.out 0).trans rfl, (bC BK207.out 1).trans rfl⟩ (fun hHeld => ?_)
        clear hK K
        refine norm_ (a' := ?_) ?_ ?_
        rotate_left
        ·show Act.put _ (some 59) _ = _
         simp only [Act.put, sA, sB, sC, i64_w, i32_w]
         rfl
        refine one_ (i := 26) (N := some 62) #[T,T,T,T,T,T,T,T,T,T,T,T,T,T,T,T,T,T,T,T,T,T,T,T,T,T,T,F,F,F,F,F,F,F,F,F,F,F,F] rfl rfl (one_of HT_.out (by kernel_rfl)) (by decide) (fun K hK => ?_)
        refine goes_ Try.func23 (by kernel_rfl) rfl #[.agg #[.int .i32 a0_0, .int .i32 a0_1], .int .i32 a2] (by rfl) rfl rfl (by (try simp only [List.map_toArray, List.map_cons, List.map_nil]); first | done | rfl | (simp only [List.length_drop, List.length_take]; rfl)) ?_
        with_reducible refine (billiardref04_Scale.calls a0_0 a0_1 a2 t221 t222 _ A51.out).mono ?_
        rintro e w60 ⟨rfl, hb⟩
        refine ⟨_, rfl, ?_⟩
        have n0_ := aM (bB (by (with_reducible repeat first | apply bN | apply bD | apply bA); exact BK202.out) hb)
        have n1_ := aM (bB (by (with_reducible repeat first | apply bN | apply bD | apply bA); exact BK203.out) hb)
        have n2_ := aM (bB (by (with_reducible repeat first | apply bN | apply bD | apply bA); exact BK207.out) hb)
        have n3_ := aM (bB (by (with_reducible repeat first | apply bN | apply bD | apply bA); exact BK210.out) hb)
        have n4_ := aM (lT (by repeat (first | (with_reducible first | exact HB.out | apply lA | apply lN | apply lD | refine lS ?_ GE202.out | refine lS ?_ GE203.out | refine lS ?_ GE207.out | refine lS ?_ GE210.out) | exact HB.out)) hb)
        clear BK202
        clear BK203
        clear BK207
        clear BK210
        clear HB
        have BK202 := n0_
        have BK203 := n1_
        have BK207 := n2_
        have BK210 := n3_
        have HB := n4_
        clear n0_ n1_ n2_ n3_ n4_
        (try clear hb)
        (try clear hb2)
        (try clear hk)
        (try clear hi)
        refine hK.out _ _ ⟨(bC BK202.out 0).trans rfl, (bC BK202.out 1).trans rfl, (bC BK203.out 0).trans rfl, (bC BK203.out 1).trans rfl, (bC BK210.out 0).trans rfl, (bC BK210.out 1).trans rfl, (bC BK207.out 0).trans rfl, (bC BK207.out 1).trans rfl⟩ (fun hHeld => ?_)
        clear hK K
        refine norm_ (a' := ?_) ?_ ?_
        rotate_left
        ·show Act.put _ (some 62) _ = _
         simp only [Act.put, sA, sB, sC, i64_w, i32_w]
         rfl
        refine pure_ (i := 27) (N := some 63) (v := ?_) (a' := ?_) #[T,T,T,T,T,T,T,T,T,T,T,T,T,T,T,T,T,T,T,T,T,T,T,T,T,T,T,T,F,F,F,F,F,F,F,F,F,F,F] rfl rfl (any_of HT_.out (by kernel_rfl)) (fun _ _ _ h => h) (Or.inl ⟨by rfl, ?_⟩) ?_ ?_
        rotate_left
        ·intro w'
         go_simp
         with_reducible rfl
        rotate_left
        ·simp only [Act.put, sA, sB, sC, i64_w, i32_w]
         rfl
        refine pure_ (i := 28) (N := some 64) (v := ?_) (a' := ?_) #[T,T,T,T,T,T,T,T,T,T,T,T,T,T,T,T,T,T,T,T,T,T,T,T,T,T,T,T,T,F,F,F,F,F,F,F,F,F,F] rfl rfl (any_of HT_.out (by kernel_rfl)) (fun _ _ _ h => h) (Or.inl ⟨by rfl, ?_⟩) ?_ ?_
        rotate_left
        ·intro w'
         go_simp
         with_reducible rfl
        rotate_left
        ·simp only [Act.put, sA, sB, sC, i64_w, i32_w]
         rfl
        refine pure_ (i := 29) (N := some 65) (v := ?_) (a' := ?_) #[T,T,T,T,T,T,T,T,T,T,T,T,T,T,T,T,T,T,T,T,T,T,T,T,T,T,T,T,T,T,F,F,F,F,F,F,F,F,F] rfl rfl (any_of HT_.out (by kernel_rfl)) (fun _ _ _ h => h) (Or.inl ⟨by rfl, ?_⟩) ?_ ?_
        rotate_left
        ·intro w'
         go_simp
         with_reducible rfl
        rotate_left
        ·simp only [Act.put, sA, sB, sC, i64_w, i32_w]
         rfl
        refine pure_ (i := 30) (N := some 66) (v := undef) (a' := ?_) #[T,T,T,T,T,T,T,T,T,T,T,T,T,T,T,T,T,T,T,T,T,T,T,T,T,T,T,T,T,T,T,F,F,F,F,F,F,F,F] rfl rfl (any_of HT_.out (by kernel_rfl)) (fun _ _ _ h => h) (Or.inr ⟨by rfl, rfl⟩) ?_ ?_
        rotate_left
        ·simp only [Act.put, sA, sB, sC, i64_w, i32_w]
         rfl
        refine pure_ (i := 31) (N := some 67) (v := undef) (a' := ?_) #[T,T,T,T,T,T,T,T,T,T,T,T,T,T,T,T,T,T,T,T,T,T,T,T,T,T,T,T,T,T,T,T,F,F,F,F,F,F,F] rfl rfl (any_of HT_.out (by kernel_rfl)) (fun _ _ _ h => h) (Or.inr ⟨by rfl, rfl⟩) ?_ ?_
        rotate_left
        ·simp only [Act.put, sA, sB, sC, i64_w, i32_w]
         rfl
        refine pure_ (i := 32) (N := some 68) (v := undef) (a' := ?_) #[T,T,T,T,T,T,T,T,T,T,T,T,T,T,T,T,T,T,T,T,T,T,T,T,T,T,T,T,T,T,T,T,T,F,F,F,F,F,F] rfl rfl (any_of HT_.out (by kernel_rfl)) (fun _ _ _ h => h) (Or.inr ⟨by rfl, rfl⟩) ?_ ?_
        rotate_left
        ·simp only [Act.put, sA, sB, sC, i64_w, i32_w]
         rfl
        refine pure_ (i := 33) (N := some 69) (v := undef) (a' := ?_) #[T,T,T,T,T,T,T,T,T,T,T,T,T,T,T,T,T,T,T,T,T,T,T,T,T,T,T,T,T,T,T,T,T,T,F,F,F,F,F] rfl rfl (any_of HT_.out (by kernel_rfl)) (fun _ _ _ h => h) (Or.inr ⟨by rfl, rfl⟩) ?_ ?_
        rotate_left
        ·simp only [Act.put, sA, sB, sC, i64_w, i32_w]
         rfl
        refine pure_ (i := 34) (N := some 70) (v := undef) (a' := ?_) #[T,T,T,T,T,T,T,T,T,T,T,T,T,T,T,T,T,T,T,T,T,T,T,T,T,T,T,T,T,T,T,T,T,T,T,F,F,F,F] rfl rfl (any_of HT_.out (by kernel_rfl)) (fun _ _ _ h => h) (Or.inr ⟨by rfl, rfl⟩) ?_ ?_
        rotate_left
        ·simp only [Act.put, sA, sB, sC, i64_w, i32_w]
         rfl
        refine pure_ (i := 35) (N := some 71) (v := undef) (a' := ?_) #[T,T,T,T,T,T,T,T,T,T,T,T,T,T,T,T,T,T,T,T,T,T,T,T,T,T,T,T,T,T,T,T,T,T,T,T,F,F,F] rfl rfl (any_of HT_.out (by kernel_rfl)) (fun _ _ _ h => h) (Or.inr ⟨by rfl, rfl⟩) ?_ ?_
        rotate_left
        ·simp only [Act.put, sA, sB, sC, i64_w, i32_w]
         rfl
        refine pure_ (i := 36) (N := some 72) (v := undef) (a' := ?_) #[T,T,T,T,T,T,T,T,T,T,T,T,T,T,T,T,T,T,T,T,T,T,T,T,T,T,T,T,T,T,T,T,T,T,T,T,T,F,F] rfl rfl (any_of HT_.out (by kernel_rfl)) (fun _ _ _ h => h) (Or.inr ⟨by rfl, rfl⟩) ?_ ?_
        rotate_left
        ·simp only [Act.put, sA, sB, sC, i64_w, i32_w]
         rfl
        refine pure_ (i := 37) (N := some 73) (v := undef) (a' := ?_) #[T,T,T,T,T,T,T,T,T,T,T,T,T,T,T,T,T,T,T,T,T,T,T,T,T,T,T,T,T,T,T,T,T,T,T,T,T,T,F] rfl rfl (any_of HT_.out (by kernel_rfl)) (fun _ _ _ h => h) (Or.inr ⟨by rfl, rfl⟩) ?_ ?_
        rotate_left
        ·simp only [Act.put, sA, sB, sC, i64_w, i32_w]
         rfl
        refine pure_ (i := 38) (N := some 74) (v := ?_) (a' := ?_) #[T,T,T,T,T,T,T,T,T,T,T,T,T,T,T,T,T,T,T,T,T,T,T,T,T,T,T,T,T,T,T,T,T,T,T,T,T,T,T] rfl rfl (any_of HT_.out (by kernel_rfl)) (fun _ _ _ h => h) (Or.inl ⟨by rfl, ?_⟩) ?_ ?_
        rotate_left
        ·intro w'
         go_simp
         with_reducible rfl
        rotate_left
        ·simp only [Act.put, sA, sB, sC, i64_w, i32_w]
         rfl
        refine done_ (done_of HT_.out (by kernel_rfl)) ?_
        try go_wp2
        go_meet
        case rel => exact ⟨_, (true), (by first | rfl | (simp; done) | (simp [*]; done)), H', ⟨by first | omega | exact Nat.le_refl _⟩, ⟨by (with_reducible repeat first | apply bN | apply bD | apply bA); exact BK202.out⟩, ⟨by (with_reducible repeat first | apply bN | apply bD | apply bA); exact BK203.out⟩, ⟨by (with_reducible repeat first | apply bN | apply bD | apply bA); exact BK207.out⟩, ⟨by (with_reducible repeat first | apply bN | apply bD | apply bA); exact BK210.out⟩, ⟨by repeat (first | (with_reducible first | exact HB.out | apply lA | apply lN | apply lD | refine lS ?_ GE202.out | refine lS ?_ GE203.out | refine lS ?_ GE207.out | refine lS ?_ GE210.out) | exact HB.out)⟩⟩
      ·rw [if_neg c52] at H
       have c52b0 : (!(t219 == t221) || (!(t220 == t222))) = false := by simpa using c52
       clear c52
       replace H := Option.bind_eq_some_iff.mp H
       obtain ⟨⟨t223, t224⟩, A610, H⟩ := H
       replace H : (billiardlaw04_VecMatchesReference.j0 k a3 a4 (!(t223 == t206) || (!(t224 == a1_0))) a0_0 a0_1 a1_0 a1_1) = some r := H
       have A61 := aM A610
       clear A610
       as_aux_lemma =>
        have H' := aM H
        clear H
        try go_wp2
        have n0_ : Aside0 (((w25.setCell ⟨b210, 0, none⟩ (.int .i32 t208)).setCell ⟨b210, 1, none⟩ (.int .i32 t209)).heap[b202]? = some (.cells #[.int .i32 a0_0, .int .i32 a0_1] 25 (0, 0))) := ⟨by (with_reducible repeat first | apply bN | apply bD | apply bA); refine bR ?_ N6_.out _; (with_reducible repeat first | apply bN | apply bD | apply bA); refine bR ?_ N6_.out _; (with_reducible repeat first | apply bN | apply bD | apply bA); exact BK202.out⟩
        have n1_ : Aside0 (((w25.setCell ⟨b210, 0, none⟩ (.int .i32 t208)).setCell ⟨b210, 1, none⟩ (.int .i32 t209)).heap[b203]? = some (.cells #[.int .i32 a1_0, .int .i32 a1_1] 25 (0, 0))) := ⟨by (with_reducible repeat first | apply bN | apply bD | apply bA); refine bR ?_ N8_.out _; (with_reducible repeat first | apply bN | apply bD | apply bA); refine bR ?_ N8_.out _; (with_reducible repeat first | apply bN | apply bD | apply bA); exact BK203.out⟩
        have n2_ : Aside0 (((w25.setCell ⟨b210, 0, none⟩ (.int .i32 t208)).setCell ⟨b210, 1, none⟩ (.int .i32 t209)).heap[b207]? = some (.cells #[.int .i32 t205, .int .i32 t206] 25 (0, 0))) := ⟨by (with_reducible repeat first | apply bN | apply bD | apply bA); refine bR ?_ N10_.out _; (with_reducible repeat first | apply bN | apply bD | apply bA); refine bR ?_ N10_.out _; (with_reducible repeat first | apply bN | apply bD | apply bA); exact BK207.out⟩
        have n3_ : Aside0 (((w25.setCell ⟨b210, 0, none⟩ (.int .i32 t208)).setCell ⟨b210, 1, none⟩ (.int .i32 t209)).heap[b210]? = some (.cells #[.int .i32 t208, .int .i32 t209] 25 (0, 0))) := ⟨by (with_reducible repeat first | apply bN | apply bD | apply bA); refine bP (cs := #[.int .i32 t208, .int .i32 0]) ?_ 1 _ rfl; (with_reducible repeat first | apply bN | apply bD | apply bA); refine bP (cs := #[.int .i32 0, .int .i32 0]) ?_ 0 _ rfl; (with_reducible repeat first | apply bN | apply bD | apply bA); exact BK210.out⟩
        have n4_ : Aside0 (Below w.heap.size w ((w25.setCell ⟨b210, 0, none⟩ (.int .i32 t208)).setCell ⟨b210, 1, none⟩ (.int .i32 t209))) := ⟨by repeat (first | (with_reducible first | exact HB.out | apply lA | apply lN | apply lD | refine lS ?_ GE202.out | refine lS ?_ GE203.out | refine lS ?_ GE207.out | refine lS ?_ GE210.out) | exact HB.out)⟩
        (try clear BK202)
        (try clear BK203)
        (try clear BK207)
        (try clear BK210)
        (try clear HB)
        generalize ((w25.setCell ⟨b210, 0, none⟩ (.int .i32 t208)).setCell ⟨b210, 1, none⟩ (.int .i32 t209)) = w62 at n0_ n1_ n2_ n3_ n4_ ⊢
        have BK202 := n0_
        have BK203 := n1_
        have BK207 := n2_
        have BK210 := n3_
        have HB := n4_
        clear n0_ n1_ n2_ n3_ n4_
        have n0_ := aM (bD BK202.out)
        have n1_ := aM (bD BK203.out)
        have n2_ := aM (bD BK207.out)
        have n3_ := aM (bD BK210.out)
        have n4_ := aM (lD HB.out)
        clear BK202
        clear BK203
        clear BK207
        clear BK210
        clear HB
        have BK202 := n0_
        have BK203 := n1_
        have BK207 := n2_
        have BK210 := n3_
        have HB := n4_
        clear n0_ n1_ n2_ n3_ n4_
        refine start_ (n := 39) (S := fun w' => w'.cell? ⟨b202, 0, none⟩ = some (.int .i32 a0_0) ∧ w'.cell? ⟨b202, 1, none⟩ = some (.int .i32 a0_1) ∧ w'.cell? ⟨b203, 0, none⟩ = some (.int .i32 a1_0) ∧ w'.cell? ⟨b203, 1, none⟩ = some (.int .i32 a1_1) ∧ w'.cell? ⟨b210, 0, none⟩ = some (.int .i32 t208) ∧ w'.cell? ⟨b210, 1, none⟩ = some (.int .i32 t209) ∧ w'.cell? ⟨b207, 0, none⟩ = some (.int .i32 t205) ∧ w'.cell? ⟨b207, 1, none⟩ = some (.int .i32 t206)) (ds := []) #[F,F,F,F,F,F,F,F,F,F,F,F,F,F,F,F,F,F,F,F,F,F,F,F,F,F,F,F,F,F,F,F,F,F,F,F,F,F,F] (by kernel_rfl) rfl rfl ⟨(bC BK202.out 0).trans rfl, (bC BK202.out 1).trans rfl, (bC BK203.out 0).trans rfl, (bC BK203.out 1).trans rfl, (bC BK210.out 0).trans rfl, (bC BK210.out 1).trans rfl, (bC BK207.out 0).trans rfl, (bC BK207.out 1).trans rfl⟩ (fun hHeld => ?_); refine with_tabW billiardlaw04_VecMatchesReference.tab5 billiardlaw04_VecMatchesReference.bits5 (fun HT_ HW_ => ?_)
        generalize w62.drew = w63 at BK202 BK203 BK207 BK210 HB hHeld ⊢
        refine take_ (i := 0) (N := some 36) (v := ?_) (a' := ?_) #[T,F,F,F,F,F,F,F,F,F,F,F,F,F,F,F,F,F,F,F,F,F,F,F,F,F,F,F,F,F,F,F,F,F,F,F,F,F,F] rfl rfl (take_ofW HT_.out HW_.out (by kernel_rfl)) (fun _ _ _ h => h) (Or.inl ⟨by rfl, ?_⟩) hHeld ?_ ?_
        rotate_left
        ·rintro w' ⟨s0, s1, s2, s3, s4, s5, s6, s7⟩
         go_simp
         with_reducible rfl
        rotate_left
        ·simp only [Act.put, sA, sB, sC, i64_w, i32_w]
         rfl
        refine take_ (i := 1) (N := some 37) (v := ?_) (a' := ?_) #[T,T,F,F,F,F,F,F,F,F,F,F,F,F,F,F,F,F,F,F,F,F,F,F,F,F,F,F,F,F,F,F,F,F,F,F,F,F,F] rfl rfl (take_ofW HT_.out HW_.out (by kernel_rfl)) (fun _ _ _ h => h) (Or.inl ⟨by rfl, ?_⟩) hHeld ?_ ?_
        rotate_left
        ·rintro w' ⟨s0, s1, s2, s3, s4, s5, s6, s7⟩
         go_simp
         with_reducible rfl
        rotate_left
        ·simp only [Act.put, sA, sB, sC, i64_w, i32_w]
         rfl
        refine take_ (i := 3) (N := some 39) (v := ?_) (a' := ?_) #[T,T,F,T,F,F,F,F,F,F,F,F,F,F,F,F,F,F,F,F,F,F,F,F,F,F,F,F,F,F,F,F,F,F,F,F,F,F,F] rfl rfl (take_ofW HT_.out HW_.out (by kernel_rfl)) (fun _ _ _ h => h) (Or.inl ⟨by rfl, ?_⟩) hHeld ?_ ?_
        rotate_left
        ·rintro w' ⟨s0, s1, s2, s3, s4, s5, s6, s7⟩
         go_simp
         with_reducible rfl
        rotate_left
        ·simp only [Act.put, sA, sB, sC, i64_w, i32_w]
         rfl
        refine take_ (i := 4) (N := some 40) (v := ?_) (a' := ?_) #[T,T,F,T,T,F,F,F,F,F,F,F,F,F,F,F,F,F,F,F,F,F,F,F,F,F,F,F,F,F,F,F,F,F,F,F,F,F,F] rfl rfl (take_ofW HT_.out HW_.out (by kernel_rfl)) (fun _ _ _ h => h) (Or.inl ⟨by rfl, ?_⟩) hHeld ?_ ?_
        rotate_left
        ·rintro w' ⟨s0, s1, s2, s3, s4, s5, s6, s7⟩
         go_simp
         with_reducible rfl
        rotate_left
        ·simp only [Act.put, sA, sB, sC, i64_w, i32_w]
         rfl
        refine one_ (i := 2) (N := some 38) #[T,T,T,T,T,F,F,F,F,F,F,F,F,F,F,F,F,F,F,F,F,F,F,F,F,F,F,F,F,F,F,F,F,F,F,F,F,F,F] rfl rfl (one_of HT_.out (by kernel_rfl)) (by decide) (fun K hK => ?_)
        refine goes_ Try.func18 (by kernel_rfl) rfl #[.agg #[.int .i32 a0_0, .int .i32 a0_1], .agg #[.int .i32 a1_0, .int .i32 a1_1]] (by rfl) rfl rfl (by (try simp only [List.map_toArray, List.map_cons, List.map_nil]); first | done | rfl | (simp only [List.length_drop, List.length_take]; rfl)) ?_
        with_reducible refine (vec_Add.calls a0_0 a0_1 a1_0 a1_1 t211 t212 _ A28.out).mono ?_
        rintro e w64 ⟨rfl, hb⟩
        refine ⟨_, rfl, ?_⟩
        have n0_ := aM (bB (by (with_reducible repeat first | apply bN | apply bD | apply bA); exact BK202.out) hb)
        have n1_ := aM (bB (by (with_reducible repeat first | apply bN | apply bD | apply bA); exact BK203.out) hb)
        have n2_ := aM (bB (by (with_reducible repeat first | apply bN | apply bD | apply bA); exact BK207.out) hb)
        have n3_ := aM (bB (by (with_reducible repeat first | apply bN | apply bD | apply bA); exact BK210.out) hb)
        have n4_ := aM (lT (by repeat (first | (with_reducible first | exact HB.out | apply lA | apply lN | apply lD | refine lS ?_ GE202.out | refine lS ?_ GE203.out | refine lS ?_ GE207.out | refine lS ?_ GE210.out) | exact HB.out)) hb)
        clear BK202
        clear BK203
        clear BK207
        clear BK210
        clear HB
        have BK202 := n0_
        have BK203 := n1_
        have BK207 := n2_
        have BK210 := n3_
        have HB := n4_
        clear n0_ n1_ n2_ n3_ n4_
        (try clear hb)
        (try clear hb2)
        (try clear hk)
        (try clear hi)
        refine hK.out _ _ ⟨(bC BK202.out 0).trans rfl, (bC BK202.out 1).trans rfl, (bC BK203.out 0).trans rfl, (bC BK203.out 1).trans rfl, (bC BK210.out 0).trans rfl, (bC BK210.out 1).trans rfl, (bC BK207.out 0).trans rfl, (bC BK207.out 1).trans rfl⟩ (fun hHeld => ?_)
        clear hK K
        refine norm_ (a' := ?_) ?_ ?_
        rotate_left
        ·show Act.put _ (some 38) _ = _
         simp only [Act.put, sA, sB, sC, i64_w, i32_w]
         rfl
        refine one_ (i := 5) (N := some 41) #[T,T,T,T,T,T,F,F,F,F,F,F,F,F,F,F,F,F,F,F,F,F,F,F,F,F,F,F,F,F,F,F,F,F,F,F,F,F,F] rfl rfl (one_of HT_.out (by kernel_rfl)) (by decide) (fun K hK => ?_)
        refine goes_ Try.func19 (by kernel_rfl) rfl #[.agg #[.int .i32 a0_0, .int .i32 a0_1], .agg #[.int .i32 a1_0, .int .i32 a1_1]] (by rfl) rfl rfl (by (try simp only [List.map_toArray, List.map_cons, List.map_nil]); first | done | rfl | (simp only [List.length_drop, List.length_take]; rfl)) ?_
        with_reducible refine (billiardref04_Add.calls a0_0 a0_1 a1_0 a1_1 t213 t214 _ A29.out).mono ?_
        rintro e w65 ⟨rfl, hb⟩
        refine ⟨_, rfl, ?_⟩
        have n0_ := aM (bB (by (with_reducible repeat first | apply bN | apply bD | apply bA); exact BK202.out) hb)
        have n1_ := aM (bB (by (with_reducible repeat first | apply bN | apply bD | apply bA); exact BK203.out) hb)
        have n2_ := aM (bB (by (with_reducible repeat first | apply bN | apply bD | apply bA); exact BK207.out) hb)
        have n3_ := aM (bB (by (with_reducible repeat first | apply bN | apply bD | apply bA); exact BK210.out) hb)
        have n4_ := aM (lT (by repeat (first | (with_reducible first | exact HB.out | apply lA | apply lN | apply lD | refine lS ?_ GE202.out | refine lS ?_ GE203.out | refine lS ?_ GE207.out | refine lS ?_ GE210.out) | exact HB.out)) hb)
        clear BK202
        clear BK203
        clear BK207
        clear BK210
        clear HB
        have BK202 := n0_
        have BK203 := n1_
        have BK207 := n2_
        have BK210 := n3_
        have HB := n4_
        clear n0_ n1_ n2_ n3_ n4_
        (try clear hb)
        (try clear hb2)
        (try clear hk)
        (try clear hi)
        refine hK.out _ _ ⟨(bC BK202.out 0).trans rfl, (bC BK202.out 1).trans rfl, (bC BK203.out 0).trans rfl, (bC BK203.out 1).trans rfl, (bC BK210.out 0).trans rfl, (bC BK210.out 1).trans rfl, (bC BK207.out 0).trans rfl, (bC BK207.out 1).trans rfl⟩ (fun hHeld => ?_)
        clear hK K
        refine norm_ (a' := ?_) ?_ ?_
        rotate_left
        ·show Act.put _ (some 41) _ = _
         simp only [Act.put, sA, sB, sC, i64_w, i32_w]
         rfl
        refine pure_ (i := 6) (N := some 42) (v := ?_) (a' := ?_) #[T,T,T,T,T,T,T,F,F,F,F,F,F,F,F,F,F,F,F,F,F,F,F,F,F,F,F,F,F,F,F,F,F,F,F,F,F,F,F] rfl rfl (any_of HT_.out (by kernel_rfl)) (fun _ _ _ h => h) (Or.inl ⟨by rfl, ?_⟩) ?_ ?_
        rotate_left
        ·intro w'
         go_simp
         with_reducible rfl
        rotate_left
        ·simp only [Act.put, sA, sB, sC, i64_w, i32_w]
         rfl
        refine pure_ (i := 7) (N := some 43) (v := ?_) (a' := ?_) #[T,T,T,T,T,T,T,T,F,F,F,F,F,F,F,F,F,F,F,F,F,F,F,F,F,F,F,F,F,F,F,F,F,F,F,F,F,F,F] rfl rfl (any_of HT_.out (by kernel_rfl)) (fun _ _ _ h => h) (Or.inl ⟨by rfl, ?_⟩) ?_ ?_
        rotate_left
        ·intro w'
         go_simp
         with_reducible rfl
        rotate_left
        ·simp only [Act.put, sA, sB, sC, i64_w, i32_w]
         rfl
        refine take_ (i := 8) (N := some 44) (v := ?_) (a' := ?_) #[T,T,T,T,T,T,T,T,T,F,F,F,F,F,F,F,F,F,F,F,F,F,F,F,F,F,F,F,F,F,F,F,F,F,F,F,F,F,F] rfl rfl (take_ofW HT_.out HW_.out (by kernel_rfl)) (fun _ _ _ h => h) (Or.inl ⟨by rfl, ?_⟩) hHeld ?_ ?_
        rotate_left
        ·rintro w' ⟨s0, s1, s2, s3, s4, s5, s6, s7⟩
         go_simp
         with_reducible rfl
        rotate_left
        ·simp only [Act.put, sA, sB, sC, i64_w, i32_w]
         rfl
        refine take_ (i := 9) (N := some 45) (v := ?_) (a' := ?_) #[T,T,T,T,T,T,T,T,T,T,F,F,F,F,F,F,F,F,F,F,F,F,F,F,F,F,F,F,F,F,F,F,F,F,F,F,F,F,F] rfl rfl (take_ofW HT_.out HW_.out (by kernel_rfl)) (fun _ _ _ h => h) (Or.inl ⟨by rfl, ?_⟩) hHeld ?_ ?_
        rotate_left
        ·rintro w' ⟨s0, s1, s2, s3, s4, s5, s6, s7⟩
         go_simp
         with_reducible rfl
        rotate_left
        ·simp only [Act.put, sA, sB, sC, i64_w, i32_w]
         rfl
        refine take_ (i := 11) (N := some 47) (v := ?_) (a' := ?_) #[T,T,T,T,T,T,T,T,T,T,F,T,F,F,F,F,F,F,F,F,F,F,F,F,F,F,F,F,F,F,F,F,F,F,F,F,F,F,F] rfl rfl (take_ofW HT_.out HW_.out (by kernel_rfl)) (fun _ _ _ h => h) (Or.inl ⟨by rfl, ?_⟩) hHeld ?_ ?_
        rotate_left
        ·rintro w' ⟨s0, s1, s2, s3, s4, s5, s6, s7⟩
         go_simp
         with_reducible rfl
        rotate_left
        ·simp only [Act.put, sA, sB, sC, i64_w, i32_w]
         rfl
        refine one_ (i := 10) (N := some 46) #[T,T,T,T,T,T,T,T,T,T,T,T,F,F,F,F,F,F,F,F,F,F,F,F,F,F,F,F,F,F,F,F,F,F,F,F,F,F,F] rfl rfl (one_of HT_.out (by kernel_rfl)) (by decide) (fun K hK => ?_)
        refine goes_ Try.func20 (by kernel_rfl) rfl #[.agg #[.int .i32 a0_0, .int .i32 a0_1], .agg #[.int .i32 a1_0, .int .i32 a1_1]] (by rfl) rfl rfl (by (try simp only [List.map_toArray, List.map_cons, List.map_nil]); first | done | rfl | (simp only [List.length_drop, List.length_take]; rfl)) ?_
        with_reducible refine (vec_Sub.calls a0_0 a0_1 a1_0 a1_1 t215 t216 _ A35.out).mono ?_
        rintro e w66 ⟨rfl, hb⟩
        refine ⟨_, rfl, ?_⟩
        have n0_ := aM (bB (by (with_reducible repeat first | apply bN | apply bD | apply bA); exact BK202.out) hb)
        have n1_ := aM (bB (by (with_reducible repeat first | apply bN | apply bD | apply bA); exact BK203.out) hb)
        have n2_ := aM (bB (by (with_reducible repeat first | apply bN | apply bD | apply bA); exact BK207.out) hb)
        have n3_ := aM (bB (by (with_reducible repeat first | apply bN | apply bD | apply bA); exact BK210.out) hb)
        have n4_ := aM (lT (by repeat (first | (with_reducible first | exact HB.out | apply lA | apply lN | apply lD | refine lS ?_ GE202.out | refine lS ?_ GE203.out | refine lS ?_ GE207.out | refine lS ?_ GE210.out) | exact HB.out)) hb)
        clear BK202
        clear BK203
        clear BK207
        clear BK210
        clear HB
        have BK202 := n0_
        have BK203 := n1_
        have BK207 := n2_
        have BK210 := n3_
        have HB := n4_
        clear n0_ n1_ n2_ n3_ n4_
        (try clear hb)
        (try clear hb2)
        (try clear hk)
        (try clear hi)
        refine hK.out _ _ ⟨(bC BK202.out 0).trans rfl, (bC BK202.out 1).trans rfl, (bC BK203.out 0).trans rfl, (bC BK203.out 1).trans rfl, (bC BK210.out 0).trans rfl, (bC BK210.out 1).trans rfl, (bC BK207.out 0).trans rfl, (bC BK207.out 1).trans rfl⟩ (fun hHeld => ?_)
        clear hK K
        refine norm_ (a' := ?_) ?_ ?_
        rotate_left
        ·show Act.put _ (some 46) _ = _
         simp only [Act.put, sA, sB, sC, i64_w, i32_w]
         rfl
        refine pure_ (i := 12) (N := some 48) (v := ?_) (a' := ?_) #[T,T,T,T,T,T,T,T,T,T,T,T,T,F,F,F,F,F,F,F,F,F,F,F,F,F,F,F,F,F,F,F,F,F,F,F,F,F,F] rfl rfl (any_of HT_.out (by kernel_rfl)) (fun _ _ _ h => h) (Or.inl ⟨by rfl, ?_⟩) ?_ ?_
        rotate_left
        ·intro w'
         go_simp
         with_reducible rfl
        rotate_left
        ·simp only [Act.put, sA, sB, sC, i64_w, i32_w]
         rfl
        refine pure_ (i := 13) (N := some 49) (v := ?_) (a' := ?_) #[T,T,T,T,T,T,T,T,T,T,T,T,T,T,F,F,F,F,F,F,F,F,F,F,F,F,F,F,F,F,F,F,F,F,F,F,F,F,F] rfl rfl (any_of HT_.out (by kernel_rfl)) (fun _ _ _ h => h) (Or.inl ⟨by rfl, ?_⟩) ?_ ?_
        rotate_left
        ·intro w'
         go_simp
         with_reducible rfl
        rotate_left
        ·simp only [Act.put, sA, sB, sC, i64_w, i32_w]
         rfl
        refine pure_ (i := 14) (N := some 50) (v := ?_) (a' := ?_) #[T,T,T,T,T,T,T,T,T,T,T,T,T,T,T,F,F,F,F,F,F,F,F,F,F,F,F,F,F,F,F,F,F,F,F,F,F,F,F] rfl rfl (any_of HT_.out (by kernel_rfl)) (fun _ _ _ h => h) (Or.inl ⟨by rfl, ?_⟩) ?_ ?_
        rotate_left
        ·intro w'
         go_simp
         with_reducible rfl
        rotate_left
        ·simp only [Act.put, sA, sB, sC, i64_w, i32_w]
         rfl
        refine take_ (i := 15) (N := some 51) (v := ?_) (a' := ?_) #[T,T,T,T,T,T,T,T,T,T,T,T,T,T,T,T,F,F,F,F,F,F,F,F,F,F,F,F,F,F,F,F,F,F,F,F,F,F,F] rfl rfl (take_ofW HT_.out HW_.out (by kernel_rfl)) (fun _ _ _ h => h) (Or.inl ⟨by rfl, ?_⟩) hHeld ?_ ?_
        rotate_left
        ·rintro w' ⟨s0, s1, s2, s3, s4, s5, s6, s7⟩
         go_simp
         with_reducible rfl
        rotate_left
        ·simp only [Act.put, sA, sB, sC, i64_w, i32_w]
         rfl
        refine take_ (i := 17) (N := some 53) (v := ?_) (a' := ?_) #[T,T,T,T,T,T,T,T,T,T,T,T,T,T,T,T,F,T,F,F,F,F,F,F,F,F,F,F,F,F,F,F,F,F,F,F,F,F,F] rfl rfl (take_ofW HT_.out HW_.out (by kernel_rfl)) (fun _ _ _ h => h) (Or.inl ⟨by rfl, ?_⟩) hHeld ?_ ?_
        rotate_left
        ·rintro w' ⟨s0, s1, s2, s3, s4, s5, s6, s7⟩
         go_simp
         with_reducible rfl
        rotate_left
        ·simp only [Act.put, sA, sB, sC, i64_w, i32_w]
         rfl
        refine one_ (i := 16) (N := some 52) #[T,T,T,T,T,T,T,T,T,T,T,T,T,T,T,T,T,T,F,F,F,F,F,F,F,F,F,F,F,F,F,F,F,F,F,F,F,F,F] rfl rfl (one_of HT_.out (by kernel_rfl)) (by decide) (fun K hK => ?_)
        refine goes_ Try.func21 (by kernel_rfl) rfl #[.agg #[.int .i32 a1_0, .int .i32 a1_1]] (by rfl) rfl rfl (by (try simp only [List.map_toArray, List.map_cons, List.map_nil]); first | done | rfl | (simp only [List.length_drop, List.length_take]; rfl)) ?_
        with_reducible refine (vec_Neg.calls a1_0 a1_1 t217 t218 _ A42.out).mono ?_
        rintro e w67 ⟨rfl, hb⟩
        refine ⟨_, rfl, ?_⟩
        have n0_ := aM (bB (by (with_reducible repeat first | apply bN | apply bD | apply bA); exact BK202.out) hb)
        have n1_ := aM (bB (by (with_reducible repeat first | apply bN | apply bD | apply bA); exact BK203.out) hb)
        have n2_ := aM (bB (by (with_reducible repeat first | apply bN | apply bD | apply bA); exact BK207.out) hb)
        have n3_ := aM (bB (by (with_reducible repeat first | apply bN | apply bD | apply bA); exact BK210.out) hb)
        have n4_ := aM (lT (by repeat (first | (with_reducible first | exact HB.out | apply lA | apply lN | apply lD | refine lS ?_ GE202.out | refine lS ?_ GE203.out | refine lS ?_ GE207.out | refine lS ?_ GE210.out) | exact HB.out)) hb)
        clear BK202
        clear BK203
        clear BK207
        clear BK210
        clear HB
        have BK202 := n0_
        have BK203 := n1_
        have BK207 := n2_
        have BK210 := n3_
        have HB := n4_
        clear n0_ n1_ n2_ n3_ n4_
        (try clear hb)
        (try clear hb2)
        (try clear hk)
        (try clear hi)
        refine hK.out _ _ ⟨(bC BK202.out 0).trans rfl, (bC BK202.out 1).trans rfl, (bC BK203.out 0).trans rfl, (bC BK203.out 1).trans rfl, (bC BK210.out 0).trans rfl, (bC BK210.out 1).trans rfl, (bC BK207.out 0).trans rfl, (bC BK207.out 1).trans rfl⟩ (fun hHeld => ?_)
        clear hK K
        refine norm_ (a' := ?_) ?_ ?_
        rotate_left
        ·show Act.put _ (some 52) _ = _
         simp only [Act.put, sA, sB, sC, i64_w, i32_w]
         rfl
        refine pure_ (i := 18) (N := some 54) (v := ?_) (a' := ?_) #[T,T,T,T,T,T,T,T,T,T,T,T,T,T,T,T,T,T,T,F,F,F,F,F,F,F,F,F,F,F,F,F,F,F,F,F,F,F,F] rfl rfl (any_of HT_.out (by kernel_rfl)) (fun _ _ _ h => h) (Or.inl ⟨by rfl, ?_⟩) ?_ ?_
        rotate_left
        ·intro w'
         go_simp
         with_reducible rfl
        rotate_left
        ·simp only [Act.put, sA, sB, sC, i64_w, i32_w]
         rfl
        refine pure_ (i := 19) (N := some 55) (v := ?_) (a' := ?_) #[T,T,T,T,T,T,T,T,T,T,T,T,T,T,T,T,T,T,T,T,F,F,F,F,F,F,F,F,F,F,F,F,F,F,F,F,F,F,F] rfl rfl (any_of HT_.out (by kernel_rfl)) (fun _ _ _ h => h) (Or.inl ⟨by rfl, ?_⟩) ?_ ?_
        rotate_left
        ·intro w'
         go_simp
         with_reducible rfl
        rotate_left
        ·simp only [Act.put, sA, sB, sC, i64_w, i32_w]
         rfl
        refine pure_ (i := 20) (N := some 56) (v := ?_) (a' := ?_) #[T,T,T,T,T,T,T,T,T,T,T,T,T,T,T,T,T,T,T,T,T,F,F,F,F,F,F,F,F,F,F,F,F,F,F,F,F,F,F] rfl rfl (any_of HT_.out (by kernel_rfl)) (fun _ _ _ h => h) (Or.inl ⟨by rfl, ?_⟩) ?_ ?_
        rotate_left
        ·intro w'
         go_simp
         with_reducible rfl
        rotate_left
        ·simp only [Act.put, sA, sB, sC, i64_w, i32_w]
         rfl
        refine pure_ (i := 22) (N := some 58) (v := ?_) (a' := ?_) #[T,T,T,T,T,T,T,T,T,T,T,T,T,T,T,T,T,T,T,T,T,F,T,F,F,F,F,F,F,F,F,F,F,F,F,F,F,F,F] rfl rfl (any_of HT_.out (by kernel_rfl)) (fun _ _ _ h => h) (Or.inl ⟨by rfl, ?_⟩) ?_ ?_
        rotate_left
        ·intro w'
         go_simp
         with_reducible rfl
        rotate_left
        ·simp only [Act.put, sA, sB, sC, i64_w, i32_w]
         rfl
        refine pure_ (i := 25) (N := some 61) (v := ?_) (a' := ?_) #[T,T,T,T,T,T,T,T,T,T,T,T,T,T,T,T,T,T,T,T,T,F,T,F,F,T,F,F,F,F,F,F,F,F,F,F,F,F,F] rfl rfl (any_of HT_.out (by kernel_rfl)) (fun _ _ _ h => h) (Or.inl ⟨by rfl, ?_⟩) ?_ ?_
        rotate_left
        ·intro w'
         go_simp
         with_reducible rfl
        rotate_left
        ·simp only [Act.put, sA, sB, sC, i64_w, i32_w]
         rfl
        refine take_ (i := 21) (N := some 57) (v := ?_) (a' := ?_) #[T,T,T,T,T,T,T,T,T,T,T,T,T,T,T,T,T,T,T,T,T,T,T,F,F,T,F,F,F,F,F,F,F,F,F,F,F,F,F] rfl rfl (take_ofW HT_.out HW_.out (by kernel_rfl)) (fun _ _ _ h => h) (Or.inl ⟨by rfl, ?_⟩) hHeld ?_ ?_
        rotate_left
        ·rintro w' ⟨s0, s1, s2, s3, s4, s5, s6, s7⟩
         go_simp
         with_reducible rfl
        rotate_left
        ·simp only [Act.put, sA, sB, sC, i64_w, i32_w]
         rfl
        refine take_ (i := 24) (N := some 60) (v := ?_) (a' := ?_) #[T,T,T,T,T,T,T,T,T,T,T,T,T,T,T,T,T,T,T,T,T,T,T,F,T,T,F,F,F,F,F,F,F,F,F,F,F,F,F] rfl rfl (take_ofW HT_.out HW_.out (by kernel_rfl)) (fun _ _ _ h => h) (Or.inl ⟨by rfl, ?_⟩) hHeld ?_ ?_
        rotate_left
        ·rintro w' ⟨s0, s1, s2, s3, s4, s5, s6, s7⟩
         go_simp
         with_reducible rfl
        rotate_left
        ·simp only [Act.put, sA, sB, sC, i64_w, i32_w]
         rfl
        refine one_ (i := 23) (N := some 59) #[T,T,T,T,T,T,T,T,T,T,T,T,T,T,T,T,T,T,T,T,T,T,T,T,T,T,F,F,F,F,F,F,F,F,F,F,F,F,F] rfl rfl (one_of HT_.out (by kernel_rfl)) (by decide) (fun K hK => ?_)
        refine goes_ Try.func22 (by kernel_rfl) rfl #[.agg #[.int .i32 a0_0, .int .i32 a0_1], .int .i32 a2] (by rfl) rfl rfl (by (try simp only [List.map_toArray, List.map_cons, List.map_nil]); first | done | rfl | (simp only [List.length_drop, List.length_take]; rfl)) ?_
        with_reducible refine (vec_Scale.calls a0_0 a0_1 a2 t219 t220 _ A50.out).mono ?_
        rintro e w68 ⟨rfl, hb⟩
        refine ⟨_, rfl, ?_⟩
        have n0_ := aM (bB (by (with_reducible repeat first | apply bN | apply bD | apply bA); exact BK202.out) hb)
        have n1_ := aM (bB (by (with_reducible repeat first | apply bN | apply bD | apply bA); exact BK203.out) hb)
        have n2_ := aM (bB (by (with_reducible repeat first | apply bN | apply bD | apply bA); exact BK207.out) hb)
        have n3_ := aM (bB (by (with_reducible repeat first | apply bN | apply bD | apply bA); exact BK210.out) hb)
        have n4_ := aM (lT (by repeat (first | (with_reducible first | exact HB.out | apply lA | apply lN | apply lD | refine lS ?_ GE202.out | refine lS ?_ GE203.out | refine lS ?_ GE207.out | refine lS ?_ GE210.out) | exact HB.out)) hb)
        clear BK202
        clear BK203
        clear BK207
        clear BK210
        clear HB
        have BK202 := n0_
        have BK203 := n1_
        have BK207 := n2_
        have BK210 := n3_
        have HB := n4_
        clear n0_ n1_ n2_ n3_ n4_
        (try clear hb)
        (try clear hb2)
        (try clear hk)
        (try clear hi)
        refine hK.out _ _ ⟨(bC BK202.out 0).trans rfl, (bC BK202.out 1).trans rfl, (bC BK203.out 0).trans rfl, (bC BK203.out 1).trans rfl, (bC BK210.out 0).trans rfl, (bC BK210.out 1).trans rfl, (bC BK207.out 0).trans rfl, (bC BK207.out 1).trans rfl⟩ (fun hHeld => ?_)
        clear hK K
        refine norm_ (a' := ?_) ?_ ?_
        rotate_left
        ·show Act.put _ (some 59) _ = _
         simp only [Act.put, sA, sB, sC, i64_w, i32_w]
         rfl
        refine one_ (i := 26) (N := some 62) #[T,T,T,T,T,T,T,T,T,T,T,T,T,T,T,T,T,T,T,T,T,T,T,T,T,T,T,F,F,F,F,F,F,F,F,F,F,F,F] rfl rfl (one_of HT_.out (by kernel_rfl)) (by decide) (fun K hK => ?_)
        refine goes_ Try.func23 (by kernel_rfl) rfl #[.agg #[.int .i32 a0_0, .int .i32 a0_1], .int .i32 a2] (by rfl) rfl rfl (by (try simp only [List.map_toArray, List.map_cons, List.map_nil]); first | done | rfl | (simp only [List.length_drop, List.length_take]; rfl)) ?_
        with_reducible refine (billiardref04_Scale.calls a0_0 a0_1 a2 t221 t222 _ A51.out).mono ?_
        rintro e w69 ⟨rfl, hb⟩
        refine ⟨_, rfl, ?_⟩
        have n0_ := aM (bB (by (with_reducible repeat first | apply bN | apply bD | apply bA); exact BK202.out) hb)
        have n1_ := aM (bB (by (with_reducible repeat first | apply bN | apply bD | apply bA); exact BK203.out) hb)
        have n2_ := aM (bB (by (with_reducible repeat first | apply bN | apply bD | apply bA); exact BK207.out) hb)
        have n3_ := aM (bB (by (with_reducible repeat first | apply bN | apply bD | apply bA); exact BK210.out) hb)
        have n4_ := aM (lT (by repeat (first | (with_reducible first | exact HB.out | apply lA | apply lN | apply lD | refine lS ?_ GE202.out | refine lS ?_ GE203.out | refine lS ?_ GE207.out | refine lS ?_ GE210.out) | exact HB.out)) hb)
        clear BK202
        clear BK203
        clear BK207
        clear BK210
        clear HB
        have BK202 := n0_
        have BK203 := n1_
        have BK207 := n2_
        have BK210 := n3_
        have HB := n4_
        clear n0_ n1_ n2_ n3_ n4_
        (try clear hb)
        (try clear hb2)
        (try clear hk)
        (try clear hi)
        refine hK.out _ _ ⟨(bC BK202.out 0).trans rfl, (bC BK202.out 1).trans rfl, (bC BK203.out 0).trans rfl, (bC BK203.out 1).trans rfl, (bC BK210.out 0).trans rfl, (bC BK210.out 1).trans rfl, (bC BK207.out 0).trans rfl, (bC BK207.out 1).trans rfl⟩ (fun hHeld => ?_)
        clear hK K
        refine norm_ (a' := ?_) ?_ ?_
        rotate_left
        ·show Act.put _ (some 62) _ = _
         simp only [Act.put, sA, sB, sC, i64_w, i32_w]
         rfl
        refine pure_ (i := 27) (N := some 63) (v := ?_) (a' := ?_) #[T,T,T,T,T,T,T,T,T,T,T,T,T,T,T,T,T,T,T,T,T,T,T,T,T,T,T,T,F,F,F,F,F,F,F,F,F,F,F] rfl rfl (any_of HT_.out (by kernel_rfl)) (fun _ _ _ h => h) (Or.inl ⟨by rfl, ?_⟩) ?_ ?_
        rotate_left
        ·intro w'
         go_simp
         with_reducible rfl
        rotate_left
        ·simp only [Act.put, sA, sB, sC, i64_w, i32_w]
         rfl
        refine pure_ (i := 28) (N := some 64) (v := ?_) (a' := ?_) #[T,T,T,T,T,T,T,T,T,T,T,T,T,T,T,T,T,T,T,T,T,T,T,T,T,T,T,T,T,F,F,F,F,F,F,F,F,F,F] rfl rfl (any_of HT_.out (by kernel_rfl)) (fun _ _ _ h => h) (Or.inl ⟨by rfl, ?_⟩) ?_ ?_
        rotate_left
        ·intro w'
         go_simp
         with_reducible rfl
        rotate_left
        ·simp only [Act.put, sA, sB, sC, i64_w, i32_w]
         rfl
        refine pure_ (i := 29) (N := some 65) (v := ?_) (a' := ?_) #[T,T,T,T,T,T,T,T,T,T,T,T,T,T,T,T,T,T,T,T,T,T,T,T,T,T,T,T,T,T,F,F,F,F,F,F,F,F,F] rfl rfl (any_of HT_.out (by kernel_rfl)) (fun _ _ _ h => h) (Or.inl ⟨by rfl, ?_⟩) ?_ ?_
        rotate_left
        ·intro w'
         go_simp
         with_reducible rfl
        rotate_left
        ·simp only [Act.put, sA, sB, sC, i64_w, i32_w]
         rfl
        refine pure_ (i := 32) (N := some 68) (v := ?_) (a' := ?_) #[T,T,T,T,T,T,T,T,T,T,T,T,T,T,T,T,T,T,T,T,T,T,T,T,T,T,T,T,T,T,F,F,T,F,F,F,F,F,F] rfl rfl (any_of HT_.out (by kernel_rfl)) (fun _ _ _ h => h) (Or.inl ⟨by rfl, ?_⟩) ?_ ?_
        rotate_left
        ·intro w'
         go_simp
         with_reducible rfl
        rotate_left
        ·simp only [Act.put, sA, sB, sC, i64_w, i32_w]
         rfl
        refine pure_ (i := 34) (N := some 70) (v := ?_) (a' := ?_) #[T,T,T,T,T,T,T,T,T,T,T,T,T,T,T,T,T,T,T,T,T,T,T,T,T,T,T,T,T,T,F,F,T,F,T,F,F,F,F] rfl rfl (any_of HT_.out (by kernel_rfl)) (fun _ _ _ h => h) (Or.inl ⟨by rfl, ?_⟩) ?_ ?_
        rotate_left
        ·intro w'
         go_simp
         with_reducible rfl
        rotate_left
        ·simp only [Act.put, sA, sB, sC, i64_w, i32_w]
         rfl
        refine take_ (i := 30) (N := some 66) (v := ?_) (a' := ?_) #[T,T,T,T,T,T,T,T,T,T,T,T,T,T,T,T,T,T,T,T,T,T,T,T,T,T,T,T,T,T,T,F,T,F,T,F,F,F,F] rfl rfl (take_ofW HT_.out HW_.out (by kernel_rfl)) (fun _ _ _ h => h) (Or.inl ⟨by rfl, ?_⟩) hHeld ?_ ?_
        rotate_left
        ·rintro w' ⟨s0, s1, s2, s3, s4, s5, s6, s7⟩
         go_simp
         with_reducible rfl
        rotate_left
        ·simp only [Act.put, sA, sB, sC, i64_w, i32_w]
         rfl
        refine take_ (i := 33) (N := some 69) (v := ?_) (a' := ?_) #[T,T,T,T,T,T,T,T,T,T,T,T,T,T,T,T,T,T,T,T,T,T,T,T,T,T,T,T,T,T,T,F,T,T,T,F,F,F,F] rfl rfl (take_ofW HT_.out HW_.out (by kernel_rfl)) (fun _ _ _ h => h) (Or.inl ⟨by rfl, ?_⟩) hHeld ?_ ?_
        rotate_left
        ·rintro w' ⟨s0, s1, s2, s3, s4, s5, s6, s7⟩
         go_simp
         with_reducible rfl
        rotate_left
        ·simp only [Act.put, sA, sB, sC, i64_w, i32_w]
         rfl
        refine take_ (i := 35) (N := some 71) (v := ?_) (a' := ?_) #[T,T,T,T,T,T,T,T,T,T,T,T,T,T,T,T,T,T,T,T,T,T,T,T,T,T,T,T,T,T,T,F,T,T,T,T,F,F,F] rfl rfl (take_ofW HT_.out HW_.out (by kernel_rfl)) (fun _ _ _ h => h) (Or.inl ⟨by rfl, ?_⟩) hHeld ?_ ?_
        rotate_left
        ·rintro w' ⟨s0, s1, s2, s3, s4, s5, s6, s7⟩
         go_simp
         with_reducible rfl
        rotate_left
        ·simp only [Act.put, sA, sB, sC, i64_w, i32_w]
         rfl
        refine pure_ (i := 36) (N := some 72) (v := ?_) (a' := ?_) #[T,T,T,T,T,T,T,T,T,T,T,T,T,T,T,T,T,T,T,T,T,T,T,T,T,T,T,T,T,T,T,F,T,T,T,T,T,F,F] rfl rfl (any_of HT_.out (by kernel_rfl)) (fun _ _ _ h => h) (Or.inl ⟨by rfl, ?_⟩) ?_ ?_
        rotate_left
        ·intro w'
         go_simp
         with_reducible rfl
        rotate_left
        ·simp only [Act.put, sA, sB, sC, i64_w, i32_w]
         rfl
        refine one_ (i := 31) (N := some 67) #[T,T,T,T,T,T,T,T,T,T,T,T,T,T,T,T,T,T,T,T,T,T,T,T,T,T,T,T,T,T,T,T,T,T,T,T,T,F,F] rfl rfl (one_of HT_.out (by kernel_rfl)) (by decide) (fun K hK => ?_)
        refine goes_ Try.func15 (by kernel_rfl) rfl #[.agg #[.int .i32 a1_0, .int .i32 a1_1]] (by rfl) rfl rfl (by (try simp only [List.map_toArray, List.map_cons, List.map_nil]); first | done | rfl | (simp only [List.length_drop, List.length_take]; rfl)) ?_
        with_reducible refine (vec_Perp.calls a1_0 a1_1 t223 t224 _ A61.out).mono ?_
        rintro e w70 ⟨rfl, hb⟩
        refine ⟨_, rfl, ?_⟩
        have n0_ := aM (bB (by (with_reducible repeat first | apply bN | apply bD | apply bA); exact BK202.out) hb)
        have n1_ := aM (bB (by (with_reducible repeat first | apply bN | apply bD | apply bA); exact BK203.out) hb)
        have n2_ := aM (bB (by (with_reducible repeat first | apply bN | apply bD | apply bA); exact BK207.out) hb)
        have n3_ := aM (bB (by (with_reducible repeat first | apply bN | apply bD | apply bA); exact BK210.out) hb)
        have n4_ := aM (lT (by repeat (first | (with_reducible first | exact HB.out | apply lA | apply lN | apply lD | refine lS ?_ GE202.out | refine lS ?_ GE203.out | refine lS ?_ GE207.out | refine lS ?_ GE210.out) | exact HB.out)) hb)
        clear BK202
        clear BK203
        clear BK207
        clear BK210
        clear HB
        have BK202 := n0_
        have BK203 := n1_
        have BK207 := n2_
        have BK210 := n3_
        have HB := n4_
        clear n0_ n1_ n2_ n3_ n4_
        (try clear hb)
        (try clear hb2)
        (try clear hk)
        (try clear hi)
        refine hK.out _ _ ⟨(bC BK202.out 0).trans rfl, (bC BK202.out 1).trans rfl, (bC BK203.out 0).trans rfl, (bC BK203.out 1).trans rfl, (bC BK210.out 0).trans rfl, (bC BK210.out 1).trans rfl, (bC BK207.out 0).trans rfl, (bC BK207.out 1).trans rfl⟩ (fun hHeld => ?_)
        clear hK K
        refine norm_ (a' := ?_) ?_ ?_
        rotate_left
        ·show Act.put _ (some 67) _ = _
         simp only [Act.put, sA, sB, sC, i64_w, i32_w]
         rfl
        refine pure_ (i := 37) (N := some 73) (v := ?_) (a' := ?_) #[T,T,T,T,T,T,T,T,T,T,T,T,T,T,T,T,T,T,T,T,T,T,T,T,T,T,T,T,T,T,T,T,T,T,T,T,T,T,F] rfl rfl (any_of HT_.out (by kernel_rfl)) (fun _ _ _ h => h) (Or.inl ⟨by rfl, ?_⟩) ?_ ?_
        rotate_left
        ·intro w'
         go_simp
         with_reducible rfl
        rotate_left
        ·simp only [Act.put, sA, sB, sC, i64_w, i32_w]
         rfl
        refine pure_ (i := 38) (N := some 74) (v := ?_) (a' := ?_) #[T,T,T,T,T,T,T,T,T,T,T,T,T,T,T,T,T,T,T,T,T,T,T,T,T,T,T,T,T,T,T,T,T,T,T,T,T,T,T] rfl rfl (any_of HT_.out (by kernel_rfl)) (fun _ _ _ h => h) (Or.inl ⟨by rfl, ?_⟩) ?_ ?_
        rotate_left
        ·intro w'
         go_simp
         with_reducible rfl
        rotate_left
        ·simp only [Act.put, sA, sB, sC, i64_w, i32_w]
         rfl
        refine done_ (done_of HT_.out (by kernel_rfl)) ?_
        try go_wp2
        go_meet
        case rel => exact ⟨_, ((!(t223 == t206) || (!(t224 == a1_0)))), (by first | rfl | (simp; done) | (simp [*]; done)), H', ⟨by first | omega | exact Nat.le_refl _⟩, ⟨by (with_reducible repeat first | apply bN | apply bD | apply bA); exact BK202.out⟩, ⟨by (with_reducible repeat first | apply bN | apply bD | apply bA); exact BK203.out⟩, ⟨by (with_reducible repeat first | apply bN | apply bD | apply bA); exact BK207.out⟩, ⟨by (with_reducible repeat first | apply bN | apply bD | apply bA); exact BK210.out⟩, ⟨by repeat (first | (with_reducible first | exact HB.out | apply lA | apply lN | apply lD | refine lS ?_ GE202.out | refine lS ?_ GE203.out | refine lS ?_ GE207.out | refine lS ?_ GE210.out) | exact HB.out)⟩⟩
  case rest =>
   clear HC11
   try clear c1
   try clear c2
   try clear p2
   try clear c5
   try clear c15
   try clear c18
   try clear c19
   try clear c20
   try clear c21
   try clear c22
   try clear c23
   try clear c52
   try clear c52b0
   obtain ⟨kq, x74_10, rfl, HA, HJ10, BK202, BK203, BK207, BK210, HB⟩ := hcut
   cases kq with
   | zero => exact absurd HA.out (by simp [billiardlaw04_VecMatchesReference.j0])
   | succ kj10 =>
    have H := HA.out
    clear HA
    simp only [billiardlaw04_VecMatchesReference.j0] at H
    by_cases c71 : x74_10 = true
    ·subst c71
     have H1 : (some false) = some r := by rw [if_pos rfl] at H; exact H
     clear H
     have H := H1
     clear H1
     exact absurd ((Option.some.inj H).trans HR.out) (by decide)
    ·replace c71 := Bool.eq_false_iff.mpr c71
     subst c71
     have H1 : ((vec_Diff.f a0_0 a0_1 a1_0 a1_1).bind fun bt225 => (if bt225.1 = (wrap64 ((wrap64 (a1_0)) - (wrap64 (a0_0)))) then (billiardlaw04_VecMatchesReference.j1 kj10 a3 a4 (bt225.2 != (wrap64 ((wrap64 (a1_1)) - (wrap64 (a0_1))))) a0_0 a0_1 a1_0 a1_1) else (billiardlaw04_VecMatchesReference.j1 kj10 a3 a4 true a0_0 a0_1 a1_0 a1_1))) = some r := by rw [if_neg (show ¬ (false = true) by decide)] at H; exact H
     clear H
     have H := H1
     clear H1
     replace H := Option.bind_eq_some_iff.mp H
     obtain ⟨⟨t225, t226⟩, A720, H⟩ := H
     replace H : (if t225 = (wrap64 ((wrap64 (a1_0)) - (wrap64 (a0_0)))) then (billiardlaw04_VecMatchesReference.j1 kj10 a3 a4 (t226 != (wrap64 ((wrap64 (a1_1)) - (wrap64 (a0_1))))) a0_0 a0_1 a1_0 a1_1) else (billiardlaw04_VecMatchesReference.j1 kj10 a3 a4 true a0_0 a0_1 a1_0 a1_1)) = some r := H
     have A72 := aM A720
     clear A720
     have HC73 := aM H
     clear H
     have hnb74 := N0_.out
     have hnc74 := N1_.out
     have hnb75 := N2_.out
     have hnc75 := N3_.out
     have hnb76 := N6_.out
     have hnc76 := N7_.out
     have hcz77_0 : wc.cell? ⟨b202, 0, none⟩ = some (.int .i32 a0_0) := (bC BK202.out 0).trans rfl
     have hcz77_1 : wc.cell? ⟨b202, 1, none⟩ = some (.int .i32 a0_1) := (bC BK202.out 1).trans rfl
     have hfz77_0 := bF BK202.out 0
     have hfz77_1 := bF BK202.out 1
     have hnb78 := N4_.out
     have hnc78 := N5_.out
     have hnb79 := N8_.out
     have hnc79 := N9_.out
     have hcz80_0 : wc.cell? ⟨b203, 0, none⟩ = some (.int .i32 a1_0) := (bC BK203.out 0).trans rfl
     have hcz80_1 : wc.cell? ⟨b203, 1, none⟩ = some (.int .i32 a1_1) := (bC BK203.out 1).trans rfl
     have hfz80_0 := bF BK203.out 0
     have hfz80_1 := bF BK203.out 1
     go_upto_region 8 with (first | ((with_reducible refine gate_callee (f := 24) rfl ?_); refine goesL_ (some 78) rfl rfl Try.func24 (by kernel_rfl) rfl #[.agg #[.int .i32 a0_0, .int .i32 a0_1], .agg #[.int .i32 a1_0, .int .i32 a1_1]] rfl (by (try simp only [List.map_toArray, List.map_cons, List.map_nil]); first | done | rfl | (simp only [List.length_drop, List.length_take]; rfl)) ?_; (with_reducible refine (vec_Diff.calls a0_0 a0_1 a1_0 a1_1 t225 t226 _ A72.out).mono ?_); rintro e w81 ⟨rfl, hb⟩; refine ⟨_, rfl, ?_⟩; have n0_ := aM (bB (by (with_reducible repeat first | apply bN | apply bD | apply bA); exact BK202.out) hb); have n1_ := aM (bB (by (with_reducible repeat first | apply bN | apply bD | apply bA); exact BK203.out) hb); have n2_ := aM (bB (by (with_reducible repeat first | apply bN | apply bD | apply bA); exact BK207.out) hb); have n3_ := aM (bB (by (with_reducible repeat first | apply bN | apply bD | apply bA); exact BK210.out) hb); have n4_ := aM (lT (by repeat (first | (with_reducible first | exact HB.out | apply lA | apply lN | apply lD | refine lS ?_ GE202.out | refine lS ?_ GE203.out | refine lS ?_ GE207.out | refine lS ?_ GE210.out) | exact HB.out)) hb); clear BK202; clear BK203; clear BK207; clear BK210; clear HB; have BK202 := n0_; have BK203 := n1_; have BK207 := n2_; have BK210 := n3_; have HB := n4_; clear n0_ n1_ n2_ n3_ n4_; (try clear hb); (try clear hb2); (try clear hk); (try clear hi)))
     (try simp only [Act.put, sA, sB, sC])
     go_cut [100] (fun v100 wc => ∃ (kq : Nat) (x100_72 : Bool), v100 = .bool x100_72 ∧ Aside0 (billiardlaw04_VecMatchesReference.j1 kq a3 a4 x100_72 a0_0 a0_1 a1_0 a1_1 = some r) ∧ Aside0 (kq ≤ kj10) ∧ Aside0 (wc.heap[b202]? = some (.cells #[.int .i32 a0_0, .int .i32 a0_1] 25 (0, 0))) ∧ Aside0 (wc.heap[b203]? = some (.cells #[.int .i32 a1_0, .int .i32 a1_1] 25 (0, 0))) ∧ Aside0 (wc.heap[b207]? = some (.cells #[.int .i32 t205, .int .i32 t206] 25 (0, 0))) ∧ Aside0 (wc.heap[b210]? = some (.cells #[.int .i32 t208, .int .i32 t209] 25 (0, 0))) ∧ Aside0 (Below w.heap.size w wc))
     case first =>
      have H := HC73.out
      clear HC73
      by_cases c82 : t225 = (wrap64 ((wrap64 (a1_0)) - (wrap64 (a0_0))))
      ·rw [if_pos c82] at H
       have c82b0 : (t225 == (wrap64 ((wrap64 (a1_0)) - (wrap64 (a0_0))))) = true := beq_iff_eq.mpr c82
       have c82b1 : (t225 != (wrap64 ((wrap64 (a1_0)) - (wrap64 (a0_0))))) = false := bne_eq_false_iff_eq.mpr c82
       clear c82
       (first | rw [c82b0] | (simp only [i64_w, i32_w]; rw [c82b0]) | skip)
       as_aux_lemma =>
        have H' := aM H
        clear H
        have hnb83 := N1_.out
        have hnc83 := N0_.out
        have hnb84 := N4_.out
        have hnc84 := N5_.out
        have hnb85 := N8_.out
        have hnc85 := N9_.out
        have hcz86_0 : w81.cell? ⟨b203, 0, none⟩ = some (.int .i32 a1_0) := (bC BK203.out 0).trans rfl
        have hcz86_1 : w81.cell? ⟨b203, 1, none⟩ = some (.int .i32 a1_1) := (bC BK203.out 1).trans rfl
        have hfz86_0 := bF BK203.out 0
        have hfz86_1 := bF BK203.out 1
        have hnb87 := N2_.out
        have hnc87 := N3_.out
        have hnb88 := N6_.out
        have hnc88 := N7_.out
        have hcz89_0 : w81.cell? ⟨b202, 0, none⟩ = some (.int .i32 a0_0) := (bC BK202.out 0).trans rfl
        have hcz89_1 : w81.cell? ⟨b202, 1, none⟩ = some (.int .i32 a0_1) := (bC BK202.out 1).trans rfl
        have hfz89_0 := bF BK202.out 0
        have hfz89_1 := bF BK202.out 1
        go_wp2
        go_meet
        case rel => exact ⟨_, ((t226 != (wrap64 ((wrap64 (a1_1)) - (wrap64 (a0_1)))))), (by first | rfl | (simp; done) | (simp [*]; done)), H', ⟨by have := HJ10.out; first | omega | exact Nat.le_refl _⟩, ⟨by (with_reducible repeat first | apply bN | apply bD | apply bA); exact BK202.out⟩, ⟨by (with_reducible repeat first | apply bN | apply bD | apply bA); exact BK203.out⟩, ⟨by (with_reducible repeat first | apply bN | apply bD | apply bA); exact BK207.out⟩, ⟨by (with_reducible repeat first | apply bN | apply bD | apply bA); exact BK210.out⟩, ⟨by repeat (first | (with_reducible first | exact HB.out | apply lA | apply lN | apply lD | refine lS ?_ GE202.out | refine lS ?_ GE203.out | refine lS ?_ GE207.out | refine lS ?_ GE210.out) | exact HB.out)⟩⟩
      ·rw [if_neg c82] at H
       have c82b0 : (t225 == (wrap64 ((wrap64 (a1_0)) - (wrap64 (a0_0))))) = false := beq_eq_false_iff_ne.mpr c82
       have c82b1 : (t225 != (wrap64 ((wrap64 (a1_0)) - (wrap64 (a0_0))))) = true := bne_iff_ne.mpr c82
       (first | rw [c82b0] | (simp only [i64_w, i32_w]; rw [c82b0]) | skip)
       as_aux_lemma =>
        have H' := aM H
        clear H
        have hnb90 := N1_.out
        have hnc90 := N0_.out
        have hnb91 := N4_.out
        have hnc91 := N5_.out
        have hnb92 := N8_.out
        have hnc92 := N9_.out
        have hcz93_0 : w81.cell? ⟨b203, 0, none⟩ = some (.int .i32 a1_0) := (bC BK203.out 0).trans rfl
        have hcz93_1 : w81.cell? ⟨b203, 1, none⟩ = some (.int .i32 a1_1) := (bC BK203.out 1).trans rfl
        have hfz93_0 := bF BK203.out 0
        have hfz93_1 := bF BK203.out 1
        have hnb94 := N2_.out
        have hnc94 := N3_.out
        have hnb95 := N6_.out
        have hnc95 := N7_.out
        have hcz96_0 : w81.cell? ⟨b202, 0, none⟩ = some (.int .i32 a0_0) := (bC BK202.out 0).trans rfl
        have hcz96_1 : w81.cell? ⟨b202, 1, none⟩ = some (.int .i32 a0_1) := (bC BK202.out 1).trans rfl
        have hfz96_0 := bF BK202.out 0
        have hfz96_1 := bF BK202.out 1
        go_wp2
        go_meet
        case rel => exact ⟨_, (true), (by first | rfl | (simp; done) | (simp [*]; done)), H', ⟨by have := HJ10.out; first | omega | exact Nat.le_refl _⟩, ⟨by (with_reducible repeat first | apply bN | apply bD | apply bA); exact BK202.out⟩, ⟨by (with_reducible repeat first | apply bN | apply bD | apply bA); exact BK203.out⟩, ⟨by (with_reducible repeat first | apply bN | apply bD | apply bA); exact BK207.out⟩, ⟨by (with_reducible repeat first | apply bN | apply bD | apply bA); exact BK210.out⟩, ⟨by repeat (first | (with_reducible first | exact HB.out | apply lA | apply lN | apply lD | refine lS ?_ GE202.out | refine lS ?_ GE203.out | refine lS ?_ GE207.out | refine lS ?_ GE210.out) | exact HB.out)⟩⟩
     case rest =>
      clear HC73
      try clear c1
      try clear c2
      try clear p2
      try clear c5
      try clear p6
      try clear c7
      try clear c8
      try clear c9
      try clear c15
      try clear c18
      try clear c19
      try clear c20
      try clear c21
      try clear c22
      try clear c23
      try clear c24
      try clear c52
      try clear c52b0
      try clear p64
      try clear c71
      try clear c74
      try clear c75
      try clear c76
      try clear c78
      try clear c79
      try clear c82
      try clear c82b0
      try clear c82b1
      try clear c83
      try clear c84
      try clear c85
      try clear c87
      try clear c88
      try clear c90
      try clear c91
      try clear c92
      try clear c94
      try clear c95
      try clear hcz77_0
      try clear hcz77_1
      try clear hcz80_0
      try clear hcz80_1
      try clear hcz86_0
      try clear hcz86_1
      try clear hcz89_0
      try clear hcz89_1
      try clear hcz93_0
      try clear hcz93_1
      try clear hcz96_0
      try clear hcz96_1
      try clear hfz77_0
      try clear hfz77_1
      try clear hfz80_0
      try clear hfz80_1
      try clear hfz86_0
      try clear hfz86_1
      try clear hfz89_0
      try clear hfz89_1
      try clear hfz93_0
      try clear hfz93_1
      try clear hfz96_0
      try clear hfz96_1
      try clear p2
      obtain ⟨kq, x100_72, rfl, HA, HJ72, BK202, BK203, BK207, BK210, HB⟩ := hcut
      cases kq with
      | zero => exact absurd HA.out (by simp [billiardlaw04_VecMatchesReference.j1])
      | succ kj72 =>
       have H := HA.out
       clear HA
       simp only [billiardlaw04_VecMatchesReference.j1] at H
       by_cases c97 : x100_72 = true
       ·subst c97
        have H1 : (some false) = some r := by rw [if_pos rfl] at H; exact H
        clear H
        have H := H1
        clear H1
        exact absurd ((Option.some.inj H).trans HR.out) (by decide)
       ·replace c97 := Bool.eq_false_iff.mpr c97
        subst c97
        have H1 : (if a0_0 > (-2147483648) then (if a0_1 > (-2147483648) then (if a1_0 > (-2147483648) then (billiardlaw04_VecMatchesReference.j2 kj72 a3 a4 (decide (a1_1 > (-2147483648))) a0_0 a0_1 a1_0 a1_1) else (billiardlaw04_VecMatchesReference.j2 kj72 a3 a4 false a0_0 a0_1 a1_0 a1_1)) else (billiardlaw04_VecMatchesReference.j2 kj72 a3 a4 false a0_0 a0_1 a1_0 a1_1)) else (billiardlaw04_VecMatchesReference.j2 kj72 a3 a4 false a0_0 a0_1 a1_0 a1_1)) = some r := by rw [if_neg (show ¬ (false = true) by decide)] at H; exact H
        clear H
        have H := H1
        clear H1
        have HC98 := aM H
        clear H
        go_upto_region 10 with (fail)
        go_cut [118] (fun v118 wc => ∃ (kq : Nat) (x118_97 : Bool), v118 = .bool x118_97 ∧ Aside0 (billiardlaw04_VecMatchesReference.j2 kq a3 a4 x118_97 a0_0 a0_1 a1_0 a1_1 = some r) ∧ Aside0 (kq ≤ kj72) ∧ Aside0 (wc.heap[b202]? = some (.cells #[.int .i32 a0_0, .int .i32 a0_1] 25 (0, 0))) ∧ Aside0 (wc.heap[b203]? = some (.cells #[.int .i32 a1_0, .int .i32 a1_1] 25 (0, 0))) ∧ Aside0 (wc.heap[b207]? = some (.cells #[.int .i32 t205, .int .i32 t206] 25 (0, 0))) ∧ Aside0 (wc.heap[b210]? = some (.cells #[.int .i32 t208, .int .i32 t209] 25 (0, 0))) ∧ Aside0 (Below w.heap.size w wc))
        case first =>
         have H := HC98.out
         clear HC98
         by_cases c99 : a0_0 > (-2147483648)
         ·rw [if_pos c99] at H
          have c99b0 : decide ((-2147483648) < a0_0) = true := decide_eq_true c99
          clear c99
          (first | rw [c99b0] | (simp only [i64_w, i32_w]; rw [c99b0]) | skip)
          by_cases c100 : a0_1 > (-2147483648)
          ·rw [if_pos c100] at H
           have c100b0 : decide ((-2147483648) < a0_1) = true := decide_eq_true c100
           clear c100
           by_cases c101 : a1_0 > (-2147483648)
           ·rw [if_pos c101] at H
            have c101b0 : decide ((-2147483648) < a1_0) = true := decide_eq_true c101
            clear c101
            as_aux_lemma =>
             have H' := aM H
             clear H
             have hnb102 := N0_.out
             have hnc102 := N1_.out
             have hnb103 := N2_.out
             have hnc103 := N3_.out
             have hnb104 := N6_.out
             have hnc104 := N7_.out
             have hcz105_0 : wc.cell? ⟨b202, 0, none⟩ = some (.int .i32 a0_0) := (bC BK202.out 0).trans rfl
             have hcz105_1 : wc.cell? ⟨b202, 1, none⟩ = some (.int .i32 a0_1) := (bC BK202.out 1).trans rfl
             have hfz105_0 := bF BK202.out 0
             have hfz105_1 := bF BK202.out 1
             have hnb106 := N4_.out
             have hnc106 := N5_.out
             have hnb107 := N8_.out
             have hnc107 := N9_.out
             have hcz108_0 : wc.cell? ⟨b203, 0, none⟩ = some (.int .i32 a1_0) := (bC BK203.out 0).trans rfl
             have hcz108_1 : wc.cell? ⟨b203, 1, none⟩ = some (.int .i32 a1_1) := (bC BK203.out 1).trans rfl
             have hfz108_0 := bF BK203.out 0
             have hfz108_1 := bF BK203.out 1
             go_wp2
             go_meet
             case rel => exact ⟨_, (decide (a1_1 > (-2147483648))), (by first | rfl | (simp; done) | (simp [*]; done)), H', ⟨by have := HJ10.out; have := HJ72.out; first | omega | exact Nat.le_refl _⟩, ⟨by (with_reducible repeat first | apply bN | apply bD | apply bA); exact BK202.out⟩, ⟨by (with_reducible repeat first | apply bN | apply bD | apply bA); exact BK203.out⟩, ⟨by (with_reducible repeat first | apply bN | apply bD | apply bA); exact BK207.out⟩, ⟨by (with_reducible repeat first | apply bN | apply bD | apply bA); exact BK210.out⟩, ⟨by repeat (first | (with_reducible first | exact HB.out | apply lA | apply lN | apply lD | refine lS ?_ GE202.out | refine lS ?_ GE203.out | refine lS ?_ GE207.out | refine lS ?_ GE210.out) | exact HB.out)⟩⟩
           ·rw [if_neg c101] at H
            have c101b0 : decide ((-2147483648) < a1_0) = false := decide_eq_false c101
            clear c101
            as_aux_lemma =>
             have H' := aM H
             clear H
             have hnb109 := N0_.out
             have hnc109 := N1_.out
             have hnb110 := N2_.out
             have hnc110 := N3_.out
             have hnb111 := N6_.out
             have hnc111 := N7_.out
             have hcz112_0 : wc.cell? ⟨b202, 0, none⟩ = some (.int .i32 a0_0) := (bC BK202.out 0).trans rfl
             have hcz112_1 : wc.cell? ⟨b202, 1, none⟩ = some (.int .i32 a0_1) := (bC BK202.out 1).trans rfl
             have hfz112_0 := bF BK202.out 0
             have hfz112_1 := bF BK202.out 1
             have hnb113 := N4_.out
             have hnc113 := N5_.out
             have hnb114 := N8_.out
             have hnc114 := N9_.out
             have hcz115_0 : wc.cell? ⟨b203, 0, none⟩ = some (.int .i32 a1_0) := (bC BK203.out 0).trans rfl
             have hcz115_1 : wc.cell? ⟨b203, 1, none⟩ = some (.int .i32 a1_1) := (bC BK203.out 1).trans rfl
             have hfz115_0 := bF BK203.out 0
             have hfz115_1 := bF BK203.out 1
             go_wp2
             go_meet
             case rel => exact ⟨_, (false), (by first | rfl | (simp; done) | (simp [*]; done)), H', ⟨by have := HJ10.out; have := HJ72.out; first | omega | exact Nat.le_refl _⟩, ⟨by (with_reducible repeat first | apply bN | apply bD | apply bA); exact BK202.out⟩, ⟨by (with_reducible repeat first | apply bN | apply bD | apply bA); exact BK203.out⟩, ⟨by (with_reducible repeat first | apply bN | apply bD | apply bA); exact BK207.out⟩, ⟨by (with_reducible repeat first | apply bN | apply bD | apply bA); exact BK210.out⟩, ⟨by repeat (first | (with_reducible first | exact HB.out | apply lA | apply lN | apply lD | refine lS ?_ GE202.out | refine lS ?_ GE203.out | refine lS ?_ GE207.out | refine lS ?_ GE210.out) | exact HB.out)⟩⟩
          ·rw [if_neg c100] at H
           have c100b0 : decide ((-2147483648) < a0_1) = false := decide_eq_false c100
           clear c100
           as_aux_lemma =>
            have H' := aM H
            clear H
            have hnb116 := N0_.out
            have hnc116 := N1_.out
            have hnb117 := N2_.out
            have hnc117 := N3_.out
            have hnb118 := N6_.out
            have hnc118 := N7_.out
            have hcz119_0 : wc.cell? ⟨b202, 0, none⟩ = some (.int .i32 a0_0) := (bC BK202.out 0).trans rfl
            have hcz119_1 : wc.cell? ⟨b202, 1, none⟩ = some (.int .i32 a0_1) := (bC BK202.out 1).trans rfl
            have hfz119_0 := bF BK202.out 0
            have hfz119_1 := bF BK202.out 1
            go_wp2
            go_meet
            case rel => exact ⟨_, (false), (by first | rfl | (simp; done) | (simp [*]; done)), H', ⟨by have := HJ10.out; have := HJ72.out; first | omega | exact Nat.le_refl _⟩, ⟨by (with_reducible repeat first | apply bN | apply bD | apply bA); exact BK202.out⟩, ⟨by (with_reducible repeat first | apply bN | apply bD | apply bA); exact BK203.out⟩, ⟨by (with_reducible repeat first | apply bN | apply bD | apply bA); exact BK207.out⟩, ⟨by (with_reducible repeat first | apply bN | apply bD | apply bA); exact BK210.out⟩, ⟨by repeat (first | (with_reducible first | exact HB.out | apply lA | apply lN | apply lD | refine lS ?_ GE202.out | refine lS ?_ GE203.out | refine lS ?_ GE207.out | refine lS ?_ GE210.out) | exact HB.out)⟩⟩
         ·rw [if_neg c99] at H
          have c99b0 : decide ((-2147483648) < a0_0) = false := decide_eq_false c99
          clear c99
          (first | rw [c99b0] | (simp only [i64_w, i32_w]; rw [c99b0]) | skip)
          as_aux_lemma =>
           have H' := aM H
           clear H
           have hnb120 := N0_.out
           have hnc120 := N1_.out
           have hnb121 := N2_.out
           have hnc121 := N3_.out
           have hnb122 := N6_.out
           have hnc122 := N7_.out
           have hcz123_0 : wc.cell? ⟨b202, 0, none⟩ = some (.int .i32 a0_0) := (bC BK202.out 0).trans rfl
           have hcz123_1 : wc.cell? ⟨b202, 1, none⟩ = some (.int .i32 a0_1) := (bC BK202.out 1).trans rfl
           have hfz123_0 := bF BK202.out 0
           have hfz123_1 := bF BK202.out 1
           go_wp2
           go_meet
           case rel => exact ⟨_, (false), (by first | rfl | (simp; done) | (simp [*]; done)), H', ⟨by have := HJ10.out; have := HJ72.out; first | omega | exact Nat.le_refl _⟩, ⟨by (with_reducible repeat first | apply bN | apply bD | apply bA); exact BK202.out⟩, ⟨by (with_reducible repeat first | apply bN | apply bD | apply bA); exact BK203.out⟩, ⟨by (with_reducible repeat first | apply bN | apply bD | apply bA); exact BK207.out⟩, ⟨by (with_reducible repeat first | apply bN | apply bD | apply bA); exact BK210.out⟩, ⟨by repeat (first | (with_reducible first | exact HB.out | apply lA | apply lN | apply lD | refine lS ?_ GE202.out | refine lS ?_ GE203.out | refine lS ?_ GE207.out | refine lS ?_ GE210.out) | exact HB.out)⟩⟩
        case rest =>
         clear HC98
         try clear c1
         try clear c2
         try clear p2
         try clear c5
         try clear p6
         try clear c7
         try clear c8
         try clear c9
         try clear c10
         try clear c11
         try clear c12
         try clear c15
         try clear c18
         try clear c19
         try clear c20
         try clear c21
         try clear c22
         try clear c23
         try clear c24
         try clear c52
         try clear c52b0
         try clear p64
         try clear c71
         try clear c74
         try clear c75
         try clear c76
         try clear c78
         try clear c79
         try clear c82
         try clear c82b0
         try clear c82b1
         try clear c83
         try clear c84
         try clear c85
         try clear c87
         try clear c88
         try clear c90
         try clear c91
         try clear c92
         try clear c94
         try clear c95
         try clear c97
         try clear c99
         try clear c99b0
         try clear c100
         try clear c100b0
         try clear c101
         try clear c101b0
         try clear c102
         try clear c103
         try clear c104
         try clear c106
         try clear c107
         try clear c109
         try clear c110
         try clear c111
         try clear c113
         try clear c114
         try clear c116
         try clear c117
         try clear c118
         try clear c120
         try clear c121
         try clear c122
         try clear hcz105_0
         try clear hcz105_1
         try clear hcz108_0
         try clear hcz108_1
         try clear hcz112_0
         try clear hcz112_1
         try clear hcz115_0
         try clear hcz115_1
         try clear hcz119_0
         try clear hcz119_1
         try clear hcz123_0
         try clear hcz123_1
         try clear hcz77_0
         try clear hcz77_1
         try clear hcz80_0
         try clear hcz80_1
         try clear hcz86_0
         try clear hcz86_1
         try clear hcz89_0
         try clear hcz89_1
         try clear hcz93_0
         try clear hcz93_1
         try clear hcz96_0
         try clear hcz96_1
         try clear hfz105_0
         try clear hfz105_1
         try clear hfz108_0
         try clear hfz108_1
         try clear hfz112_0
         try clear hfz112_1
         try clear hfz115_0
         try clear hfz115_1
         try clear hfz119_0
         try clear hfz119_1
         try clear hfz123_0
         try clear hfz123_1
         try clear hfz77_0
         try clear hfz77_1
         try clear hfz80_0
         try clear hfz80_1
         try clear hfz86_0
         try clear hfz86_1
         try clear hfz89_0
         try clear hfz89_1
         try clear hfz93_0
         try clear hfz93_1
         try clear hfz96_0
         try clear hfz96_1
         try clear p2
         try clear p6
         try clear p64
         obtain ⟨kq, x118_97, rfl, HA, HJ97, BK202, BK203, BK207, BK210, HB⟩ := hcut
         cases kq with
         | zero => exact absurd HA.out (by simp [billiardlaw04_VecMatchesReference.j2])
         | succ kj97 =>
          have H := HA.out
          clear HA
          simp only [billiardlaw04_VecMatchesReference.j2] at H
          have HC124 := aM H
          clear H
          go_upto_if 118 with (fail)
          go_cut [] (fun wc => ∃ (kq : Nat), Aside0 (billiardlaw04_VecMatchesReference.j3 kq a3 a4 = some r) ∧ Aside0 (kq ≤ kj97) ∧ Aside0 (wc.heap[b202]? = some (.cells #[.int .i32 a0_0, .int .i32 a0_1] 25 (0, 0))) ∧ Aside0 (wc.heap[b203]? = some (.cells #[.int .i32 a1_0, .int .i32 a1_1] 25 (0, 0))) ∧ Aside0 (wc.heap[b207]? = some (.cells #[.int .i32 t205, .int .i32 t206] 25 (0, 0))) ∧ Aside0 (wc.heap[b210]? = some (.cells #[.int .i32 t208, .int .i32 t209] 25 (0, 0))) ∧ Aside0 (Below w.heap.size w wc))
          case first =>
           have H := HC124.out
           clear HC124
           by_cases c125 : x118_97 = true
           ·subst c125
            have H1 : ((vec_Dot.f a0_0 a0_1 a1_0 a1_1).bind fun t227 => (if t227 = (wrap64 ((wrap64 ((wrap64 (a0_0)) * (wrap64 (a1_0)))) + (wrap64 ((wrap64 (a0_1)) * (wrap64 (a1_1)))))) then ((vec_Cross.f a0_0 a0_1 a1_0 a1_1).bind fun t228 => (if t228 = (wrap64 ((wrap64 ((wrap64 (a0_0)) * (wrap64 (a1_1)))) - (wrap64 ((wrap64 (a0_1)) * (wrap64 (a1_0)))))) then (billiardlaw04_VecMatchesReference.j3 kj97 a3 a4) else (some false))) else (some false))) = some r := by rw [if_pos rfl] at H; exact H
            clear H
            have H := H1
            clear H1
            replace H := Option.bind_eq_some_iff.mp H
            obtain ⟨t227, A1260, H⟩ := H
            replace H : (if t227 = (wrap64 ((wrap64 ((wrap64 (a0_0)) * (wrap64 (a1_0)))) + (wrap64 ((wrap64 (a0_1)) * (wrap64 (a1_1)))))) then ((vec_Cross.f a0_0 a0_1 a1_0 a1_1).bind fun t228 => (if t228 = (wrap64 ((wrap64 ((wrap64 (a0_0)) * (wrap64 (a1_1)))) - (wrap64 ((wrap64 (a0_1)) * (wrap64 (a1_0)))))) then (billiardlaw04_VecMatchesReference.j3 kj97 a3 a4) else (some false))) else (some false)) = some r := H
            have A126 := aM A1260
            clear A1260
            by_cases c127 : t227 = (wrap64 ((wrap64 ((wrap64 (a0_0)) * (wrap64 (a1_0)))) + (wrap64 ((wrap64 (a0_1)) * (wrap64 (a1_1))))))
            ·rw [if_pos c127] at H
             have c127b0 : (t227 == (wrap64 ((wrap64 ((wrap64 (a0_0)) * (wrap64 (a1_0)))) + (wrap64 ((wrap64 (a0_1)) * (wrap64 (a1_1))))))) = true := beq_iff_eq.mpr c127
             have c127b1 : (t227 != (wrap64 ((wrap64 ((wrap64 (a0_0)) * (wrap64 (a1_0)))) + (wrap64 ((wrap64 (a0_1)) * (wrap64 (a1_1))))))) = false := bne_eq_false_iff_eq.mpr c127
             clear c127
             (first | rw [c127b0] | (simp only [i64_w, i32_w]; rw [c127b0]) | skip)
             replace H := Option.bind_eq_some_iff.mp H
             obtain ⟨t228, A1280, H⟩ := H
             replace H : (if t228 = (wrap64 ((wrap64 ((wrap64 (a0_0)) * (wrap64 (a1_1)))) - (wrap64 ((wrap64 (a0_1)) * (wrap64 (a1_0)))))) then (billiardlaw04_VecMatchesReference.j3 kj97 a3 a4) else (some false)) = some r := H
             have A128 := aM A1280
             clear A1280
             by_cases c129 : t228 = (wrap64 ((wrap64 ((wrap64 (a0_0)) * (wrap64 (a1_1)))) - (wrap64 ((wrap64 (a0_1)) * (wrap64 (a1_0))))))
             ·rw [if_pos c129] at H
              have c129b0 : (t228 == (wrap64 ((wrap64 ((wrap64 (a0_0)) * (wrap64 (a1_1)))) - (wrap64 ((wrap64 (a0_1)) * (wrap64 (a1_0))))))) = true := beq_iff_eq.mpr c129
              have c129b1 : (t228 != (wrap64 ((wrap64 ((wrap64 (a0_0)) * (wrap64 (a1_1)))) - (wrap64 ((wrap64 (a0_1)) * (wrap64 (a1_0))))))) = false := bne_eq_false_iff_eq.mpr c129
              clear c129
              as_aux_lemma =>
               have H' := aM H
               clear H
               try go_wp2
               have n0_ := aM (bD BK202.out)
               have n1_ := aM (bD BK203.out)
               have n2_ := aM (bD BK207.out)
               have n3_ := aM (bD BK210.out)
               have n4_ := aM (lD HB.out)
               clear BK202
               clear BK203
               clear BK207
               clear BK210
               clear HB
               have BK202 := n0_
               have BK203 := n1_
               have BK207 := n2_
               have BK210 := n3_
               have HB := n4_
               clear n0_ n1_ n2_ n3_ n4_
               refine start_ (n := 40) (S := fun w' => w'.cell? ⟨b202, 0, none⟩ = some (.int .i32 a0_0) ∧ w'.cell? ⟨b202, 1, none⟩ = some (.int .i32 a0_1) ∧ w'.cell? ⟨b203, 0, none⟩ = some (.int .i32 a1_0) ∧ w'.cell? ⟨b203, 1, none⟩ = some (.int .i32 a1_1)) (ds := []) #[F,F,F,F,F,F,F,F,F,F,F,F,F,F,F,F,F,F,F,F,F,F,F,F,F,F,F,F,F,F,F,F,F,F,F,F,F,F,F,F] (by kernel_rfl) rfl rfl ⟨(bC BK202.out 0).trans rfl, (bC BK202.out 1).trans rfl, (bC BK203.out 0).trans rfl, (bC BK203.out 1).trans rfl⟩ (fun hHeld => ?_); refine with_tabW billiardlaw04_VecMatchesReference.tab11 billiardlaw04_VecMatchesReference.bits11 (fun HT_ HW_ => ?_)
               generalize wc.drew = w130 at BK202 BK203 BK207 BK210 HB hHeld ⊢
               refine pure_ (i := 3) (N := some 122) (v := ?_) (a' := ?_) #[F,F,F,T,F,F,F,F,F,F,F,F,F,F,F,F,F,F,F,F,F,F,F,F,F,F,F,F,F,F,F,F,F,F,F,F,F,F,F,F] rfl rfl (any_of HT_.out (by kernel_rfl)) (fun _ _ _ h => h) (Or.inl ⟨by rfl, ?_⟩) ?_ ?_
               rotate_left
               ·intro w'
                go_simp
                with_reducible rfl
               rotate_left
               ·simp only [Act.put, sA, sB, sC, i64_w, i32_w]
                rfl
               refine pure_ (i := 6) (N := some 125) (v := ?_) (a' := ?_) #[F,F,F,T,F,F,T,F,F,F,F,F,F,F,F,F,F,F,F,F,F,F,F,F,F,F,F,F,F,F,F,F,F,F,F,F,F,F,F,F] rfl rfl (any_of HT_.out (by kernel_rfl)) (fun _ _ _ h => h) (Or.inl ⟨by rfl, ?_⟩) ?_ ?_
               rotate_left
               ·intro w'
                go_simp
                with_reducible rfl
               rotate_left
               ·simp only [Act.put, sA, sB, sC, i64_w, i32_w]
                rfl
               refine pure_ (i := 10) (N := some 129) (v := ?_) (a' := ?_) #[F,F,F,T,F,F,T,F,F,F,T,F,F,F,F,F,F,F,F,F,F,F,F,F,F,F,F,F,F,F,F,F,F,F,F,F,F,F,F,F] rfl rfl (any_of HT_.out (by kernel_rfl)) (fun _ _ _ h => h) (Or.inl ⟨by rfl, ?_⟩) ?_ ?_
               rotate_left
               ·intro w'
                go_simp
                with_reducible rfl
               rotate_left
               ·simp only [Act.put, sA, sB, sC, i64_w, i32_w]
                rfl
               refine pure_ (i := 13) (N := some 132) (v := ?_) (a' := ?_) #[F,F,F,T,F,F,T,F,F,F,T,F,F,T,F,F,F,F,F,F,F,F,F,F,F,F,F,F,F,F,F,F,F,F,F,F,F,F,F,F] rfl rfl (any_of HT_.out (by kernel_rfl)) (fun _ _ _ h => h) (Or.inl ⟨by rfl, ?_⟩) ?_ ?_
               rotate_left
               ·intro w'
                go_simp
                with_reducible rfl
               rotate_left
               ·simp only [Act.put, sA, sB, sC, i64_w, i32_w]
                rfl
               refine take_ (i := 0) (N := some 119) (v := ?_) (a' := ?_) #[T,F,F,T,F,F,T,F,F,F,T,F,F,T,F,F,F,F,F,F,F,F,F,F,F,F,F,F,F,F,F,F,F,F,F,F,F,F,F,F] rfl rfl (take_ofW HT_.out HW_.out (by kernel_rfl)) (fun _ _ _ h => h) (Or.inl ⟨by rfl, ?_⟩) hHeld ?_ ?_
               rotate_left
               ·rintro w' ⟨s0, s1, s2, s3⟩
                go_simp
                with_reducible rfl
               rotate_left
               ·simp only [Act.put, sA, sB, sC, i64_w, i32_w]
                rfl
               refine take_ (i := 1) (N := some 120) (v := ?_) (a' := ?_) #[T,T,F,T,F,F,T,F,F,F,T,F,F,T,F,F,F,F,F,F,F,F,F,F,F,F,F,F,F,F,F,F,F,F,F,F,F,F,F,F] rfl rfl (take_ofW HT_.out HW_.out (by kernel_rfl)) (fun _ _ _ h => h) (Or.inl ⟨by rfl, ?_⟩) hHeld ?_ ?_
               rotate_left
               ·rintro w' ⟨s0, s1, s2, s3⟩
                go_simp
                with_reducible rfl
               rotate_left
               ·simp only [Act.put, sA, sB, sC, i64_w, i32_w]
                rfl
               refine take_ (i := 4) (N := some 123) (v := ?_) (a' := ?_) #[T,T,F,T,T,F,T,F,F,F,T,F,F,T,F,F,F,F,F,F,F,F,F,F,F,F,F,F,F,F,F,F,F,F,F,F,F,F,F,F] rfl rfl (take_ofW HT_.out HW_.out (by kernel_rfl)) (fun _ _ _ h => h) (Or.inl ⟨by rfl, ?_⟩) hHeld ?_ ?_
               rotate_left
               ·rintro w' ⟨s0, s1, s2, s3⟩
                go_simp
                with_reducible rfl
               rotate_left
               ·simp only [Act.put, sA, sB, sC, i64_w, i32_w]
                rfl
               refine pure_ (i := 5) (N := some 124) (v := ?_) (a' := ?_) #[T,T,F,T,T,T,T,F,F,F,T,F,F,T,F,F,F,F,F,F,F,F,F,F,F,F,F,F,F,F,F,F,F,F,F,F,F,F,F,F] rfl rfl (any_of HT_.out (by kernel_rfl)) (fun _ _ _ h => h) (Or.inl ⟨by rfl, ?_⟩) ?_ ?_
               rotate_left
               ·intro w'
                go_simp
                with_reducible rfl
               rotate_left
               ·simp only [Act.put, sA, sB, sC, i64_w, i32_w]
                rfl
               refine take_ (i := 7) (N := some 126) (v := ?_) (a' := ?_) #[T,T,F,T,T,T,T,T,F,F,T,F,F,T,F,F,F,F,F,F,F,F,F,F,F,F,F,F,F,F,F,F,F,F,F,F,F,F,F,F] rfl rfl (take_ofW HT_.out HW_.out (by kernel_rfl)) (fun _ _ _ h => h) (Or.inl ⟨by rfl, ?_⟩) hHeld ?_ ?_
               rotate_left
               ·rintro w' ⟨s0, s1, s2, s3⟩
                go_simp
                with_reducible rfl
               rotate_left
               ·simp only [Act.put, sA, sB, sC, i64_w, i32_w]
                rfl
               refine pure_ (i := 8) (N := some 127) (v := ?_) (a' := ?_) #[T,T,F,T,T,T,T,T,T,F,T,F,F,T,F,F,F,F,F,F,F,F,F,F,F,F,F,F,F,F,F,F,F,F,F,F,F,F,F,F] rfl rfl (any_of HT_.out (by kernel_rfl)) (fun _ _ _ h => h) (Or.inl ⟨by rfl, ?_⟩) ?_ ?_
               rotate_left
               ·intro w'
                go_simp
                with_reducible rfl
               rotate_left
               ·simp only [Act.put, sA, sB, sC, i64_w, i32_w]
                rfl
               refine pure_ (i := 9) (N := some 128) (v := ?_) (a' := ?_) #[T,T,F,T,T,T,T,T,T,T,T,F,F,T,F,F,F,F,F,F,F,F,F,F,F,F,F,F,F,F,F,F,F,F,F,F,F,F,F,F] rfl rfl (any_of HT_.out (by kernel_rfl)) (fun _ _ _ h => h) (Or.inl ⟨by rfl, ?_⟩) ?_ ?_
               rotate_left
               ·intro w'
                go_simp
                with_reducible rfl
               rotate_left
               ·simp only [Act.put, sA, sB, sC, i64_w, i32_w]
                rfl
               refine take_ (i := 11) (N := some 130) (v := ?_) (a' := ?_) #[T,T,F,T,T,T,T,T,T,T,T,T,F,T,F,F,F,F,F,F,F,F,F,F,F,F,F,F,F,F,F,F,F,F,F,F,F,F,F,F] rfl rfl (take_ofW HT_.out HW_.out (by kernel_rfl)) (fun _ _ _ h => h) (Or.inl ⟨by rfl, ?_⟩) hHeld ?_ ?_
               rotate_left
               ·rintro w' ⟨s0, s1, s2, s3⟩
                go_simp
                with_reducible rfl
               rotate_left
               ·simp only [Act.put, sA, sB, sC, i64_w, i32_w]
                rfl
               refine pure_ (i := 12) (N := some 131) (v := ?_) (a' := ?_) #[T,T,F,T,T,T,T,T,T,T,T,T,T,T,F,F,F,F,F,F,F,F,F,F,F,F,F,F,F,F,F,F,F,F,F,F,F,F,F,F] rfl rfl (any_of HT_.out (by kernel_rfl)) (fun _ _ _ h => h) (Or.inl ⟨by rfl, ?_⟩) ?_ ?_
               rotate_left
               ·intro w'
                go_simp
                with_reducible rfl
               rotate_left
               ·simp only [Act.put, sA, sB, sC, i64_w, i32_w]
                rfl
               refine take_ (i := 14) (N := some 133) (v := ?_) (a' := ?_) #[T,T,F,T,T,T,T,T,T,T,T,T,T,T,T,F,F,F,F,F,F,F,F,F,F,F,F,F,F,F,F,F,F,F,F,F,F,F,F,F] rfl rfl (take_ofW HT_.out HW_.out (by kernel_rfl)) (fun _ _ _ h => h) (Or.inl ⟨by rfl, ?_⟩) hHeld ?_ ?_
               rotate_left
               ·rintro w' ⟨s0, s1, s2, s3⟩
                go_simp
                with_reducible rfl
               rotate_left
               ·simp only [Act.put, sA, sB, sC, i64_w, i32_w]
                rfl
               refine pure_ (i := 15) (N := some 134) (v := ?_) (a' := ?_) #[T,T,F,T,T,T,T,T,T,T,T,T,T,T,T,T,F,F,F,F,F,F,F,F,F,F,F,F,F,F,F,F,F,F,F,F,F,F,F,F] rfl rfl (any_of HT_.out (by kernel_rfl)) (fun _ _ _ h => h) (Or.inl ⟨by rfl, ?_⟩) ?_ ?_
               rotate_left
               ·intro w'
                go_simp
                with_reducible rfl
               rotate_left
               ·simp only [Act.put, sA, sB, sC, i64_w, i32_w]
                rfl
               refine pure_ (i := 16) (N := some 135) (v := ?_) (a' := ?_) #[T,T,F,T,T,T,T,T,T,T,T,T,T,T,T,T,T,F,F,F,F,F,F,F,F,F,F,F,F,F,F,F,F,F,F,F,F,F,F,F] rfl rfl (any_of HT_.out (by kernel_rfl)) (fun _ _ _ h => h) (Or.inl ⟨by rfl, ?_⟩) ?_ ?_
               rotate_left
               ·intro w'
                go_simp
                with_reducible rfl
               rotate_left
               ·simp only [Act.put, sA, sB, sC, i64_w, i32_w]
                rfl
               refine pure_ (i := 17) (N := some 136) (v := ?_) (a' := ?_) #[T,T,F,T,T,T,T,T,T,T,T,T,T,T,T,T,T,T,F,F,F,F,F,F,F,F,F,F,F,F,F,F,F,F,F,F,F,F,F,F] rfl rfl (any_of HT_.out (by kernel_rfl)) (fun _ _ _ h => h) (Or.inl ⟨by rfl, ?_⟩) ?_ ?_
               rotate_left
               ·intro w'
                go_simp
                with_reducible rfl
               rotate_left
               ·simp only [Act.put, sA, sB, sC, i64_w, i32_w]
                rfl
               refine one_ (i := 2) (N := some 121) #[T,T,T,T,T,T,T,T,T,T,T,T,T,T,T,T,T,T,F,F,F,F,F,F,F,F,F,F,F,F,F,F,F,F,F,F,F,F,F,F] rfl rfl (one_of HT_.out (by kernel_rfl)) (by decide) (fun K hK => ?_)
               refine goes_ Try.func13 (by kernel_rfl) rfl #[.agg #[.int .i32 a0_0, .int .i32 a0_1], .agg #[.int .i32 a1_0, .int .i32 a1_1]] (by rfl) rfl rfl (by (try simp only [List.map_toArray, List.map_cons, List.map_nil]); first | done | rfl | (simp only [List.length_drop, List.length_take]; rfl)) ?_
               with_reducible refine (vec_Dot.calls a0_0 a0_1 a1_0 a1_1 t227 _ A126.out).mono ?_
               rintro e w131 ⟨rfl, hb⟩
               refine ⟨_, rfl, ?_⟩
               have n0_ := aM (bB (by (with_reducible repeat first | apply bN | apply bD | apply bA); exact BK202.out) hb)
               have n1_ := aM (bB (by (with_reducible repeat first | apply bN | apply bD | apply bA); exact BK203.out) hb)
               have n2_ := aM (bB (by (with_reducible repeat first | apply bN | apply bD | apply bA); exact BK207.out) hb)
               have n3_ := aM (bB (by (with_reducible repeat first | apply bN | apply bD | apply bA); exact BK210.out) hb)
               have n4_ := aM (lT (by repeat (first | (with_reducible first | exact HB.out | apply lA | apply lN | apply lD | refine lS ?_ GE202.out | refine lS ?_ GE203.out | refine lS ?_ GE207.out | refine lS ?_ GE210.out) | exact HB.out)) hb)
               clear BK202
               clear BK203
               clear BK207
               clear BK210
               clear HB
               have BK202 := n0_
               have BK203 := n1_
               have BK207 := n2_
               have BK210 := n3_
               have HB := n4_
               clear n0_ n1_ n2_ n3_ n4_
               (try clear hb)
               (try clear hb2)
               (try clear hk)
               (try clear hi)
               refine hK.out _ _ ⟨(bC BK202.out 0).trans rfl, (bC BK202.out 1).trans rfl, (bC BK203.out 0).trans rfl, (bC BK203.out 1).trans rfl⟩ (fun hHeld => ?_)
               clear hK K
               refine norm_ (a' := ?_) ?_ ?_
               rotate_left
               ·show Act.put _ (some 121) _ = _
                simp only [Act.put, sA, sB, sC, i64_w, i32_w]
                rfl
               refine pure_ (i := 18) (N := some 137) (v := ?_) (a' := ?_) #[T,T,T,T,T,T,T,T,T,T,T,T,T,T,T,T,T,T,T,F,F,F,F,F,F,F,F,F,F,F,F,F,F,F,F,F,F,F,F,F] rfl rfl (any_of HT_.out (by kernel_rfl)) (fun _ _ _ h => h) (Or.inl ⟨by rfl, ?_⟩) ?_ ?_
               rotate_left
               ·intro w'
                go_simp
                with_reducible rfl
               rotate_left
               ·simp only [Act.put, sA, sB, sC, i64_w, i32_w]
                rfl
               refine pure_ (i := 19) (N := some 138) (v := ?_) (a' := ?_) #[T,T,T,T,T,T,T,T,T,T,T,T,T,T,T,T,T,T,T,T,F,F,F,F,F,F,F,F,F,F,F,F,F,F,F,F,F,F,F,F] rfl rfl (any_of HT_.out (by kernel_rfl)) (fun _ _ _ h => h) (Or.inl ⟨by rfl, ?_⟩) ?_ ?_
               rotate_left
               ·intro w'
                go_simp
                with_reducible rfl
               rotate_left
               ·simp only [Act.put, sA, sB, sC, i64_w, i32_w]
                rfl
               refine pure_ (i := 23) (N := some 142) (v := ?_) (a' := ?_) #[T,T,T,T,T,T,T,T,T,T,T,T,T,T,T,T,T,T,T,T,F,F,F,T,F,F,F,F,F,F,F,F,F,F,F,F,F,F,F,F] rfl rfl (any_of HT_.out (by kernel_rfl)) (fun _ _ _ h => h) (Or.inl ⟨by rfl, ?_⟩) ?_ ?_
               rotate_left
               ·intro w'
                go_simp
                with_reducible rfl
               rotate_left
               ·simp only [Act.put, sA, sB, sC, i64_w, i32_w]
                rfl
               refine pure_ (i := 26) (N := some 145) (v := ?_) (a' := ?_) #[T,T,T,T,T,T,T,T,T,T,T,T,T,T,T,T,T,T,T,T,F,F,F,T,F,F,T,F,F,F,F,F,F,F,F,F,F,F,F,F] rfl rfl (any_of HT_.out (by kernel_rfl)) (fun _ _ _ h => h) (Or.inl ⟨by rfl, ?_⟩) ?_ ?_
               rotate_left
               ·intro w'
                go_simp
                with_reducible rfl
               rotate_left
               ·simp only [Act.put, sA, sB, sC, i64_w, i32_w]
                rfl
               refine pure_ (i := 30) (N := some 149) (v := ?_) (a' := ?_) #[T,T,T,T,T,T,T,T,T,T,T,T,T,T,T,T,T,T,T,T,F,F,F,T,F,F,T,F,F,F,T,F,F,F,F,F,F,F,F,F] rfl rfl (any_of HT_.out (by kernel_rfl)) (fun _ _ _ h => h) (Or.inl ⟨by rfl, ?_⟩) ?_ ?_
               rotate_left
               ·intro w'
                go_simp
                with_reducible rfl
               rotate_left
               ·simp only [Act.put, sA, sB, sC, i64_w, i32_w]
                rfl
               refine pure_ (i := 33) (N := some 152) (v := ?_) (a' := ?_) #[T,T,T,T,T,T,T,T,T,T,T,T,T,T,T,T,T,T,T,T,F,F,F,T,F,F,T,F,F,F,T,F,F,T,F,F,F,F,F,F] rfl rfl (any_of HT_.out (by kernel_rfl)) (fun _ _ _ h => h) (Or.inl ⟨by rfl, ?_⟩) ?_ ?_
               rotate_left
               ·intro w'
                go_simp
                with_reducible rfl
               rotate_left
               ·simp only [Act.put, sA, sB, sC, i64_w, i32_w]
                rfl
               refine take_ (i := 20) (N := some 139) (v := ?_) (a' := ?_) #[T,T,T,T,T,T,T,T,T,T,T,T,T,T,T,T,T,T,T,T,T,F,F,T,F,F,T,F,F,F,T,F,F,T,F,F,F,F,F,F] rfl rfl (take_ofW HT_.out HW_.out (by kernel_rfl)) (fun _ _ _ h => h) (Or.inl ⟨by rfl, ?_⟩) hHeld ?_ ?_
               rotate_left
               ·rintro w' ⟨s0, s1, s2, s3⟩
                go_simp
                with_reducible rfl
               rotate_left
               ·simp only [Act.put, sA, sB, sC, i64_w, i32_w]
                rfl
               refine take_ (i := 21) (N := some 140) (v := ?_) (a' := ?_) #[T,T,T,T,T,T,T,T,T,T,T,T,T,T,T,T,T,T,T,T,T,T,F,T,F,F,T,F,F,F,T,F,F,T,F,F,F,F,F,F] rfl rfl (take_ofW HT_.out HW_.out (by kernel_rfl)) (fun _ _ _ h => h) (Or.inl ⟨by rfl, ?_⟩) hHeld ?_ ?_
               rotate_left
               ·rintro w' ⟨s0, s1, s2, s3⟩
                go_simp
                with_reducible rfl
               rotate_left
               ·simp only [Act.put, sA, sB, sC, i64_w, i32_w]
                rfl
               refine take_ (i := 24) (N := some 143) (v := ?_) (a' := ?_) #[T,T,T,T,T,T,T,T,T,T,T,T,T,T,T,T,T,T,T,T,T,T,F,T,T,F,T,F,F,F,T,F,F,T,F,F,F,F,F,F] rfl rfl (take_ofW HT_.out HW_.out (by kernel_rfl)) (fun _ _ _ h => h) (Or.inl ⟨by rfl, ?_⟩) hHeld ?_ ?_
               rotate_left
               ·rintro w' ⟨s0, s1, s2, s3⟩
                go_simp
                with_reducible rfl
               rotate_left
               ·simp only [Act.put, sA, sB, sC, i64_w, i32_w]
                rfl
               refine pure_ (i := 25) (N := some 144) (v := ?_) (a' := ?_) #[T,T,T,T,T,T,T,T,T,T,T,T,T,T,T,T,T,T,T,T,T,T,F,T,T,T,T,F,F,F,T,F,F,T,F,F,F,F,F,F] rfl rfl (any_of HT_.out (by kernel_rfl)) (fun _ _ _ h => h) (Or.inl ⟨by rfl, ?_⟩) ?_ ?_
               rotate_left
               ·intro w'
                go_simp
                with_reducible rfl
               rotate_left
               ·simp only [Act.put, sA, sB, sC, i64_w, i32_w]
                rfl
               refine take_ (i := 27) (N := some 146) (v := ?_) (a' := ?_) #[T,T,T,T,T,T,T,T,T,T,T,T,T,T,T,T,T,T,T,T,T,T,F,T,T,T,T,T,F,F,T,F,F,T,F,F,F,F,F,F] rfl rfl (take_ofW HT_.out HW_.out (by kernel_rfl)) (fun _ _ _ h => h) (Or.inl ⟨by rfl, ?_⟩) hHeld ?_ ?_
               rotate_left
               ·rintro w' ⟨s0, s1, s2, s3⟩
                go_simp
                with_reducible rfl
               rotate_left
               ·simp only [Act.put, sA, sB, sC, i64_w, i32_w]
                rfl
               refine pure_ (i := 28) (N := some 147) (v := ?_) (a' := ?_) #[T,T,T,T,T,T,T,T,T,T,T,T,T,T,T,T,T,T,T,T,T,T,F,T,T,T,T,T,T,F,T,F,F,T,F,F,F,F,F,F] rfl rfl (any_of HT_.out (by kernel_rfl)) (fun _ _ _ h => h) (Or.inl ⟨by rfl, ?_⟩) ?_ ?_
               rotate_left
               ·intro w'
                go_simp
                with_reducible rfl
               rotate_left
               ·simp only [Act.put, sA, sB, sC, i64_w, i32_w]
                rfl
               refine pure_ (i := 29) (N := some 148) (v := ?_) (a' := ?_) #[T,T,T,T,T,T,T,T,T,T,T,T,T,T,T,T,T,T,T,T,T,T,F,T,T,T,T,T,T,T,T,F,F,T,F,F,F,F,F,F] rfl rfl (any_of HT_.out (by kernel_rfl)) (fun _ _ _ h => h) (Or.inl ⟨by rfl, ?_⟩) ?_ ?_
               rotate_left
               ·intro w'
                go_simp
                with_reducible rfl
               rotate_left
               ·simp only [Act.put, sA, sB, sC, i64_w, i32_w]
                rfl
               refine take_ (i := 31) (N := some 150) (v := ?_) (a' := ?_) #[T,T,T,T,T,T,T,T,T,T,T,T,T,T,T,T,T,T,T,T,T,T,F,T,T,T,T,T,T,T,T,T,F,T,F,F,F,F,F,F] rfl rfl (take_ofW HT_.out HW_.out (by kernel_rfl)) (fun _ _ _ h => h) (Or.inl ⟨by rfl, ?_⟩) hHeld ?_ ?_
               rotate_left
               ·rintro w' ⟨s0, s1, s2, s3⟩
                go_simp
                with_reducible rfl
               rotate_left
               ·simp only [Act.put, sA, sB, sC, i64_w, i32_w]
                rfl
               refine pure_ (i := 32) (N := some 151) (v := ?_) (a' := ?_) #[T,T,T,T,T,T,T,T,T,T,T,T,T,T,T,T,T,T,T,T,T,T,F,T,T,T,T,T,T,T,T,T,T,T,F,F,F,F,F,F] rfl rfl (any_of HT_.out (by kernel_rfl)) (fun _ _ _ h => h) (Or.inl ⟨by rfl, ?_⟩) ?_ ?_
               rotate_left
               ·intro w'
                go_simp
                with_reducible rfl
               rotate_left
               ·simp only [Act.put, sA, sB, sC, i64_w, i32_w]
                rfl
               refine take_ (i := 34) (N := some 153) (v := ?_) (a' := ?_) #[T,T,T,T,T,T,T,T,T,T,T,T,T,T,T,T,T,T,T,T,T,T,F,T,T,T,T,T,T,T,T,T,T,T,T,F,F,F,F,F] rfl rfl (take_ofW HT_.out HW_.out (by kernel_rfl)) (fun _ _ _ h => h) (Or.inl ⟨by rfl, ?_⟩) hHeld ?_ ?_
               rotate_left
               ·rintro w' ⟨s0, s1, s2, s3⟩
                go_simp
                with_reducible rfl
               rotate_left
               ·simp only [Act.put, sA, sB, sC, i64_w, i32_w]
                rfl
               refine pure_ (i := 35) (N := some 154) (v := ?_) (a' := ?_) #[T,T,T,T,T,T,T,T,T,T,T,T,T,T,T,T,T,T,T,T,T,T,F,T,T,T,T,T,T,T,T,T,T,T,T,T,F,F,F,F] rfl rfl (any_of HT_.out (by kernel_rfl)) (fun _ _ _ h => h) (Or.inl ⟨by rfl, ?_⟩) ?_ ?_
               rotate_left
               ·intro w'
                go_simp
                with_reducible rfl
               rotate_left
               ·simp only [Act.put, sA, sB, sC, i64_w, i32_w]
                rfl
               refine pure_ (i := 36) (N := some 155) (v := ?_) (a' := ?_) #[T,T,T,T,T,T,T,T,T,T,T,T,T,T,T,T,T,T,T,T,T,T,F,T,T,T,T,T,T,T,T,T,T,T,T,T,T,F,F,F] rfl rfl (any_of HT_.out (by kernel_rfl)) (fun _ _ _ h => h) (Or.inl ⟨by rfl, ?_⟩) ?_ ?_
               rotate_left
               ·intro w'
                go_simp
                with_reducible rfl
               rotate_left
               ·simp only [Act.put, sA, sB, sC, i64_w, i32_w]
                rfl
               refine pure_ (i := 37) (N := some 156) (v := ?_) (a' := ?_) #[T,T,T,T,T,T,T,T,T,T,T,T,T,T,T,T,T,T,T,T,T,T,F,T,T,T,T,T,T,T,T,T,T,T,T,T,T,T,F,F] rfl rfl (any_of HT_.out (by kernel_rfl)) (fun _ _ _ h => h) (Or.inl ⟨by rfl, ?_⟩) ?_ ?_
               rotate_left
               ·intro w'
                go_simp
                with_reducible rfl
               rotate_left
               ·simp only [Act.put, sA, sB, sC, i64_w, i32_w]
                rfl
               refine one_ (i := 22) (N := some 141) #[T,T,T,T,T,T,T,T,T,T,T,T,T,T,T,T,T,T,T,T,T,T,T,T,T,T,T,T,T,T,T,T,T,T,T,T,T,T,F,F] rfl rfl (one_of HT_.out (by kernel_rfl)) (by decide) (fun K hK => ?_)
               refine goes_ Try.func14 (by kernel_rfl) rfl #[.agg #[.int .i32 a0_0, .int .i32 a0_1], .agg #[.int .i32 a1_0, .int .i32 a1_1]] (by rfl) rfl rfl (by (try simp only [List.map_toArray, List.map_cons, List.map_nil]); first | done | rfl | (simp only [List.length_drop, List.length_take]; rfl)) ?_
               with_reducible refine (vec_Cross.calls a0_0 a0_1 a1_0 a1_1 t228 _ A128.out).mono ?_
               rintro e w132 ⟨rfl, hb⟩
               refine ⟨_, rfl, ?_⟩
               have n0_ := aM (bB (by (with_reducible repeat first | apply bN | apply bD | apply bA); exact BK202.out) hb)
               have n1_ := aM (bB (by (with_reducible repeat first | apply bN | apply bD | apply bA); exact BK203.out) hb)
               have n2_ := aM (bB (by (with_reducible repeat first | apply bN | apply bD | apply bA); exact BK207.out) hb)
               have n3_ := aM (bB (by (with_reducible repeat first | apply bN | apply bD | apply bA); exact BK210.out) hb)
               have n4_ := aM (lT (by repeat (first | (with_reducible first | exact HB.out | apply lA | apply lN | apply lD | refine lS ?_ GE202.out | refine lS ?_ GE203.out | refine lS ?_ GE207.out | refine lS ?_ GE210.out) | exact HB.out)) hb)
               clear BK202
               clear BK203
               clear BK207
               clear BK210
               clear HB
               have BK202 := n0_
               have BK203 := n1_
               have BK207 := n2_
               have BK210 := n3_
               have HB := n4_
               clear n0_ n1_ n2_ n3_ n4_
               (try clear hb)
               (try clear hb2)
               (try clear hk)
               (try clear hi)
               refine hK.out _ _ ⟨(bC BK202.out 0).trans rfl, (bC BK202.out 1).trans rfl, (bC BK203.out 0).trans rfl, (bC BK203.out 1).trans rfl⟩ (fun hHeld => ?_)
               clear hK K
               refine norm_ (a' := ?_) ?_ ?_
               rotate_left
               ·show Act.put _ (some 141) _ = _
                simp only [Act.put, sA, sB, sC, i64_w, i32_w]
                rfl
               refine pure_ (i := 38) (N := some 157) (v := ?_) (a' := ?_) #[T,T,T,T,T,T,T,T,T,T,T,T,T,T,T,T,T,T,T,T,T,T,T,T,T,T,T,T,T,T,T,T,T,T,T,T,T,T,T,F] rfl rfl (any_of HT_.out (by kernel_rfl)) (fun _ _ _ h => h) (Or.inl ⟨by rfl, ?_⟩) ?_ ?_
               rotate_left
               ·intro w'
                go_simp
                with_reducible rfl
               rotate_left
               ·simp only [Act.put, sA, sB, sC, i64_w, i32_w]
                rfl
               refine pure_ (i := 39) (N := some 158) (v := ?_) (a' := ?_) #[T,T,T,T,T,T,T,T,T,T,T,T,T,T,T,T,T,T,T,T,T,T,T,T,T,T,T,T,T,T,T,T,T,T,T,T,T,T,T,T] rfl rfl (any_of HT_.out (by kernel_rfl)) (fun _ _ _ h => h) (Or.inl ⟨by rfl, ?_⟩) ?_ ?_
               rotate_left
               ·intro w'
                go_simp
                with_reducible rfl
               rotate_left
               ·simp only [Act.put, sA, sB, sC, i64_w, i32_w]
                rfl
               refine done_ (done_of HT_.out (by kernel_rfl)) ?_
               try go_wp2
               go_meet
               case rel => exact ⟨_, H', ⟨by have := HJ10.out; have := HJ72.out; have := HJ97.out; first | omega | exact Nat.le_refl _⟩, ⟨by (with_reducible repeat first | apply bN | apply bD | apply bA); exact BK202.out⟩, ⟨by (with_reducible repeat first | apply bN | apply bD | apply bA); exact BK203.out⟩, ⟨by (with_reducible repeat first | apply bN | apply bD | apply bA); exact BK207.out⟩, ⟨by (with_reducible repeat first | apply bN | apply bD | apply bA); exact BK210.out⟩, ⟨by repeat (first | (with_reducible first | exact HB.out | apply lA | apply lN | apply lD | refine lS ?_ GE202.out | refine lS ?_ GE203.out | refine lS ?_ GE207.out | refine lS ?_ GE210.out) | exact HB.out)⟩⟩
             ·rw [if_neg c129] at H
              have c129b0 : (t228 == (wrap64 ((wrap64 ((wrap64 (a0_0)) * (wrap64 (a1_1)))) - (wrap64 ((wrap64 (a0_1)) * (wrap64 (a1_0))))))) = false := beq_eq_false_iff_ne.mpr c129
              have c129b1 : (t228 != (wrap64 ((wrap64 ((wrap64 (a0_0)) * (wrap64 (a1_1)))) - (wrap64 ((wrap64 (a0_1)) * (wrap64 (a1_0))))))) = true := bne_iff_ne.mpr c129
              exact absurd ((Option.some.inj H).trans HR.out) (by decide)
            ·rw [if_neg c127] at H
             have c127b0 : (t227 == (wrap64 ((wrap64 ((wrap64 (a0_0)) * (wrap64 (a1_0)))) + (wrap64 ((wrap64 (a0_1)) * (wrap64 (a1_1))))))) = false := beq_eq_false_iff_ne.mpr c127
             have c127b1 : (t227 != (wrap64 ((wrap64 ((wrap64 (a0_0)) * (wrap64 (a1_0)))) + (wrap64 ((wrap64 (a0_1)) * (wrap64 (a1_1))))))) = true := bne_iff_ne.mpr c127
             (first | rw [c127b0] | (simp only [i64_w, i32_w]; rw [c127b0]) | skip)
             exact absurd ((Option.some.inj H).trans HR.out) (by decide)
           ·replace c125 := Bool.eq_false_iff.mpr c125
            subst c125
            have H1 : (billiardlaw04_VecMatchesReference.j3 kj97 a3 a4) = some r := by rw [if_neg (show ¬ (false = true) by decide)] at H; exact H
            clear H
            have H := H1
            clear H1
            as_aux_lemma =>
             have H' := aM H
             clear H
             go_wp2
             go_meet
             case rel => exact ⟨_, H', ⟨by have := HJ10.out; have := HJ72.out; have := HJ97.out; first | omega | exact Nat.le_refl _⟩, ⟨by (with_reducible repeat first | apply bN | apply bD | apply bA); exact BK202.out⟩, ⟨by (with_reducible repeat first | apply bN | apply bD | apply bA); exact BK203.out⟩, ⟨by (with_reducible repeat first | apply bN | apply bD | apply bA); exact BK207.out⟩, ⟨by (with_reducible repeat first | apply bN | apply bD | apply bA); exact BK210.out⟩, ⟨by repeat (first | (with_reducible first | exact HB.out | apply lA | apply lN | apply lD | refine lS ?_ GE202.out | refine lS ?_ GE203.out | refine lS ?_ GE207.out | refine lS ?_ GE210.out) | exact HB.out)⟩⟩
          case rest =>
           clear HC124
           try clear c1
           try clear c2
           try clear p2
           try clear c5
           try clear p6
           try clear c7
           try clear c8
           try clear c9
           try clear c10
           try clear c11
           try clear c12
           try clear c13
           try clear c14
           try clear c15
           try clear c18
           try clear c19
           try clear c20
           try clear c21
           try clear c22
           try clear c23
           try clear c24
           try clear c52
           try clear c52b0
           try clear p64
           try clear c71
           try clear c74
           try clear c75
           try clear c76
           try clear c78
           try clear c79
           try clear c82
           try clear c82b0
           try clear c82b1
           try clear c83
           try clear c84
           try clear c85
           try clear c87
           try clear c88
           try clear c90
           try clear c91
           try clear c92
           try clear c94
           try clear c95
           try clear c97
           try clear c99
           try clear c99b0
           try clear c100
           try clear c100b0
           try clear c101
           try clear c101b0
           try clear c102
           try clear c103
           try clear c104
           try clear c106
           try clear c107
           try clear c109
           try clear c110
           try clear c111
           try clear c113
           try clear c114
           try clear c116
           try clear c117
           try clear c118
           try clear c120
           try clear c121
           try clear c122
           try clear c125
           try clear c127
           try clear c127b0
           try clear c127b1
           try clear c129
           try clear c129b0
           try clear c129b1
           try clear hcz105_0
           try clear hcz105_1
           try clear hcz108_0
           try clear hcz108_1
           try clear hcz112_0
           try clear hcz112_1
           try clear hcz115_0
           try clear hcz115_1
           try clear hcz119_0
           try clear hcz119_1
           try clear hcz123_0
           try clear hcz123_1
           try clear hcz77_0
           try clear hcz77_1
           try clear hcz80_0
           try clear hcz80_1
           try clear hcz86_0
           try clear hcz86_1
           try clear hcz89_0
           try clear hcz89_1
           try clear hcz93_0
           try clear hcz93_1
           try clear hcz96_0
           try clear hcz96_1
           try clear hfz105_0
           try clear hfz105_1
           try clear hfz108_0
           try clear hfz108_1
           try clear hfz112_0
           try clear hfz112_1
           try clear hfz115_0
           try clear hfz115_1
           try clear hfz119_0
           try clear hfz119_1
           try clear hfz123_0
           try clear hfz123_1
           try clear hfz77_0
           try clear hfz77_1
           try clear hfz80_0
           try clear hfz80_1
           try clear hfz86_0
           try clear hfz86_1
           try clear hfz89_0
           try clear hfz89_1
           try clear hfz93_0
           try clear hfz93_1
           try clear hfz96_0
           try clear hfz96_1
           try clear p2
           try clear p6
           try clear p64
           obtain ⟨kq, HA, HJ123, BK202, BK203, BK207, BK210, HB⟩ := hcut
           cases kq with
           | zero => exact absurd HA.out (by simp [billiardlaw04_VecMatchesReference.j3])
           | succ kj123 =>
            have H := HA.out
            clear HA
            simp only [billiardlaw04_VecMatchesReference.j3] at H
            have HC133 := aM H
            clear H
            go_upto_region 13 with (fail)
            go_cut [166] (fun v166 wc => ∃ (kq : Nat) (x166_132 : Bool), v166 = .bool x166_132 ∧ Aside0 (billiardlaw04_VecMatchesReference.j4 kq a3 a4 x166_132 = some r) ∧ Aside0 (kq ≤ kj123) ∧ Aside0 (wc.heap[b202]? = some (.cells #[.int .i32 a0_0, .int .i32 a0_1] 25 (0, 0))) ∧ Aside0 (wc.heap[b203]? = some (.cells #[.int .i32 a1_0, .int .i32 a1_1] 25 (0, 0))) ∧ Aside0 (wc.heap[b207]? = some (.cells #[.int .i32 t205, .int .i32 t206] 25 (0, 0))) ∧ Aside0 (wc.heap[b210]? = some (.cells #[.int .i32 t208, .int .i32 t209] 25 (0, 0))) ∧ Aside0 (Below w.heap.size w wc))
            case first =>
             have H := HC133.out
             clear HC133
             replace H := Option.bind_eq_some_iff.mp H
             obtain ⟨t229, A1340, H⟩ := H
             replace H : (if t229 = true then ((billiardref04_In.f a4).bind fun t230 => (billiardlaw04_VecMatchesReference.j4 kj123 a3 a4 (!t230))) else (billiardlaw04_VecMatchesReference.j4 kj123 a3 a4 true)) = some r := H
             have A134 := aM A1340
             clear A1340
             by_cases c135 : t229 = true
             ·subst c135
              have H1 : ((billiardref04_In.f a4).bind fun t230 => (billiardlaw04_VecMatchesReference.j4 kj123 a3 a4 (!t230))) = some r := by rw [if_pos rfl] at H; exact H
              clear H
              have H := H1
              clear H1
              replace H := Option.bind_eq_some_iff.mp H
              obtain ⟨t230, A1360, H⟩ := H
              replace H : (billiardlaw04_VecMatchesReference.j4 kj123 a3 a4 (!t230)) = some r := H
              have A136 := aM A1360
              clear A1360
              as_aux_lemma =>
               have H' := aM H
               clear H
               go_wp2_with (first | ((with_reducible refine gate_callee (f := 9) rfl ?_); refine goesL_ (some 160) rfl rfl Try.func9 (by kernel_rfl) rfl #[.int .i64 a3] rfl (by (try simp only [List.map_toArray, List.map_cons, List.map_nil]); first | done | rfl | (simp only [List.length_drop, List.length_take]; rfl)) ?_; (with_reducible refine (billiardref04_In.calls a3 true _ A134.out).mono ?_); rintro e w' ⟨rfl, ⟨nd, rfl⟩⟩; refine ⟨_, rfl, ?_⟩) | (go_at_call 9; (with_reducible refine (billiardref04_In.calls a4 t230 _ A136.out).mono ?_); rintro e w' ⟨rfl, ⟨nd, rfl⟩⟩))
               go_meet
               case rel => exact ⟨_, (!t230), (by first | rfl | (simp; done) | (simp [*]; done)), H', ⟨by have := HJ10.out; have := HJ72.out; have := HJ97.out; have := HJ123.out; first | omega | exact Nat.le_refl _⟩, ⟨by (with_reducible repeat first | apply bN | apply bD | apply bA); exact BK202.out⟩, ⟨by (with_reducible repeat first | apply bN | apply bD | apply bA); exact BK203.out⟩, ⟨by (with_reducible repeat first | apply bN | apply bD | apply bA); exact BK207.out⟩, ⟨by (with_reducible repeat first | apply bN | apply bD | apply bA); exact BK210.out⟩, ⟨by repeat (first | (with_reducible first | exact HB.out | apply lA | apply lN | apply lD | refine lS ?_ GE202.out | refine lS ?_ GE203.out | refine lS ?_ GE207.out | refine lS ?_ GE210.out) | exact HB.out)⟩⟩
             ·replace c135 := Bool.eq_false_iff.mpr c135
              subst c135
              have H1 : (billiardlaw04_VecMatchesReference.j4 kj123 a3 a4 true) = some r := by rw [if_neg (show ¬ (false = true) by decide)] at H; exact H
              clear H
              have H := H1
              clear H1
              as_aux_lemma =>
               have H' := aM H
               clear H
               go_wp2_with (first | ((with_reducible refine gate_callee (f := 9) rfl ?_); refine goesL_ (some 160) rfl rfl Try.func9 (by kernel_rfl) rfl #[.int .i64 a3] rfl (by (try simp only [List.map_toArray, List.map_cons, List.map_nil]); first | done | rfl | (simp only [List.length_drop, List.length_take]; rfl)) ?_; (with_reducible refine (billiardref04_In.calls a3 false _ A134.out).mono ?_); rintro e w' ⟨rfl, ⟨nd, rfl⟩⟩; refine ⟨_, rfl, ?_⟩))
               go_meet
               case rel => exact ⟨_, (true), (by first | rfl | (simp; done) | (simp [*]; done)), H', ⟨by have := HJ10.out; have := HJ72.out; have := HJ97.out; have := HJ123.out; first | omega | exact Nat.le_refl _⟩, ⟨by (with_reducible repeat first | apply bN | apply bD | apply bA); exact BK202.out⟩, ⟨by (with_reducible repeat first | apply bN | apply bD | apply bA); exact BK203.out⟩, ⟨by (with_reducible repeat first | apply bN | apply bD | apply bA); exact BK207.out⟩, ⟨by (with_reducible repeat first | apply bN | apply bD | apply bA); exact BK210.out⟩, ⟨by repeat (first | (with_reducible first | exact HB.out | apply lA | apply lN | apply lD | refine lS ?_ GE202.out | refine lS ?_ GE203.out | refine lS ?_ GE207.out | refine lS ?_ GE210.out) | exact HB.out)⟩⟩
            case rest =>
             clear HC133
             try clear c1
             try clear c2
             try clear p2
             try clear c5
             try clear p6
             try clear c7
             try clear c8
             try clear c9
             try clear c10
             try clear c11
             try clear c12
             try clear c13
             try clear c14
             try clear c15
             try clear c18
             try clear c19
             try clear c20
             try clear c21
             try clear c22
             try clear c23
             try clear c24
             try clear c52
             try clear c52b0
             try clear p64
             try clear c71
             try clear c74
             try clear c75
             try clear c76
             try clear c78
             try clear c79
             try clear c82
             try clear c82b0
             try clear c82b1
             try clear c83
             try clear c84
             try clear c85
             try clear c87
             try clear c88
             try clear c90
             try clear c91
             try clear c92
             try clear c94
             try clear c95
             try clear c97
             try clear c99
             try clear c99b0
             try clear c100
             try clear c100b0
             try clear c101
             try clear c101b0
             try clear c102
             try clear c103
             try clear c104
             try clear c106
             try clear c107
             try clear c109
             try clear c110
             try clear c111
             try clear c113
             try clear c114
             try clear c116
             try clear c117
             try clear c118
             try clear c120
             try clear c121
             try clear c122
             try clear c125
             try clear c127
             try clear c127b0
             try clear c127b1
             try clear c129
             try clear c129b0
             try clear c129b1
             try clear c135
             try clear hcz105_0
             try clear hcz105_1
             try clear hcz108_0
             try clear hcz108_1
             try clear hcz112_0
             try clear hcz112_1
             try clear hcz115_0
             try clear hcz115_1
             try clear hcz119_0
             try clear hcz119_1
             try clear hcz123_0
             try clear hcz123_1
             try clear hcz77_0
             try clear hcz77_1
             try clear hcz80_0
             try clear hcz80_1
             try clear hcz86_0
             try clear hcz86_1
             try clear hcz89_0
             try clear hcz89_1
             try clear hcz93_0
             try clear hcz93_1
             try clear hcz96_0
             try clear hcz96_1
             try clear hfz105_0
             try clear hfz105_1
             try clear hfz108_0
             try clear hfz108_1
             try clear hfz112_0
             try clear hfz112_1
             try clear hfz115_0
             try clear hfz115_1
             try clear hfz119_0
             try clear hfz119_1
             try clear hfz123_0
             try clear hfz123_1
             try clear hfz77_0
             try clear hfz77_1
             try clear hfz80_0
             try clear hfz80_1
             try clear hfz86_0
             try clear hfz86_1
             try clear hfz89_0
             try clear hfz89_1
             try clear hfz93_0
             try clear hfz93_1
             try clear hfz96_0
             try clear hfz96_1
             try clear p2
             try clear p6
             try clear p64
             obtain ⟨kq, x166_132, rfl, HA, HJ132, BK202, BK203, BK207, BK210, HB⟩ := hcut
             cases kq with
             | zero => exact absurd HA.out (by simp [billiardlaw04_VecMatchesReference.j4])
             | succ kj132 =>
              have H := HA.out
              clear HA
              simp only [billiardlaw04_VecMatchesReference.j4] at H
              by_cases c137 : x166_132 = true
              ·subst c137
               have H1 : (some true) = some r := by rw [if_pos rfl] at H; exact H
               clear H
               have H := H1
               clear H1
               as_aux_lemma =>
                obtain rfl := Option.some.inj H
                go_wp2
                go_ret
                exact ⟨by first | rfl | (simp [errW_none, errW_some] <;> rfl) | (simp [*, errW_none, errW_some] <;> rfl), by repeat (first | (with_reducible first | exact HB.out | apply lA | apply lN | apply lD | refine lS ?_ GE202.out | refine lS ?_ GE203.out | refine lS ?_ GE207.out | refine lS ?_ GE210.out) | exact HB.out)⟩
              ·replace c137 := Bool.eq_false_iff.mpr c137
               subst c137
               have H1 : ((vec_LengthSq.f a3 a4).bind fun t231 => ((billiardref04_LengthSq.f a3 a4).bind fun t232 => (if t231 = t232 then ((vec_Length.f kj132 a3 a4).bind fun t233 => ((billiardref04_Length.f kj132 a3 a4).bind fun t234 => (if t233 = t234 then ((vec_Unit.f kj132 a3 a4).bind fun bt235 => ((billiardref04_Unit.f kj132 a3 a4).bind fun bt237 => (some (bt235.1 == bt237.1 && (bt235.2 == bt237.2))))) else (some false)))) else (some false)))) = some r := by rw [if_neg (show ¬ (false = true) by decide)] at H; exact H
               clear H
               have H := H1
               clear H1
               replace H := Option.bind_eq_some_iff.mp H
               obtain ⟨t231, A1380, H⟩ := H
               replace H : ((billiardref04_LengthSq.f a3 a4).bind fun t232 => (if t231 = t232 then ((vec_Length.f kj132 a3 a4).bind fun t233 => ((billiardref04_Length.f kj132 a3 a4).bind fun t234 => (if t233 = t234 then ((vec_Unit.f kj132 a3 a4).bind fun bt235 => ((billiardref04_Unit.f kj132 a3 a4).bind fun bt237 => (some (bt235.1 == bt237.1 && (bt235.2 == bt237.2))))) else (some false)))) else (some false))) = some r := H
               have A138 := aM A1380
               clear A1380
               replace H := Option.bind_eq_some_iff.mp H
               obtain ⟨t232, A1390, H⟩ := H
               replace H : (if t231 = t232 then ((vec_Length.f kj132 a3 a4).bind fun t233 => ((billiardref04_Length.f kj132 a3 a4).bind fun t234 => (if t233 = t234 then ((vec_Unit.f kj132 a3 a4).bind fun bt235 => ((billiardref04_Unit.f kj132 a3 a4).bind fun bt237 => (some (bt235.1 == bt237.1 && (bt235.2 == bt237.2))))) else (some false)))) else (some false)) = some r := H
               have A139 := aM A1390
               clear A1390
               by_cases c140 : t231 = t232
               ·rw [if_pos c140] at H
                have c140b0 : (t231 == t232) = true := beq_iff_eq.mpr c140
                have c140b1 : (t231 != t232) = false := bne_eq_false_iff_eq.mpr c140
                clear c140
                replace H := Option.bind_eq_some_iff.mp H
                obtain ⟨t233, A1410, H⟩ := H
                replace H : ((billiardref04_Length.f kj132 a3 a4).bind fun t234 => (if t233 = t234 then ((vec_Unit.f kj132 a3 a4).bind fun bt235 => ((billiardref04_Unit.f kj132 a3 a4).bind fun bt237 => (some (bt235.1 == bt237.1 && (bt235.2 == bt237.2))))) else (some false))) = some r := H
                have A141 := aM A1410
                clear A1410
                replace H := Option.bind_eq_some_iff.mp H
                obtain ⟨t234, A1420, H⟩ := H
                replace H : (if t233 = t234 then ((vec_Unit.f kj132 a3 a4).bind fun bt235 => ((billiardref04_Unit.f kj132 a3 a4).bind fun bt237 => (some (bt235.1 == bt237.1 && (bt235.2 == bt237.2))))) else (some false)) = some r := H
                have A142 := aM A1420
                clear A1420
                by_cases c143 : t233 = t234
                ·rw [if_pos c143] at H
                 have c143b0 : (t233 == t234) = true := beq_iff_eq.mpr c143
                 have c143b1 : (t233 != t234) = false := bne_eq_false_iff_eq.mpr c143
                 clear c143
                 replace H := Option.bind_eq_some_iff.mp H
                 obtain ⟨⟨t235, t236⟩, A1440, H⟩ := H
                 replace H : ((billiardref04_Unit.f kj132 a3 a4).bind fun bt237 => (some (t235 == bt237.1 && (t236 == bt237.2)))) = some r := H
                 have A144 := aM A1440
                 clear A1440
                 replace H := Option.bind_eq_some_iff.mp H
                 obtain ⟨⟨t237, t238⟩, A1450, H⟩ := H
                 replace H : (some (t235 == t237 && (t236 == t238))) = some r := H
                 have A145 := aM A1450
                 clear A1450
                 as_aux_lemma =>
                  obtain rfl := Option.some.inj H
                  go_wp2_with (first | ((with_reducible refine gate_callee (f := 12) rfl ?_); refine goesL_ (some 169) rfl rfl Try.func12 (by kernel_rfl) rfl #[.int .i64 a3, .int .i64 a4] rfl (by (try simp only [List.map_toArray, List.map_cons, List.map_nil]); first | done | rfl | (simp only [List.length_drop, List.length_take]; rfl)) ?_; (with_reducible refine (vec_LengthSq.calls a3 a4 t231 _ A138.out).mono ?_); rintro e w' ⟨rfl, ⟨nd, rfl⟩⟩; refine ⟨_, rfl, ?_⟩) | ((with_reducible refine gate_callee (f := 25) rfl ?_); refine goesL_ (some 172) rfl rfl Try.func25 (by kernel_rfl) rfl #[.int .i64 a3, .int .i64 a4] rfl (by (try simp only [List.map_toArray, List.map_cons, List.map_nil]); first | done | rfl | (simp only [List.length_drop, List.length_take]; rfl)) ?_; (with_reducible refine (billiardref04_LengthSq.calls a3 a4 t232 _ A139.out).mono ?_); rintro e w' ⟨rfl, ⟨nd, rfl⟩⟩; refine ⟨_, rfl, ?_⟩) | (go_at_call 11; (with_reducible refine (vec_Length.calls kj132 a3 a4 t233 _ A141.out).mono ?_); rintro e w' ⟨rfl, ⟨nd, rfl⟩⟩) | (go_at_call 26; (with_reducible refine (billiardref04_Length.calls kj132 a3 a4 t234 _ A142.out).mono ?_); rintro e w' ⟨rfl, ⟨nd, rfl⟩⟩) | (go_at_call 10; (with_reducible refine (vec_Unit.calls kj132 a3 a4 t235 t236 _ A144.out).mono ?_); rintro e w146 ⟨rfl, hb⟩; have n0_ := aM (bB (by (with_reducible repeat first | apply bN | apply bD | apply bA); exact BK202.out) hb); have n1_ := aM (bB (by (with_reducible repeat first | apply bN | apply bD | apply bA); exact BK203.out) hb); have n2_ := aM (bB (by (with_reducible repeat first | apply bN | apply bD | apply bA); exact BK207.out) hb); have n3_ := aM (bB (by (with_reducible repeat first | apply bN | apply bD | apply bA); exact BK210.out) hb); have n4_ := aM (lT (by repeat (first | (with_reducible first | exact HB.out | apply lA | apply lN | apply lD | refine lS ?_ GE202.out | refine lS ?_ GE203.out | refine lS ?_ GE207.out | refine lS ?_ GE210.out) | exact HB.out)) hb); clear BK202; clear BK203; clear BK207; clear BK210; clear HB; have BK202 := n0_; have BK203 := n1_; have BK207 := n2_; have BK210 := n3_; have HB := n4_; clear n0_ n1_ n2_ n3_ n4_; (try clear hb); (try clear hb2); (try clear hk); (try clear hi)) | (go_at_call 27; (with_reducible refine (billiardref04_Unit.calls kj132 a3 a4 t237 t238 _ A145.out).mono ?_); rintro e w147 ⟨rfl, hb⟩; have n0_ := aM (bB (by (with_reducible repeat first | apply bN | apply bD | apply bA); exact BK202.out) hb); have n1_ := aM (bB (by (with_reducible repeat first | apply bN | apply bD | apply bA); exact BK203.out) hb); have n2_ := aM (bB (by (with_reducible repeat first | apply bN | apply bD | apply bA); exact BK207.out) hb); have n3_ := aM (bB (by (with_reducible repeat first | apply bN | apply bD | apply bA); exact BK210.out) hb); have n4_ := aM (lT (by repeat (first | (with_reducible first | exact HB.out | apply lA | apply lN | apply lD | refine lS ?_ GE202.out | refine lS ?_ GE203.out | refine lS ?_ GE207.out | refine lS ?_ GE210.out) | exact HB.out)) hb); clear BK202; clear BK203; clear BK207; clear BK210; clear HB; have BK202 := n0_; have BK203 := n1_; have BK207 := n2_; have BK210 := n3_; have HB := n4_; clear n0_ n1_ n2_ n3_ n4_; (try clear hb); (try clear hb2); (try clear hk); (try clear hi)))
                  go_ret
                  exact ⟨by first | rfl | (simp [errW_none, errW_some] <;> rfl) | (simp [*, errW_none, errW_some] <;> rfl), by repeat (first | (with_reducible first | exact HB.out | apply lA | apply lN | apply lD | refine lS ?_ GE202.out | refine lS ?_ GE203.out | refine lS ?_ GE207.out | refine lS ?_ GE210.out) | exact HB.out)⟩
                ·rw [if_neg c143] at H
                 have c143b0 : (t233 == t234) = false := beq_eq_false_iff_ne.mpr c143
                 have c143b1 : (t233 != t234) = true := bne_iff_ne.mpr c143
                 exact absurd ((Option.some.inj H).trans HR.out) (by decide)
               ·rw [if_neg c140] at H
                have c140b0 : (t231 == t232) = false := beq_eq_false_iff_ne.mpr c140
                have c140b1 : (t231 != t232) = true := bne_iff_ne.mpr c140
                exact absurd ((Option.some.inj H).trans HR.out) (by decide)
 ·replace c7 := Bool.eq_false_iff.mpr c7
  subst c7
  exact absurd (billiardlaw04_awake.only A6.out) (by decide)

/-- THE ONE PURE STATEMENT of billiardlaw04_VecMatchesReference: yours. -/
def billiardlaw04_VecMatchesReference.Pure : Prop := ∀ (a0_0 : Int) (a0_1 : Int) (a1_0 : Int) (a1_1 : Int) (a2 : Int) (a3 : Int) (a4 : Int), (Lit.int .i32 a0_0).wf = true → (Lit.int .i32 a0_1).wf = true → (Lit.int .i32 a1_0).wf = true → (Lit.int .i32 a1_1).wf = true → (Lit.int .i32 a2).wf = true → (Lit.int .i64 a3).wf = true → (Lit.int .i64 a4).wf = true → ∃ k, billiardlaw04_VecMatchesReference.f k a0_0 a0_1 a1_0 a1_1 a2 a3 a4 = some true
theorem billiardlaw04_VecMatchesReference.walk (P : billiardlaw04_VecMatchesReference.Pure) (a0_0 : Int) (a0_1 : Int) (a1_0 : Int) (a1_1 : Int) (a2 : Int) (a3 : Int) (a4 : Int) (w : World) (w0_0 : (Lit.int .i32 a0_0).wf = true) (w0_1 : (Lit.int .i32 a0_1).wf = true) (w1_0 : (Lit.int .i32 a1_0).wf = true) (w1_1 : (Lit.int .i32 a1_1).wf = true) (w2 : (Lit.int .i32 a2).wf = true) (w3 : (Lit.int .i64 a3).wf = true) (w4 : (Lit.int .i64 a4).wf = true) :
  Calls Try.prog 7 #[.agg #[.int .i32 a0_0, .int .i32 a0_1], .agg #[.int .i32 a1_0, .int .i32 a1_1], .int .i32 a2, .int .i64 a3, .int .i64 a4] w fun e w' => e = .returned (.bool true) ∧ Below w.heap.size w w' := by
 obtain ⟨k, h⟩ := P a0_0 a0_1 a1_0 a1_1 a2 a3 a4 w0_0 w0_1 w1_0 w1_1 w2 w3 w4
 refine (billiardlaw04_VecMatchesReference.calls k a0_0 a0_1 a1_0 a1_1 a2 a3 a4 true w h rfl).mono ?_
 rintro e w' ⟨rfl, hd⟩
 exact ⟨rfl, hd⟩

end Go.Proofs.Ytjgeakahbelgiaa.Q
