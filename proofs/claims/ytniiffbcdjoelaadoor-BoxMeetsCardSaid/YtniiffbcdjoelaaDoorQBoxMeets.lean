-- PRINTED by print.py (a twelfth state) out of the translation. Not trusted: Lean checks it.
import Derived.Test.YtniiffbcdjoelaaDoorQ0
import Derived.Test.YtniiffbcdjoelaaDoorMkeep
import Derived.Test.YtniiffbcdjoelaaDoorQE0
import Derived.Test.YtniiffbcdjoelaaDoorQbilliardlaw08
import Derived.Test.YtniiffbcdjoelaaDoorQbilliardref08
import Derived.Test.YtniiffbcdjoelaaDoorQbox
import Derived.Test.YtniiffbcdjoelaaDoorMglob
namespace Go.Proofs.YtniiffbcdjoelaaDoor.Q
open Go.RowKit.Below renaming refl → lR
open Go.RowKit Go.Proofs.YtniiffbcdjoelaaDoorW.PrintWords Go.Proofs.YtniiffbcdjoelaaDoorW.PrintLast Go.Proofs.YtniiffbcdjoelaaDoorW.PrintMore
open Go.Proofs.YtniiffbcdjoelaaDoorW.PrintWords renaming blk_drewN → bN, blk_drew → bD, blk_alloc → bA, blk_below → bB, blk_cell → bC, blk_frozen → bF, blk_far → bR, blk_lt → bL, blk_put → bP, below_alloc → lA, pw_below_drewN → lN, below_drew1 → lD, below_set → lS, below_step → lT, below_size → lZ, Aside0.mk → aM
open List renaming setIfInBounds_toArray → sA, set_cons_zero → sB, set_cons_succ → sC
open Bool renaming true → T, false → F
attribute [local go_sem] max2_int min2_int max_two min_two max_three min_three max_four min_four   -- for this text's walks alone
set_option linter.unusedVariables false
set_option linter.unusedSimpArgs false

attribute [local go_sem high] eqA31
/-! ### billiardlaw08_BoxMeets: function 4 -/
-- IMPORT Derived.Test.YtniiffbcdjoelaaDoorMglob
mutual
def billiardlaw08_BoxMeets.j0 : Nat → Bool → Int → Int → Int → Int → Int → Int → Int → Int → Int → Int → Int → Int → Int → Int → Int → Int → Int → Int → Int → Int → Int → Int → Int → Int → Int → Int → Option (Bool)
 | 0, _, _, _, _, _, _, _, _, _, _, _, _, _, _, _, _, _, _, _, _, _, _, _, _, _, _, _ => none
 | k + 1, x11, x200000, x200001, x200002, x200003, x201000, x201001, x201002, x201003, x202000, x202001, x208000, x208001, x208002, x208003, x213000, x213001, x213002, x213003, x218000, x218001, x218002, x218003, x223000, x223001, x223002, x223003 => (box_Contains.f x218000 x218001 x218002 x218003 x202000 x202001).bind fun t225 => (if (t225 != x11) = true then (billiardlaw08_BoxMeets.j1 k true x200000 x200001 x200002 x200003 x201000 x201001 x201002 x201003 x208000 x208001 x208002 x208003 x213000 x213001 x213002 x213003 x218000 x218001 x218002 x218003 x223000 x223001 x223002 x223003) else ((box_Contains.f x208000 x208001 x208002 x208003 x202000 x202001).bind fun t226 => (if t226 = true then ((box_Contains.f x223000 x223001 x223002 x223003 x202000 x202001).bind fun t227 => (if t227 = true then ((box_Overlap.f x208000 x208001 x208002 x208003 x213000 x213001 x213002 x213003).bind fun t228 => ((box_Empty.f x218000 x218001 x218002 x218003).bind fun t229 => (billiardlaw08_BoxMeets.j1 k (t228 == t229) x200000 x200001 x200002 x200003 x201000 x201001 x201002 x201003 x208000 x208001 x208002 x208003 x213000 x213001 x213002 x213003 x218000 x218001 x218002 x218003 x223000 x223001 x223002 x223003))) else (billiardlaw08_BoxMeets.j1 k true x200000 x200001 x200002 x200003 x201000 x201001 x201002 x201003 x208000 x208001 x208002 x208003 x213000 x213001 x213002 x213003 x218000 x218001 x218002 x218003 x223000 x223001 x223002 x223003))) else ((box_Contains.f x213000 x213001 x213002 x213003 x202000 x202001).bind fun t230 => (if t230 = true then ((box_Contains.f x223000 x223001 x223002 x223003 x202000 x202001).bind fun t231 => (if t231 = true then ((box_Overlap.f x208000 x208001 x208002 x208003 x213000 x213001 x213002 x213003).bind fun t232 => ((box_Empty.f x218000 x218001 x218002 x218003).bind fun t233 => (billiardlaw08_BoxMeets.j1 k (t232 == t233) x200000 x200001 x200002 x200003 x201000 x201001 x201002 x201003 x208000 x208001 x208002 x208003 x213000 x213001 x213002 x213003 x218000 x218001 x218002 x218003 x223000 x223001 x223002 x223003))) else (billiardlaw08_BoxMeets.j1 k true x200000 x200001 x200002 x200003 x201000 x201001 x201002 x201003 x208000 x208001 x208002 x208003 x213000 x213001 x213002 x213003 x218000 x218001 x218002 x218003 x223000 x223001 x223002 x223003))) else ((box_Overlap.f x208000 x208001 x208002 x208003 x213000 x213001 x213002 x213003).bind fun t234 => ((box_Empty.f x218000 x218001 x218002 x218003).bind fun t235 => (billiardlaw08_BoxMeets.j1 k (t234 == t235) x200000 x200001 x200002 x200003 x201000 x201001 x201002 x201003 x208000 x208001 x208002 x208003 x213000 x213001 x213002 x213003 x218000 x218001 x218002 x218003 x223000 x223001 x223002 x223003))))))))
def billiardlaw08_BoxMeets.j1 : Nat → Bool → Int → Int → Int → Int → Int → Int → Int → Int → Int → Int → Int → Int → Int → Int → Int → Int → Int → Int → Int → Int → Int → Int → Int → Int → Option (Bool)
 | 0, _, _, _, _, _, _, _, _, _, _, _, _, _, _, _, _, _, _, _, _, _, _, _, _, _ => none
 | k + 1, x60, x200000, x200001, x200002, x200003, x201000, x201001, x201002, x201003, x208000, x208001, x208002, x208003, x213000, x213001, x213002, x213003, x218000, x218001, x218002, x218003, x223000, x223001, x223002, x223003 => if x60 = true then (some false) else ((box_Empty.f x218000 x218001 x218002 x218003).bind fun t236 => (if t236 = true then (billiardlaw08_BoxMeets.j2 k (!(x218000 == 1) || (!(x218001 == 0) || (!(x218002 == 0) || (!(x218003 == 0))))) x200000 x200001 x200002 x200003 x201000 x201001 x201002 x201003 x208000 x208001 x208002 x208003 x213000 x213001 x213002 x213003 x218000 x218001 x218002 x218003 x223000 x223001 x223002 x223003) else (billiardlaw08_BoxMeets.j2 k false x200000 x200001 x200002 x200003 x201000 x201001 x201002 x201003 x208000 x208001 x208002 x208003 x213000 x213001 x213002 x213003 x218000 x218001 x218002 x218003 x223000 x223001 x223002 x223003)))
def billiardlaw08_BoxMeets.j2 : Nat → Bool → Int → Int → Int → Int → Int → Int → Int → Int → Int → Int → Int → Int → Int → Int → Int → Int → Int → Int → Int → Int → Int → Int → Int → Int → Option (Bool)
 | 0, _, _, _, _, _, _, _, _, _, _, _, _, _, _, _, _, _, _, _, _, _, _, _, _, _ => none
 | k + 1, x67, x200000, x200001, x200002, x200003, x201000, x201001, x201002, x201003, x208000, x208001, x208002, x208003, x213000, x213001, x213002, x213003, x218000, x218001, x218002, x218003, x223000, x223001, x223002, x223003 => if x67 = true then (some false) else ((billiardref08_Empty.f x200000 x200001 x200002 x200003).bind fun t237 => (if t237 = true then (billiardlaw08_BoxMeets.j3 k true x200000 x200001 x200002 x200003 x201000 x201001 x201002 x201003 x208000 x208001 x208002 x208003 x213000 x213001 x213002 x213003 x218000 x218001 x218002 x218003 x223000 x223001 x223002 x223003) else ((billiardref08_Empty.f x201000 x201001 x201002 x201003).bind fun t238 => (billiardlaw08_BoxMeets.j3 k t238 x200000 x200001 x200002 x200003 x201000 x201001 x201002 x201003 x208000 x208001 x208002 x208003 x213000 x213001 x213002 x213003 x218000 x218001 x218002 x218003 x223000 x223001 x223002 x223003))))
def billiardlaw08_BoxMeets.j3 : Nat → Bool → Int → Int → Int → Int → Int → Int → Int → Int → Int → Int → Int → Int → Int → Int → Int → Int → Int → Int → Int → Int → Int → Int → Int → Int → Option (Bool)
 | 0, _, _, _, _, _, _, _, _, _, _, _, _, _, _, _, _, _, _, _, _, _, _, _, _, _ => none
 | k + 1, x73, x200000, x200001, x200002, x200003, x201000, x201001, x201002, x201003, x208000, x208001, x208002, x208003, x213000, x213001, x213002, x213003, x218000, x218001, x218002, x218003, x223000, x223001, x223002, x223003 => if x73 = true then ((box_Empty.f x218000 x218001 x218002 x218003).bind fun t239 => (if t239 = true then ((billiardref08_Empty.f x200000 x200001 x200002 x200003).bind fun t240 => (if t240 = true then ((billiardref08_Empty.f x201000 x201001 x201002 x201003).bind fun t241 => (if t241 = true then (if (x223000 == 1 && (x223001 == 0 && (x223002 == 0 && (x223003 == 0)))) = true then ((billiardref08_Empty.f x201000 x201001 x201002 x201003).bind fun t242 => (if t242 = true then ((billiardref08_Empty.f x200000 x200001 x200002 x200003).bind fun t243 => (if t243 = true then (some true) else (some (x223000 == x208000 && (x223001 == x208001 && (x223002 == x208002 && (x223003 == x208003))))))) else (some true))) else (if (x223000 == x213000 && (x223001 == x213001 && (x223002 == x213002 && (x223003 == x213003)))) = true then ((billiardref08_Empty.f x201000 x201001 x201002 x201003).bind fun t244 => (if t244 = true then ((billiardref08_Empty.f x200000 x200001 x200002 x200003).bind fun t245 => (if t245 = true then (some true) else (some (x223000 == x208000 && (x223001 == x208001 && (x223002 == x208002 && (x223003 == x208003))))))) else (some true))) else (some false))) else (if (x223000 == x213000 && (x223001 == x213001 && (x223002 == x213002 && (x223003 == x213003)))) = true then ((billiardref08_Empty.f x201000 x201001 x201002 x201003).bind fun t246 => (if t246 = true then ((billiardref08_Empty.f x200000 x200001 x200002 x200003).bind fun t247 => (if t247 = true then (some true) else (some (x223000 == x208000 && (x223001 == x208001 && (x223002 == x208002 && (x223003 == x208003))))))) else (some true))) else (some false)))) else ((billiardref08_Empty.f x201000 x201001 x201002 x201003).bind fun t248 => (if t248 = true then ((billiardref08_Empty.f x200000 x200001 x200002 x200003).bind fun t249 => (if t249 = true then (some true) else (some (x223000 == x208000 && (x223001 == x208001 && (x223002 == x208002 && (x223003 == x208003))))))) else (some true))))) else (some false))) else (if x223000 = (mn x200000 x201000) then (if x223001 = (mn x200001 x201001) then (if x223002 = (mx x200002 x201002) then (some (x223003 == (mx x200003 x201003))) else (some false)) else (some false)) else (some false))
end
def billiardlaw08_BoxMeets.f (k : Nat) (a0_0 : Int) (a0_1 : Int) (a0_2 : Int) (a0_3 : Int) (a1_0 : Int) (a1_1 : Int) (a1_2 : Int) (a1_3 : Int) (a2_0 : Int) (a2_1 : Int) : Option (Bool) := (billiardlaw08_awake.f).bind fun t202 => (if t202 = true then ((billiardlaw08_forward.f a0_0 a0_1 a0_2 a0_3).bind fun bt203 => ((billiardlaw08_forward.f a1_0 a1_1 a1_2 a1_3).bind fun bt208 => ((box_Meet.f bt203.1 bt203.2.1 bt203.2.2.1 bt203.2.2.2 bt208.1 bt208.2.1 bt208.2.2.1 bt208.2.2.2).bind fun bt213 => ((box_Union.f bt203.1 bt203.2.1 bt203.2.2.1 bt203.2.2.2 bt208.1 bt208.2.1 bt208.2.2.1 bt208.2.2.2).bind fun bt218 => ((box_Contains.f bt203.1 bt203.2.1 bt203.2.2.1 bt203.2.2.2 a2_0 a2_1).bind fun t223 => (if t223 = true then ((box_Contains.f bt208.1 bt208.2.1 bt208.2.2.1 bt208.2.2.2 a2_0 a2_1).bind fun t224 => (billiardlaw08_BoxMeets.j0 k t224 a0_0 a0_1 a0_2 a0_3 a1_0 a1_1 a1_2 a1_3 a2_0 a2_1 bt203.1 bt203.2.1 bt203.2.2.1 bt203.2.2.2 bt208.1 bt208.2.1 bt208.2.2.1 bt208.2.2.2 bt213.1 bt213.2.1 bt213.2.2.1 bt213.2.2.2 bt218.1 bt218.2.1 bt218.2.2.1 bt218.2.2.2)) else (billiardlaw08_BoxMeets.j0 k false a0_0 a0_1 a0_2 a0_3 a1_0 a1_1 a1_2 a1_3 a2_0 a2_1 bt203.1 bt203.2.1 bt203.2.2.1 bt203.2.2.2 bt208.1 bt208.2.1 bt208.2.2.1 bt208.2.2.2 bt213.1 bt213.2.1 bt213.2.2.1 bt213.2.2.2 bt218.1 bt218.2.1 bt218.2.2.1 bt218.2.2.2))))))) else (some false))
theorem billiardlaw08_BoxMeets.mono_l : ∀ k, (∀ y0 y1 y2 y3 y4 y5 y6 y7 y8 y9 y10 y11 y12 y13 y14 y15 y16 y17 y18 y19 y20 y21 y22 y23 y24 y25 y26, LeO (billiardlaw08_BoxMeets.j0 k y0 y1 y2 y3 y4 y5 y6 y7 y8 y9 y10 y11 y12 y13 y14 y15 y16 y17 y18 y19 y20 y21 y22 y23 y24 y25 y26) (billiardlaw08_BoxMeets.j0 (k + 1) y0 y1 y2 y3 y4 y5 y6 y7 y8 y9 y10 y11 y12 y13 y14 y15 y16 y17 y18 y19 y20 y21 y22 y23 y24 y25 y26)) ∧ (∀ y0 y1 y2 y3 y4 y5 y6 y7 y8 y9 y10 y11 y12 y13 y14 y15 y16 y17 y18 y19 y20 y21 y22 y23 y24, LeO (billiardlaw08_BoxMeets.j1 k y0 y1 y2 y3 y4 y5 y6 y7 y8 y9 y10 y11 y12 y13 y14 y15 y16 y17 y18 y19 y20 y21 y22 y23 y24) (billiardlaw08_BoxMeets.j1 (k + 1) y0 y1 y2 y3 y4 y5 y6 y7 y8 y9 y10 y11 y12 y13 y14 y15 y16 y17 y18 y19 y20 y21 y22 y23 y24)) ∧ (∀ y0 y1 y2 y3 y4 y5 y6 y7 y8 y9 y10 y11 y12 y13 y14 y15 y16 y17 y18 y19 y20 y21 y22 y23 y24, LeO (billiardlaw08_BoxMeets.j2 k y0 y1 y2 y3 y4 y5 y6 y7 y8 y9 y10 y11 y12 y13 y14 y15 y16 y17 y18 y19 y20 y21 y22 y23 y24) (billiardlaw08_BoxMeets.j2 (k + 1) y0 y1 y2 y3 y4 y5 y6 y7 y8 y9 y10 y11 y12 y13 y14 y15 y16 y17 y18 y19 y20 y21 y22 y23 y24)) ∧ (∀ y0 y1 y2 y3 y4 y5 y6 y7 y8 y9 y10 y11 y12 y13 y14 y15 y16 y17 y18 y19 y20 y21 y22 y23 y24, LeO (billiardlaw08_BoxMeets.j3 k y0 y1 y2 y3 y4 y5 y6 y7 y8 y9 y10 y11 y12 y13 y14 y15 y16 y17 y18 y19 y20 y21 y22 y23 y24) (billiardlaw08_BoxMeets.j3 (k + 1) y0 y1 y2 y3 y4 y5 y6 y7 y8 y9 y10 y11 y12 y13 y14 y15 y16 y17 y18 y19 y20 y21 y22 y23 y24))
 | 0 => ⟨fun _ _ _ _ _ _ _ _ _ _ _ _ _ _ _ _ _ _ _ _ _ _ _ _ _ _ _ r h => by simp [billiardlaw08_BoxMeets.j0] at h, fun _ _ _ _ _ _ _ _ _ _ _ _ _ _ _ _ _ _ _ _ _ _ _ _ _ r h => by simp [billiardlaw08_BoxMeets.j1] at h, fun _ _ _ _ _ _ _ _ _ _ _ _ _ _ _ _ _ _ _ _ _ _ _ _ _ r h => by simp [billiardlaw08_BoxMeets.j2] at h, fun _ _ _ _ _ _ _ _ _ _ _ _ _ _ _ _ _ _ _ _ _ _ _ _ _ r h => by simp [billiardlaw08_BoxMeets.j3] at h⟩
 | k + 1 => by
  obtain ⟨ih0, ih1, ih2, ih3⟩ := billiardlaw08_BoxMeets.mono_l k
  refine ⟨?_, ?_, ?_, ?_⟩
  ·intro y0 y1 y2 y3 y4 y5 y6 y7 y8 y9 y10 y11 y12 y13 y14 y15 y16 y17 y18 y19 y20 y21 y22 y23 y24 y25 y26
   unfold billiardlaw08_BoxMeets.j0
   repeat' first
   | (with_reducible exact ih0 _ _ _ _ _ _ _ _ _ _ _ _ _ _ _ _ _ _ _ _ _ _ _ _ _ _ _)
   | (with_reducible exact ih1 _ _ _ _ _ _ _ _ _ _ _ _ _ _ _ _ _ _ _ _ _ _ _ _ _)
   | (with_reducible exact ih2 _ _ _ _ _ _ _ _ _ _ _ _ _ _ _ _ _ _ _ _ _ _ _ _ _)
   | (with_reducible exact ih3 _ _ _ _ _ _ _ _ _ _ _ _ _ _ _ _ _ _ _ _ _ _ _ _ _)
   | (with_reducible exact LeO.refl _)
   | (with_reducible exact LeO.none _)
   | (with_reducible refine LeO.ite ?_ ?_)
   | (with_reducible refine LeO.bind ?_ (fun _ => ?_))
   | exact ih0 _ _ _ _ _ _ _ _ _ _ _ _ _ _ _ _ _ _ _ _ _ _ _ _ _ _ _
   | exact ih1 _ _ _ _ _ _ _ _ _ _ _ _ _ _ _ _ _ _ _ _ _ _ _ _ _
   | exact ih2 _ _ _ _ _ _ _ _ _ _ _ _ _ _ _ _ _ _ _ _ _ _ _ _ _
   | exact ih3 _ _ _ _ _ _ _ _ _ _ _ _ _ _ _ _ _ _ _ _ _ _ _ _ _
   | exact LeO.none _
   | refine LeO.ite ?_ ?_
   | refine LeO.bind ?_ (fun _ => ?_)
  ·intro y0 y1 y2 y3 y4 y5 y6 y7 y8 y9 y10 y11 y12 y13 y14 y15 y16 y17 y18 y19 y20 y21 y22 y23 y24
   unfold billiardlaw08_BoxMeets.j1
   repeat' first
   | (with_reducible exact ih0 _ _ _ _ _ _ _ _ _ _ _ _ _ _ _ _ _ _ _ _ _ _ _ _ _ _ _)
   | (with_reducible exact ih1 _ _ _ _ _ _ _ _ _ _ _ _ _ _ _ _ _ _ _ _ _ _ _ _ _)
   | (with_reducible exact ih2 _ _ _ _ _ _ _ _ _ _ _ _ _ _ _ _ _ _ _ _ _ _ _ _ _)
   | (with_reducible exact ih3 _ _ _ _ _ _ _ _ _ _ _ _ _ _ _ _ _ _ _ _ _ _ _ _ _)
   | (with_reducible exact LeO.refl _)
   | (with_reducible exact LeO.none _)
   | (with_reducible refine LeO.ite ?_ ?_)
   | (with_reducible refine LeO.bind ?_ (fun _ => ?_))
   | exact ih0 _ _ _ _ _ _ _ _ _ _ _ _ _ _ _ _ _ _ _ _ _ _ _ _ _ _ _
   | exact ih1 _ _ _ _ _ _ _ _ _ _ _ _ _ _ _ _ _ _ _ _ _ _ _ _ _
   | exact ih2 _ _ _ _ _ _ _ _ _ _ _ _ _ _ _ _ _ _ _ _ _ _ _ _ _
   | exact ih3 _ _ _ _ _ _ _ _ _ _ _ _ _ _ _ _ _ _ _ _ _ _ _ _ _
   | exact LeO.none _
   | refine LeO.ite ?_ ?_
   | refine LeO.bind ?_ (fun _ => ?_)
  ·intro y0 y1 y2 y3 y4 y5 y6 y7 y8 y9 y10 y11 y12 y13 y14 y15 y16 y17 y18 y19 y20 y21 y22 y23 y24
   unfold billiardlaw08_BoxMeets.j2
   repeat' first
   | (with_reducible exact ih0 _ _ _ _ _ _ _ _ _ _ _ _ _ _ _ _ _ _ _ _ _ _ _ _ _ _ _)
   | (with_reducible exact ih1 _ _ _ _ _ _ _ _ _ _ _ _ _ _ _ _ _ _ _ _ _ _ _ _ _)
   | (with_reducible exact ih2 _ _ _ _ _ _ _ _ _ _ _ _ _ _ _ _ _ _ _ _ _ _ _ _ _)
   | (with_reducible exact ih3 _ _ _ _ _ _ _ _ _ _ _ _ _ _ _ _ _ _ _ _ _ _ _ _ _)
   | (with_reducible exact LeO.refl _)
   | (with_reducible exact LeO.none _)
   | (with_reducible refine LeO.ite ?_ ?_)
   | (with_reducible refine LeO.bind ?_ (fun _ => ?_))
   | exact ih0 _ _ _ _ _ _ _ _ _ _ _ _ _ _ _ _ _ _ _ _ _ _ _ _ _ _ _
   | exact ih1 _ _ _ _ _ _ _ _ _ _ _ _ _ _ _ _ _ _ _ _ _ _ _ _ _
   | exact ih2 _ _ _ _ _ _ _ _ _ _ _ _ _ _ _ _ _ _ _ _ _ _ _ _ _
   | exact ih3 _ _ _ _ _ _ _ _ _ _ _ _ _ _ _ _ _ _ _ _ _ _ _ _ _
   | exact LeO.none _
   | refine LeO.ite ?_ ?_
   | refine LeO.bind ?_ (fun _ => ?_)
  ·intro y0 y1 y2 y3 y4 y5 y6 y7 y8 y9 y10 y11 y12 y13 y14 y15 y16 y17 y18 y19 y20 y21 y22 y23 y24
   unfold billiardlaw08_BoxMeets.j3
   repeat' first
   | (with_reducible exact ih0 _ _ _ _ _ _ _ _ _ _ _ _ _ _ _ _ _ _ _ _ _ _ _ _ _ _ _)
   | (with_reducible exact ih1 _ _ _ _ _ _ _ _ _ _ _ _ _ _ _ _ _ _ _ _ _ _ _ _ _)
   | (with_reducible exact ih2 _ _ _ _ _ _ _ _ _ _ _ _ _ _ _ _ _ _ _ _ _ _ _ _ _)
   | (with_reducible exact ih3 _ _ _ _ _ _ _ _ _ _ _ _ _ _ _ _ _ _ _ _ _ _ _ _ _)
   | (with_reducible exact LeO.refl _)
   | (with_reducible exact LeO.none _)
   | (with_reducible refine LeO.ite ?_ ?_)
   | (with_reducible refine LeO.bind ?_ (fun _ => ?_))
   | exact ih0 _ _ _ _ _ _ _ _ _ _ _ _ _ _ _ _ _ _ _ _ _ _ _ _ _ _ _
   | exact ih1 _ _ _ _ _ _ _ _ _ _ _ _ _ _ _ _ _ _ _ _ _ _ _ _ _
   | exact ih2 _ _ _ _ _ _ _ _ _ _ _ _ _ _ _ _ _ _ _ _ _ _ _ _ _
   | exact ih3 _ _ _ _ _ _ _ _ _ _ _ _ _ _ _ _ _ _ _ _ _ _ _ _ _
   | exact LeO.none _
   | refine LeO.ite ?_ ?_
   | refine LeO.bind ?_ (fun _ => ?_)
theorem billiardlaw08_BoxMeets.mono : ∀ a0 a1 a2 a3 a4 a5 a6 a7 a8 a9 k, LeO (billiardlaw08_BoxMeets.f k a0 a1 a2 a3 a4 a5 a6 a7 a8 a9) (billiardlaw08_BoxMeets.f (k + 1) a0 a1 a2 a3 a4 a5 a6 a7 a8 a9) := by
 intro a0 a1 a2 a3 a4 a5 a6 a7 a8 a9 k
 obtain ⟨ih0, ih1, ih2, ih3⟩ := billiardlaw08_BoxMeets.mono_l k
 unfold billiardlaw08_BoxMeets.f
 repeat' first
   | (with_reducible exact ih0 _ _ _ _ _ _ _ _ _ _ _ _ _ _ _ _ _ _ _ _ _ _ _ _ _ _ _)
   | (with_reducible exact ih1 _ _ _ _ _ _ _ _ _ _ _ _ _ _ _ _ _ _ _ _ _ _ _ _ _)
   | (with_reducible exact ih2 _ _ _ _ _ _ _ _ _ _ _ _ _ _ _ _ _ _ _ _ _ _ _ _ _)
   | (with_reducible exact ih3 _ _ _ _ _ _ _ _ _ _ _ _ _ _ _ _ _ _ _ _ _ _ _ _ _)
   | (with_reducible exact LeO.refl _)
   | (with_reducible exact LeO.none _)
   | (with_reducible refine LeO.ite ?_ ?_)
   | (with_reducible refine LeO.bind ?_ (fun _ => ?_))
   | exact ih0 _ _ _ _ _ _ _ _ _ _ _ _ _ _ _ _ _ _ _ _ _ _ _ _ _ _ _
   | exact ih1 _ _ _ _ _ _ _ _ _ _ _ _ _ _ _ _ _ _ _ _ _ _ _ _ _
   | exact ih2 _ _ _ _ _ _ _ _ _ _ _ _ _ _ _ _ _ _ _ _ _ _ _ _ _
   | exact ih3 _ _ _ _ _ _ _ _ _ _ _ _ _ _ _ _ _ _ _ _ _ _ _ _ _
   | exact LeO.none _
   | refine LeO.ite ?_ ?_
   | refine LeO.bind ?_ (fun _ => ?_)
def billiardlaw08_BoxMeets.T8 : Bool × List (List Nat × List Nat) := (true, [([], []), ([], []), ([0, 1], [0, 1]), ([], []), ([2, 3], [2, 3]), ([4, 2], [4]), ([5], [5]), ([5], [5]), ([6, 7, 5, 5], [5, 6, 7]), ([8, 8, 5], [5, 8]), ([9], [9]), ([9], [9]), ([10, 11, 9, 9], [9, 10, 11]), ([9, 12, 5], [5, 9, 12]), ([13, 12, 5], [5, 13]), ([14], [14]), ([14], [14]), ([15, 16, 14, 14], [14, 15, 16]), ([17, 14], [14, 17]), ([14, 18, 5], [5, 14, 18]), ([5, 19], [5, 19]), ([20, 17], [20]), ([21], [21]), ([21], [21]), ([22, 23, 21, 21], [21, 22, 23]), ([21], [21]), ([25, 24, 21], [21, 25]), ([24, 26, 21], [21, 24, 26]), ([21, 27], [21, 27])])
def billiardlaw08_BoxMeets.B8 : List Nat := [0, 0, 3, 0, 15, 31, 63, 63, 255, 511, 1023, 1023, 4095, 8191, 16383, 32767, 32767, 131071, 262143, 524287, 1048575, 2097151, 4194303, 4194303, 16777215, 4194303, 67108863, 134217727, 268435455]
theorem billiardlaw08_BoxMeets.tab8 : rtab .any (opsOf Tryd.f4 8) = billiardlaw08_BoxMeets.T8 := by kernel_rfl
theorem billiardlaw08_BoxMeets.bits8 : waitsOk billiardlaw08_BoxMeets.T8.2 billiardlaw08_BoxMeets.B8 = true := by kernel_rfl
theorem billiardlaw08_BoxMeets.j1.dead {k : Nat} {p1 : Int} {p2 : Int} {p3 : Int} {p4 : Int} {p5 : Int} {p6 : Int} {p7 : Int} {p8 : Int} {p9 : Int} {p10 : Int} {p11 : Int} {p12 : Int} {p13 : Int} {p14 : Int} {p15 : Int} {p16 : Int} {p17 : Int} {p18 : Int} {p19 : Int} {p20 : Int} {p21 : Int} {p22 : Int} {p23 : Int} {p24 : Int} {r : Bool} (h : billiardlaw08_BoxMeets.j1 k true p1 p2 p3 p4 p5 p6 p7 p8 p9 p10 p11 p12 p13 p14 p15 p16 p17 p18 p19 p20 p21 p22 p23 p24 = some r) (hr : r = true) : False := by
 cases k with
 | zero => simp only [billiardlaw08_BoxMeets.j1] at h; cases h
 | succ k =>
  have e : billiardlaw08_BoxMeets.j1 (k + 1) true p1 p2 p3 p4 p5 p6 p7 p8 p9 p10 p11 p12 p13 p14 p15 p16 p17 p18 p19 p20 p21 p22 p23 p24 = some false := by simp only [billiardlaw08_BoxMeets.j1]; rfl
  rw [e, hr] at h; cases h
theorem billiardlaw08_BoxMeets.j2.dead {k : Nat} {p1 : Int} {p2 : Int} {p3 : Int} {p4 : Int} {p5 : Int} {p6 : Int} {p7 : Int} {p8 : Int} {p9 : Int} {p10 : Int} {p11 : Int} {p12 : Int} {p13 : Int} {p14 : Int} {p15 : Int} {p16 : Int} {p17 : Int} {p18 : Int} {p19 : Int} {p20 : Int} {p21 : Int} {p22 : Int} {p23 : Int} {p24 : Int} {r : Bool} (h : billiardlaw08_BoxMeets.j2 k true p1 p2 p3 p4 p5 p6 p7 p8 p9 p10 p11 p12 p13 p14 p15 p16 p17 p18 p19 p20 p21 p22 p23 p24 = some r) (hr : r = true) : False := by
 cases k with
 | zero => simp only [billiardlaw08_BoxMeets.j2] at h; cases h
 | succ k =>
  have e : billiardlaw08_BoxMeets.j2 (k + 1) true p1 p2 p3 p4 p5 p6 p7 p8 p9 p10 p11 p12 p13 p14 p15 p16 p17 p18 p19 p20 p21 p22 p23 p24 = some false := by simp only [billiardlaw08_BoxMeets.j2]; rfl
  rw [e, hr] at h; cases h
set_option maxHeartbeats 8000000 in
set_option maxRecDepth 100000 in
theorem billiardlaw08_BoxMeets.calls (k : Nat) (a0_0 : Int) (a0_1 : Int) (a0_2 : Int) (a0_3 : Int) (a1_0 : Int) (a1_1 : Int) (a1_2 : Int) (a1_3 : Int) (a2_0 : Int) (a2_1 : Int) (r : Bool) (w : World) (h : billiardlaw08_BoxMeets.f k a0_0 a0_1 a0_2 a0_3 a1_0 a1_1 a1_2 a1_3 a2_0 a2_1 = some r) (hr : r = true) (HGN0 : GlobN w) :
  Calls Tryd.prog 4 #[.agg #[.int .i32 a0_0, .int .i32 a0_1, .int .i32 a0_2, .int .i32 a0_3], .agg #[.int .i32 a1_0, .int .i32 a1_1, .int .i32 a1_2, .int .i32 a1_3], .agg #[.int .i32 a2_0, .int .i32 a2_1]] w fun e w' => e = .returned (.bool r) ∧ Below w.heap.size w w' := by
 have HGN := aM HGN0
 clear HGN0
 have HR := aM hr
 clear hr
 have hu28 := Tryd.underlying28
 have hu24 := Tryd.underlying24
 have hu31 := Tryd.underlying31
 have HB := aM (Below.refl w.heap.size w)
 have H : ((billiardlaw08_awake.f).bind fun t202 => (if t202 = true then ((billiardlaw08_forward.f a0_0 a0_1 a0_2 a0_3).bind fun bt203 => ((billiardlaw08_forward.f a1_0 a1_1 a1_2 a1_3).bind fun bt208 => ((box_Meet.f bt203.1 bt203.2.1 bt203.2.2.1 bt203.2.2.2 bt208.1 bt208.2.1 bt208.2.2.1 bt208.2.2.2).bind fun bt213 => ((box_Union.f bt203.1 bt203.2.1 bt203.2.2.1 bt203.2.2.2 bt208.1 bt208.2.1 bt208.2.2.1 bt208.2.2.2).bind fun bt218 => ((box_Contains.f bt203.1 bt203.2.1 bt203.2.2.1 bt203.2.2.2 a2_0 a2_1).bind fun t223 => (if t223 = true then ((box_Contains.f bt208.1 bt208.2.1 bt208.2.2.1 bt208.2.2.2 a2_0 a2_1).bind fun t224 => (billiardlaw08_BoxMeets.j0 k t224 a0_0 a0_1 a0_2 a0_3 a1_0 a1_1 a1_2 a1_3 a2_0 a2_1 bt203.1 bt203.2.1 bt203.2.2.1 bt203.2.2.2 bt208.1 bt208.2.1 bt208.2.2.1 bt208.2.2.2 bt213.1 bt213.2.1 bt213.2.2.1 bt213.2.2.2 bt218.1 bt218.2.1 bt218.2.2.1 bt218.2.2.2)) else (billiardlaw08_BoxMeets.j0 k false a0_0 a0_1 a0_2 a0_3 a1_0 a1_1 a1_2 a1_3 a2_0 a2_1 bt203.1 bt203.2.1 bt203.2.2.1 bt203.2.2.2 bt208.1 bt208.2.1 bt208.2.2.1 bt208.2.2.2 bt213.1 bt213.2.1 bt213.2.2.1 bt213.2.2.2 bt218.1 bt218.2.1 bt218.2.2.1 bt218.2.2.2))))))) else (some false))) = some r := h
 clear h
 replace H := Option.bind_eq_some_iff.mp H
 obtain ⟨t202, A40, H⟩ := H
 try dsimp only at H
 have A4 := aM A40
 clear A40
 by_cases c5 : t202 = true
 ·subst c5
  rw [if_pos rfl] at H
  replace H := Option.bind_eq_some_iff.mp H
  obtain ⟨⟨t203, t204, t205, t206⟩, A60, H⟩ := H
  try dsimp only at H
  have A6 := aM A60
  clear A60
  replace H := Option.bind_eq_some_iff.mp H
  obtain ⟨⟨t208, t209, t210, t211⟩, A70, H⟩ := H
  try dsimp only at H
  have A7 := aM A70
  clear A70
  replace H := Option.bind_eq_some_iff.mp H
  obtain ⟨⟨t213, t214, t215, t216⟩, A80, H⟩ := H
  try dsimp only at H
  have A8 := aM A80
  clear A80
  replace H := Option.bind_eq_some_iff.mp H
  obtain ⟨⟨t218, t219, t220, t221⟩, A90, H⟩ := H
  try dsimp only at H
  have A9 := aM A90
  clear A90
  have HC10 := aM H
  clear H
  go_enter Tryd.func4, Tryd.ntmps4
  go_upto_region 7 with (first | ((with_reducible refine gate_dst (N := 3) rfl ?_); (try (refine gate_guard (by rfl) ?_; dsimp only)); refine box_event ?hg (N := 3) ?hd (cs := #[.int .i32 a0_0, .int .i32 a0_1, .int .i32 a0_2, .int .i32 a0_3]) (t := 28) ?hr ?_; (case hd => rfl); (case hg => rfl); (case hr => first | (go_simp; done) | (go_simp; rfl)); intro b199 hg w11 hbox hb; have n0_ := aM (lT (by repeat (first | (with_reducible first | exact HB.out | apply lA | apply lN | apply lD) | exact HB.out)) hb); have n1_ := aM (hbox); have n2_ := aM ((by rw [hg]; exact (lZ (by repeat (first | (with_reducible first | exact HB.out | apply lA | apply lN | apply lD) | exact HB.out))) : w.heap.size ≤ b199)); have n3_ := aM ((by rw [hg]; exact (lZ (by repeat (first | (with_reducible first | exact HB.out | apply lA | apply lN | apply lD) | exact HB.out))) : w.heap.size ≤ b199)); clear HB; have HB := n0_; have BK199 := n1_; have GW199 := n2_; have GE199 := n3_; clear n0_ n1_ n2_ n3_; clear hb hbox hg) | ((with_reducible refine gate_dst (N := 4) rfl ?_); (try (refine gate_guard (by rfl) ?_; dsimp only)); refine box_event ?hg (N := 4) ?hd (cs := #[.int .i32 a1_0, .int .i32 a1_1, .int .i32 a1_2, .int .i32 a1_3]) (t := 28) ?hr ?_; (case hd => rfl); (case hg => rfl); (case hr => first | (go_simp; done) | (go_simp; rfl)); intro b200 hg w12 hbox hb; have n0_ := aM (bB (by (with_reducible repeat first | apply bN | apply bD | apply bA); exact BK199.out) hb); have n1_ := aM (lT (by repeat (first | (with_reducible first | exact HB.out | apply lA | apply lN | apply lD | refine lS ?_ GE199.out) | exact HB.out)) hb); have n2_ := aM (hbox); have n3_ := aM ((by rw [hg]; exact (lZ (by repeat (first | (with_reducible first | exact HB.out | apply lA | apply lN | apply lD | refine lS ?_ GE199.out) | exact HB.out))) : w.heap.size ≤ b200)); have n4_ := aM ((by rw [hg]; exact (lZ (by repeat (first | (with_reducible first | exact HB.out | apply lA | apply lN | apply lD | refine lS ?_ GE199.out) | exact HB.out))) : w.heap.size ≤ b200)); have n5_ := aM ((by rw [hg]; exact Nat.ne_of_lt (bL (g := b199) (by (with_reducible repeat first | apply bN | apply bD | apply bA); exact BK199.out)) : b199 ≠ b200)); have n6_ := aM ((by rw [hg]; exact Nat.ne_of_gt (bL (g := b199) (by (with_reducible repeat first | apply bN | apply bD | apply bA); exact BK199.out)) : b200 ≠ b199)); clear BK199; clear HB; have BK199 := n0_; have HB := n1_; have BK200 := n2_; have GW200 := n3_; have GE200 := n4_; have N0_ := n5_; have N1_ := n6_; clear n0_ n1_ n2_ n3_ n4_ n5_ n6_; clear hb hbox hg) | ((with_reducible refine gate_dst (N := 5) rfl ?_); (try (refine gate_guard (by rfl) ?_; dsimp only)); refine box_event ?hg (N := 5) ?hd (cs := #[.int .i32 a2_0, .int .i32 a2_1]) (t := 24) ?hr ?_; (case hd => rfl); (case hg => rfl); (case hr => first | (go_simp; done) | (go_simp; rfl)); intro b201 hg w13 hbox hb; have n0_ := aM (bB (by (with_reducible repeat first | apply bN | apply bD | apply bA); exact BK199.out) hb); have n1_ := aM (bB (by (with_reducible repeat first | apply bN | apply bD | apply bA); exact BK200.out) hb); have n2_ := aM (lT (by repeat (first | (with_reducible first | exact HB.out | apply lA | apply lN | apply lD | refine lS ?_ GE199.out | refine lS ?_ GE200.out) | exact HB.out)) hb); have n3_ := aM (hbox); have n4_ := aM ((by rw [hg]; exact (lZ (by repeat (first | (with_reducible first | exact HB.out | apply lA | apply lN | apply lD | refine lS ?_ GE199.out | refine lS ?_ GE200.out) | exact HB.out))) : w.heap.size ≤ b201)); have n5_ := aM ((by rw [hg]; exact (lZ (by repeat (first | (with_reducible first | exact HB.out | apply lA | apply lN | apply lD | refine lS ?_ GE199.out | refine lS ?_ GE200.out) | exact HB.out))) : w.heap.size ≤ b201)); have n6_ := aM ((by rw [hg]; exact Nat.ne_of_lt (bL (g := b199) (by (with_reducible repeat first | apply bN | apply bD | apply bA); exact BK199.out)) : b199 ≠ b201)); have n7_ := aM ((by rw [hg]; exact Nat.ne_of_gt (bL (g := b199) (by (with_reducible repeat first | apply bN | apply bD | apply bA); exact BK199.out)) : b201 ≠ b199)); have n8_ := aM ((by rw [hg]; exact Nat.ne_of_lt (bL (g := b200) (by (with_reducible repeat first | apply bN | apply bD | apply bA); exact BK200.out)) : b200 ≠ b201)); have n9_ := aM ((by rw [hg]; exact Nat.ne_of_gt (bL (g := b200) (by (with_reducible repeat first | apply bN | apply bD | apply bA); exact BK200.out)) : b201 ≠ b200)); clear BK199; clear BK200; clear HB; have BK199 := n0_; have BK200 := n1_; have HB := n2_; have BK201 := n3_; have GW201 := n4_; have GE201 := n5_; have N2_ := n6_; have N3_ := n7_; have N4_ := n8_; have N5_ := n9_; clear n0_ n1_ n2_ n3_ n4_ n5_ n6_ n7_ n8_ n9_; clear hb hbox hg) | ((with_reducible refine gate_callee (f := 7) rfl ?_); refine goesL_ (some 12) rfl rfl Tryd.func7 (by kernel_rfl) rfl #[] rfl (by (try simp only [List.map_toArray, List.map_cons, List.map_nil]); first | done | rfl | (simp only [List.length_drop, List.length_take]; rfl)) ?_; (with_reducible refine (billiardlaw08_awake.calls  true _ A4.out (HGN.out.below (by repeat (first | (with_reducible first | exact HB.out | apply lA | apply lN | apply lD | refine lS ?_ GE199.out | refine lS ?_ GE200.out | refine lS ?_ GE201.out | refine lS ?_ GE207.out | refine lS ?_ GE212.out | refine lS ?_ GE217.out | refine lS ?_ GE222.out) | exact HB.out)))).mono ?_); rintro e w14 ⟨rfl, hb⟩; refine ⟨_, rfl, ?_⟩; have n_ := kB3 BK199 BK200 BK201 HB (by repeat first | exact lR _ _ | apply lN | apply lD | apply lA) hb; clear BK199 BK200 BK201 HB; obtain ⟨BK199, BK200, BK201, HB⟩ := n_; (try clear hb); (try clear hb2); (try clear hk); (try clear hi); have hnb15 := N0_.out; have hnc15 := N1_.out; have hnb16 := N2_.out; have hnc16 := N3_.out; have hcz17_0 : w14.cell? ⟨b199, 0, none⟩ = some (.int .i32 a0_0) := (bC BK199.out 0).trans rfl; have hcz17_1 : w14.cell? ⟨b199, 1, none⟩ = some (.int .i32 a0_1) := (bC BK199.out 1).trans rfl; have hcz17_2 : w14.cell? ⟨b199, 2, none⟩ = some (.int .i32 a0_2) := (bC BK199.out 2).trans rfl; have hcz17_3 : w14.cell? ⟨b199, 3, none⟩ = some (.int .i32 a0_3) := (bC BK199.out 3).trans rfl; have hfz17_0 := bF BK199.out 0; have hfz17_1 := bF BK199.out 1; have hfz17_2 := bF BK199.out 2; have hfz17_3 := bF BK199.out 3) | ((with_reducible refine gate_callee (f := 10) rfl ?_); refine goesL_ (some 15) rfl rfl Tryd.func10 (by kernel_rfl) rfl #[.agg #[.int .i32 a0_0, .int .i32 a0_1, .int .i32 a0_2, .int .i32 a0_3]] rfl (by (try simp only [List.map_toArray, List.map_cons, List.map_nil]); first | done | rfl | (simp only [List.length_drop, List.length_take]; rfl)) ?_; (with_reducible refine (billiardlaw08_forward.calls a0_0 a0_1 a0_2 a0_3 t203 t204 t205 t206 _ A6.out).mono ?_); rintro e w18 ⟨rfl, hb⟩; refine ⟨_, rfl, ?_⟩; have n_ := kB3 BK199 BK200 BK201 HB (by repeat first | exact lR _ _ | apply lN | apply lD | apply lA) hb; clear BK199 BK200 BK201 HB; obtain ⟨BK199, BK200, BK201, HB⟩ := n_; (try clear hb); (try clear hb2); (try clear hk); (try clear hi)) | ((with_reducible refine gate_dst (N := 7) rfl ?_); (try (refine gate_guard (by rfl) ?_; dsimp only)); refine box_event ?hg (N := 7) ?hd (cs := #[.int .i32 0, .int .i32 0, .int .i32 0, .int .i32 0]) (t := 31) ?hr ?_; (case hd => rfl); (case hg => rfl); (case hr => first | (go_simp; done) | (go_simp; rfl)); intro b207 hg w19 hbox hb; have n0_ := aM (bB (by (with_reducible repeat first | apply bN | apply bD | apply bA); exact BK199.out) hb); have n1_ := aM (bB (by (with_reducible repeat first | apply bN | apply bD | apply bA); exact BK200.out) hb); have n2_ := aM (bB (by (with_reducible repeat first | apply bN | apply bD | apply bA); exact BK201.out) hb); have n3_ := aM (lT (by repeat (first | (with_reducible first | exact HB.out | apply lA | apply lN | apply lD | refine lS ?_ GE199.out | refine lS ?_ GE200.out | refine lS ?_ GE201.out) | exact HB.out)) hb); have n4_ := aM (hbox); have n5_ := aM ((by rw [hg]; exact (lZ (by repeat (first | (with_reducible first | exact HB.out | apply lA | apply lN | apply lD | refine lS ?_ GE199.out | refine lS ?_ GE200.out | refine lS ?_ GE201.out) | exact HB.out))) : w.heap.size ≤ b207)); have n6_ := aM ((by rw [hg]; exact (lZ (by repeat (first | (with_reducible first | exact HB.out | apply lA | apply lN | apply lD | refine lS ?_ GE199.out | refine lS ?_ GE200.out | refine lS ?_ GE201.out) | exact HB.out))) : w.heap.size ≤ b207)); have n7_ := aM ((by rw [hg]; exact Nat.ne_of_lt (bL (g := b199) (by (with_reducible repeat first | apply bN | apply bD | apply bA); exact BK199.out)) : b199 ≠ b207)); have n8_ := aM ((by rw [hg]; exact Nat.ne_of_gt (bL (g := b199) (by (with_reducible repeat first | apply bN | apply bD | apply bA); exact BK199.out)) : b207 ≠ b199)); have n9_ := aM ((by rw [hg]; exact Nat.ne_of_lt (bL (g := b200) (by (with_reducible repeat first | apply bN | apply bD | apply bA); exact BK200.out)) : b200 ≠ b207)); have n10_ := aM ((by rw [hg]; exact Nat.ne_of_gt (bL (g := b200) (by (with_reducible repeat first | apply bN | apply bD | apply bA); exact BK200.out)) : b207 ≠ b200)); have n11_ := aM ((by rw [hg]; exact Nat.ne_of_lt (bL (g := b201) (by (with_reducible repeat first | apply bN | apply bD | apply bA); exact BK201.out)) : b201 ≠ b207)); have n12_ := aM ((by rw [hg]; exact Nat.ne_of_gt (bL (g := b201) (by (with_reducible repeat first | apply bN | apply bD | apply bA); exact BK201.out)) : b207 ≠ b201)); clear BK199; clear BK200; clear BK201; clear HB; have BK199 := n0_; have BK200 := n1_; have BK201 := n2_; have HB := n3_; have BK207 := n4_; have GW207 := n5_; have GE207 := n6_; have N6_ := n7_; have N7_ := n8_; have N8_ := n9_; have N9_ := n10_; have N10_ := n11_; have N11_ := n12_; clear n0_ n1_ n2_ n3_ n4_ n5_ n6_ n7_ n8_ n9_ n10_ n11_ n12_; clear hb hbox hg; have hnb20 := N7_.out; have hnc20 := N6_.out; have hnb21 := N9_.out; have hnc21 := N8_.out; have hnb22 := N11_.out; have hnc22 := N10_.out; have hcz23_0 : w19.cell? ⟨b207, 0, none⟩ = some (.int .i32 0) := (bC BK207.out 0).trans rfl; have hcz23_1 : w19.cell? ⟨b207, 1, none⟩ = some (.int .i32 0) := (bC BK207.out 1).trans rfl; have hcz23_2 : w19.cell? ⟨b207, 2, none⟩ = some (.int .i32 0) := (bC BK207.out 2).trans rfl; have hcz23_3 : w19.cell? ⟨b207, 3, none⟩ = some (.int .i32 0) := (bC BK207.out 3).trans rfl; have hfz23_0 := bF BK207.out 0; have hfz23_1 := bF BK207.out 1; have hfz23_2 := bF BK207.out 2; have hfz23_3 := bF BK207.out 3; have hnb24 := N4_.out; have hnc24 := N5_.out; have hcz25_0 : w19.cell? ⟨b200, 0, none⟩ = some (.int .i32 a1_0) := (bC BK200.out 0).trans rfl; have hcz25_1 : w19.cell? ⟨b200, 1, none⟩ = some (.int .i32 a1_1) := (bC BK200.out 1).trans rfl; have hcz25_2 : w19.cell? ⟨b200, 2, none⟩ = some (.int .i32 a1_2) := (bC BK200.out 2).trans rfl; have hcz25_3 : w19.cell? ⟨b200, 3, none⟩ = some (.int .i32 a1_3) := (bC BK200.out 3).trans rfl; have hfz25_0 := bF BK200.out 0; have hfz25_1 := bF BK200.out 1; have hfz25_2 := bF BK200.out 2; have hfz25_3 := bF BK200.out 3) | ((with_reducible refine gate_callee (f := 10) rfl ?_); refine goesL_ (some 17) rfl rfl Tryd.func10 (by kernel_rfl) rfl #[.agg #[.int .i32 a1_0, .int .i32 a1_1, .int .i32 a1_2, .int .i32 a1_3]] rfl (by (try simp only [List.map_toArray, List.map_cons, List.map_nil]); first | done | rfl | (simp only [List.length_drop, List.length_take]; rfl)) ?_; (with_reducible refine (billiardlaw08_forward.calls a1_0 a1_1 a1_2 a1_3 t208 t209 t210 t211 _ A7.out).mono ?_); rintro e w26 ⟨rfl, hb⟩; refine ⟨_, rfl, ?_⟩; have n0_ := aM (bB (g := b199) (o := .cells #[.int .i32 a0_0, .int .i32 a0_1, .int .i32 a0_2, .int .i32 a0_3] 28 (0, 0)) (by (with_reducible repeat first | apply bN | apply bD | apply bA); refine bR ?_ N6_.out _; (with_reducible repeat first | apply bN | apply bD | apply bA); refine bR ?_ N6_.out _; (with_reducible repeat first | apply bN | apply bD | apply bA); refine bR ?_ N6_.out _; (with_reducible repeat first | apply bN | apply bD | apply bA); refine bR ?_ N6_.out _; (with_reducible repeat first | apply bN | apply bD | apply bA); exact BK199.out) hb); have n1_ := aM (bB (g := b200) (o := .cells #[.int .i32 a1_0, .int .i32 a1_1, .int .i32 a1_2, .int .i32 a1_3] 28 (0, 0)) (by (with_reducible repeat first | apply bN | apply bD | apply bA); refine bR ?_ N8_.out _; (with_reducible repeat first | apply bN | apply bD | apply bA); refine bR ?_ N8_.out _; (with_reducible repeat first | apply bN | apply bD | apply bA); refine bR ?_ N8_.out _; (with_reducible repeat first | apply bN | apply bD | apply bA); refine bR ?_ N8_.out _; (with_reducible repeat first | apply bN | apply bD | apply bA); exact BK200.out) hb); have n2_ := aM (bB (g := b201) (o := .cells #[.int .i32 a2_0, .int .i32 a2_1] 24 (0, 0)) (by (with_reducible repeat first | apply bN | apply bD | apply bA); refine bR ?_ N10_.out _; (with_reducible repeat first | apply bN | apply bD | apply bA); refine bR ?_ N10_.out _; (with_reducible repeat first | apply bN | apply bD | apply bA); refine bR ?_ N10_.out _; (with_reducible repeat first | apply bN | apply bD | apply bA); refine bR ?_ N10_.out _; (with_reducible repeat first | apply bN | apply bD | apply bA); exact BK201.out) hb); have n3_ := aM (bB (g := b207) (o := .cells #[.int .i32 t203, .int .i32 t204, .int .i32 t205, .int .i32 t206] 31 (0, 0)) (by (with_reducible repeat first | apply bN | apply bD | apply bA); refine bP (cs := #[.int .i32 t203, .int .i32 t204, .int .i32 t205, .int .i32 0]) ?_ 3 _ rfl; (with_reducible repeat first | apply bN | apply bD | apply bA); refine bP (cs := #[.int .i32 t203, .int .i32 t204, .int .i32 0, .int .i32 0]) ?_ 2 _ rfl; (with_reducible repeat first | apply bN | apply bD | apply bA); refine bP (cs := #[.int .i32 t203, .int .i32 0, .int .i32 0, .int .i32 0]) ?_ 1 _ rfl; (with_reducible repeat first | apply bN | apply bD | apply bA); refine bP (cs := #[.int .i32 0, .int .i32 0, .int .i32 0, .int .i32 0]) ?_ 0 _ rfl; (with_reducible repeat first | apply bN | apply bD | apply bA); exact BK207.out) hb); have n4_ := aM (lT (by repeat (first | (with_reducible first | exact HB.out | apply lA | apply lN | apply lD | refine lS ?_ GE199.out | refine lS ?_ GE200.out | refine lS ?_ GE201.out | refine lS ?_ GE207.out) | exact HB.out)) hb); clear BK199; clear BK200; clear BK201; clear BK207; clear HB; have BK199 := n0_; have BK200 := n1_; have BK201 := n2_; have BK207 := n3_; have HB := n4_; clear n0_ n1_ n2_ n3_ n4_; (try clear hb); (try clear hb2); (try clear hk); (try clear hi)) | ((with_reducible refine gate_dst (N := 8) rfl ?_); (try (refine gate_guard (by rfl) ?_; dsimp only)); refine box_event ?hg (N := 8) ?hd (cs := #[.int .i32 0, .int .i32 0, .int .i32 0, .int .i32 0]) (t := 31) ?hr ?_; (case hd => rfl); (case hg => rfl); (case hr => first | (go_simp; done) | (go_simp; rfl)); intro b212 hg w27 hbox hb; have n0_ := aM (bB (by (with_reducible repeat first | apply bN | apply bD | apply bA); exact BK199.out) hb); have n1_ := aM (bB (by (with_reducible repeat first | apply bN | apply bD | apply bA); exact BK200.out) hb); have n2_ := aM (bB (by (with_reducible repeat first | apply bN | apply bD | apply bA); exact BK201.out) hb); have n3_ := aM (bB (by (with_reducible repeat first | apply bN | apply bD | apply bA); exact BK207.out) hb); have n4_ := aM (lT (by repeat (first | (with_reducible first | exact HB.out | apply lA | apply lN | apply lD | refine lS ?_ GE199.out | refine lS ?_ GE200.out | refine lS ?_ GE201.out | refine lS ?_ GE207.out) | exact HB.out)) hb); have n5_ := aM (hbox); have n6_ := aM ((by rw [hg]; exact (lZ (by repeat (first | (with_reducible first | exact HB.out | apply lA | apply lN | apply lD | refine lS ?_ GE199.out | refine lS ?_ GE200.out | refine lS ?_ GE201.out | refine lS ?_ GE207.out) | exact HB.out))) : w.heap.size ≤ b212)); have n7_ := aM ((by rw [hg]; exact (lZ (by repeat (first | (with_reducible first | exact HB.out | apply lA | apply lN | apply lD | refine lS ?_ GE199.out | refine lS ?_ GE200.out | refine lS ?_ GE201.out | refine lS ?_ GE207.out) | exact HB.out))) : w.heap.size ≤ b212)); have n8_ := aM ((by rw [hg]; exact Nat.ne_of_lt (bL (g := b199) (by (with_reducible repeat first | apply bN | apply bD | apply bA); exact BK199.out)) : b199 ≠ b212)); have n9_ := aM ((by rw [hg]; exact Nat.ne_of_gt (bL (g := b199) (by (with_reducible repeat first | apply bN | apply bD | apply bA); exact BK199.out)) : b212 ≠ b199)); have n10_ := aM ((by rw [hg]; exact Nat.ne_of_lt (bL (g := b200) (by (with_reducible repeat first | apply bN | apply bD | apply bA); exact BK200.out)) : b200 ≠ b212)); have n11_ := aM ((by rw [hg]; exact Nat.ne_of_gt (bL (g := b200) (by (with_reducible repeat first | apply bN | apply bD | apply bA); exact BK200.out)) : b212 ≠ b200)); have n12_ := aM ((by rw [hg]; exact Nat.ne_of_lt (bL (g := b201) (by (with_reducible repeat first | apply bN | apply bD | apply bA); exact BK201.out)) : b201 ≠ b212)); have n13_ := aM ((by rw [hg]; exact Nat.ne_of_gt (bL (g := b201) (by (with_reducible repeat first | apply bN | apply bD | apply bA); exact BK201.out)) : b212 ≠ b201)); have n14_ := aM ((by rw [hg]; exact Nat.ne_of_lt (bL (g := b207) (by (with_reducible repeat first | apply bN | apply bD | apply bA); exact BK207.out)) : b207 ≠ b212)); have n15_ := aM ((by rw [hg]; exact Nat.ne_of_gt (bL (g := b207) (by (with_reducible repeat first | apply bN | apply bD | apply bA); exact BK207.out)) : b212 ≠ b207)); clear BK199; clear BK200; clear BK201; clear BK207; clear HB; have BK199 := n0_; have BK200 := n1_; have BK201 := n2_; have BK207 := n3_; have HB := n4_; have BK212 := n5_; have GW212 := n6_; have GE212 := n7_; have N12_ := n8_; have N13_ := n9_; have N14_ := n10_; have N15_ := n11_; have N16_ := n12_; have N17_ := n13_; have N18_ := n14_; have N19_ := n15_; clear n0_ n1_ n2_ n3_ n4_ n5_ n6_ n7_ n8_ n9_ n10_ n11_ n12_ n13_ n14_ n15_; clear hb hbox hg; have hnb28 := N13_.out; have hnc28 := N12_.out; have hnb29 := N15_.out; have hnc29 := N14_.out; have hnb30 := N17_.out; have hnc30 := N16_.out; have hnb31 := N19_.out; have hnc31 := N18_.out; have hcz32_0 : w27.cell? ⟨b212, 0, none⟩ = some (.int .i32 0) := (bC BK212.out 0).trans rfl; have hcz32_1 : w27.cell? ⟨b212, 1, none⟩ = some (.int .i32 0) := (bC BK212.out 1).trans rfl; have hcz32_2 : w27.cell? ⟨b212, 2, none⟩ = some (.int .i32 0) := (bC BK212.out 2).trans rfl; have hcz32_3 : w27.cell? ⟨b212, 3, none⟩ = some (.int .i32 0) := (bC BK212.out 3).trans rfl; have hfz32_0 := bF BK212.out 0; have hfz32_1 := bF BK212.out 1; have hfz32_2 := bF BK212.out 2; have hfz32_3 := bF BK212.out 3; have hcz33_0 : w27.cell? ⟨b207, 0, none⟩ = some (.int .i32 t203) := (bC BK207.out 0).trans rfl; have hcz33_1 : w27.cell? ⟨b207, 1, none⟩ = some (.int .i32 t204) := (bC BK207.out 1).trans rfl; have hcz33_2 : w27.cell? ⟨b207, 2, none⟩ = some (.int .i32 t205) := (bC BK207.out 2).trans rfl; have hcz33_3 : w27.cell? ⟨b207, 3, none⟩ = some (.int .i32 t206) := (bC BK207.out 3).trans rfl; have hfz33_0 := bF BK207.out 0; have hfz33_1 := bF BK207.out 1; have hfz33_2 := bF BK207.out 2; have hfz33_3 := bF BK207.out 3) | ((with_reducible refine gate_callee (f := 18) rfl ?_); refine goesL_ (some 20) rfl rfl Tryd.func18 (by kernel_rfl) rfl #[.agg #[.int .i32 t203, .int .i32 t204, .int .i32 t205, .int .i32 t206], .agg #[.int .i32 t208, .int .i32 t209, .int .i32 t210, .int .i32 t211]] rfl (by (try simp only [List.map_toArray, List.map_cons, List.map_nil]); first | done | rfl | (simp only [List.length_drop, List.length_take]; rfl)) ?_; (with_reducible refine (box_Meet.calls t203 t204 t205 t206 t208 t209 t210 t211 t213 t214 t215 t216 _ A8.out (HGN.out.below (by repeat (first | (with_reducible first | exact HB.out | apply lA | apply lN | apply lD | refine lS ?_ GE199.out | refine lS ?_ GE200.out | refine lS ?_ GE201.out | refine lS ?_ GE207.out | refine lS ?_ GE212.out | refine lS ?_ GE217.out | refine lS ?_ GE222.out) | exact HB.out)))).mono ?_); rintro e w34 ⟨rfl, hb⟩; refine ⟨_, rfl, ?_⟩; have n0_ := aM (bB (g := b199) (o := .cells #[.int .i32 a0_0, .int .i32 a0_1, .int .i32 a0_2, .int .i32 a0_3] 28 (0, 0)) (by (with_reducible repeat first | apply bN | apply bD | apply bA); refine bR ?_ N12_.out _; (with_reducible repeat first | apply bN | apply bD | apply bA); refine bR ?_ N12_.out _; (with_reducible repeat first | apply bN | apply bD | apply bA); refine bR ?_ N12_.out _; (with_reducible repeat first | apply bN | apply bD | apply bA); refine bR ?_ N12_.out _; (with_reducible repeat first | apply bN | apply bD | apply bA); exact BK199.out) hb); have n1_ := aM (bB (g := b200) (o := .cells #[.int .i32 a1_0, .int .i32 a1_1, .int .i32 a1_2, .int .i32 a1_3] 28 (0, 0)) (by (with_reducible repeat first | apply bN | apply bD | apply bA); refine bR ?_ N14_.out _; (with_reducible repeat first | apply bN | apply bD | apply bA); refine bR ?_ N14_.out _; (with_reducible repeat first | apply bN | apply bD | apply bA); refine bR ?_ N14_.out _; (with_reducible repeat first | apply bN | apply bD | apply bA); refine bR ?_ N14_.out _; (with_reducible repeat first | apply bN | apply bD | apply bA); exact BK200.out) hb); have n2_ := aM (bB (g := b201) (o := .cells #[.int .i32 a2_0, .int .i32 a2_1] 24 (0, 0)) (by (with_reducible repeat first | apply bN | apply bD | apply bA); refine bR ?_ N16_.out _; (with_reducible repeat first | apply bN | apply bD | apply bA); refine bR ?_ N16_.out _; (with_reducible repeat first | apply bN | apply bD | apply bA); refine bR ?_ N16_.out _; (with_reducible repeat first | apply bN | apply bD | apply bA); refine bR ?_ N16_.out _; (with_reducible repeat first | apply bN | apply bD | apply bA); exact BK201.out) hb); have n3_ := aM (bB (g := b207) (o := .cells #[.int .i32 t203, .int .i32 t204, .int .i32 t205, .int .i32 t206] 31 (0, 0)) (by (with_reducible repeat first | apply bN | apply bD | apply bA); refine bR ?_ N18_.out _; (with_reducible repeat first | apply bN | apply bD | apply bA); refine bR ?_ N18_.out _; (with_reducible repeat first | apply bN | apply bD | apply bA); refine bR ?_ N18_.out _; (with_reducible repeat first | apply bN | apply bD | apply bA); refine bR ?_ N18_.out _; (with_reducible repeat first | apply bN | apply bD | apply bA); exact BK207.out) hb); have n4_ := aM (bB (g := b212) (o := .cells #[.int .i32 t208, .int .i32 t209, .int .i32 t210, .int .i32 t211] 31 (0, 0)) (by (with_reducible repeat first | apply bN | apply bD | apply bA); refine bP (cs := #[.int .i32 t208, .int .i32 t209, .int .i32 t210, .int .i32 0]) ?_ 3 _ rfl; (with_reducible repeat first | apply bN | apply bD | apply bA); refine bP (cs := #[.int .i32 t208, .int .i32 t209, .int .i32 0, .int .i32 0]) ?_ 2 _ rfl; (with_reducible repeat first | apply bN | apply bD | apply bA); refine bP (cs := #[.int .i32 t208, .int .i32 0, .int .i32 0, .int .i32 0]) ?_ 1 _ rfl; (with_reducible repeat first | apply bN | apply bD | apply bA); refine bP (cs := #[.int .i32 0, .int .i32 0, .int .i32 0, .int .i32 0]) ?_ 0 _ rfl; (with_reducible repeat first | apply bN | apply bD | apply bA); exact BK212.out) hb); have n5_ := aM (lT (by repeat (first | (with_reducible first | exact HB.out | apply lA | apply lN | apply lD | refine lS ?_ GE199.out | refine lS ?_ GE200.out | refine lS ?_ GE201.out | refine lS ?_ GE207.out | refine lS ?_ GE212.out) | exact HB.out)) hb); clear BK199; clear BK200; clear BK201; clear BK207; clear BK212; clear HB; have BK199 := n0_; have BK200 := n1_; have BK201 := n2_; have BK207 := n3_; have BK212 := n4_; have HB := n5_; clear n0_ n1_ n2_ n3_ n4_ n5_; (try clear hb); (try clear hb2); (try clear hk); (try clear hi)) | ((with_reducible refine gate_dst (N := 9) rfl ?_); (try (refine gate_guard (by rfl) ?_; dsimp only)); refine box_event ?hg (N := 9) ?hd (cs := #[.int .i32 0, .int .i32 0, .int .i32 0, .int .i32 0]) (t := 31) ?hr ?_; (case hd => rfl); (case hg => rfl); (case hr => first | (go_simp; done) | (go_simp; rfl)); intro b217 hg w35 hbox hb; have n0_ := aM (bB (by (with_reducible repeat first | apply bN | apply bD | apply bA); exact BK199.out) hb); have n1_ := aM (bB (by (with_reducible repeat first | apply bN | apply bD | apply bA); exact BK200.out) hb); have n2_ := aM (bB (by (with_reducible repeat first | apply bN | apply bD | apply bA); exact BK201.out) hb); have n3_ := aM (bB (by (with_reducible repeat first | apply bN | apply bD | apply bA); exact BK207.out) hb); have n4_ := aM (bB (by (with_reducible repeat first | apply bN | apply bD | apply bA); exact BK212.out) hb); have n5_ := aM (lT (by repeat (first | (with_reducible first | exact HB.out | apply lA | apply lN | apply lD | refine lS ?_ GE199.out | refine lS ?_ GE200.out | refine lS ?_ GE201.out | refine lS ?_ GE207.out | refine lS ?_ GE212.out) | exact HB.out)) hb); have n6_ := aM (hbox); have n7_ := aM ((by rw [hg]; exact (lZ (by repeat (first | (with_reducible first | exact HB.out | apply lA | apply lN | apply lD | refine lS ?_ GE199.out | refine lS ?_ GE200.out | refine lS ?_ GE201.out | refine lS ?_ GE207.out | refine lS ?_ GE212.out) | exact HB.out))) : w.heap.size ≤ b217)); have n8_ := aM ((by rw [hg]; exact (lZ (by repeat (first | (with_reducible first | exact HB.out | apply lA | apply lN | apply lD | refine lS ?_ GE199.out | refine lS ?_ GE200.out | refine lS ?_ GE201.out | refine lS ?_ GE207.out | refine lS ?_ GE212.out) | exact HB.out))) : w.heap.size ≤ b217)); have n9_ := aM ((by rw [hg]; exact Nat.ne_of_lt (bL (g := b199) (by (with_reducible repeat first | apply bN | apply bD | apply bA); exact BK199.out)) : b199 ≠ b217)); have n10_ := aM ((by rw [hg]; exact Nat.ne_of_gt (bL (g := b199) (by (with_reducible repeat first | apply bN | apply bD | apply bA); exact BK199.out)) : b217 ≠ b199)); have n11_ := aM ((by rw [hg]; exact Nat.ne_of_lt (bL (g := b200) (by (with_reducible repeat first | apply bN | apply bD | apply bA); exact BK200.out)) : b200 ≠ b217)); have n12_ := aM ((by rw [hg]; exact Nat.ne_of_gt (bL (g := b200) (by (with_reducible repeat first | apply bN | apply bD | apply bA); exact BK200.out)) : b217 ≠ b200)); have n13_ := aM ((by rw [hg]; exact Nat.ne_of_lt (bL (g := b201) (by (with_reducible repeat first | apply bN | apply bD | apply bA); exact BK201.out)) : b201 ≠ b217)); have n14_ := aM ((by rw [hg]; exact Nat.ne_of_gt (bL (g := b201) (by (with_reducible repeat first | apply bN | apply bD | apply bA); exact BK201.out)) : b217 ≠ b201)); have n15_ := aM ((by rw [hg]; exact Nat.ne_of_lt (bL (g := b207) (by (with_reducible repeat first | apply bN | apply bD | apply bA); exact BK207.out)) : b207 ≠ b217)); have n16_ := aM ((by rw [hg]; exact Nat.ne_of_gt (bL (g := b207) (by (with_reducible repeat first | apply bN | apply bD | apply bA); exact BK207.out)) : b217 ≠ b207)); have n17_ := aM ((by rw [hg]; exact Nat.ne_of_lt (bL (g := b212) (by (with_reducible repeat first | apply bN | apply bD | apply bA); exact BK212.out)) : b212 ≠ b217)); have n18_ := aM ((by rw [hg]; exact Nat.ne_of_gt (bL (g := b212) (by (with_reducible repeat first | apply bN | apply bD | apply bA); exact BK212.out)) : b217 ≠ b212)); clear BK199; clear BK200; clear BK201; clear BK207; clear BK212; clear HB; have BK199 := n0_; have BK200 := n1_; have BK201 := n2_; have BK207 := n3_; have BK212 := n4_; have HB := n5_; have BK217 := n6_; have GW217 := n7_; have GE217 := n8_; have N20_ := n9_; have N21_ := n10_; have N22_ := n11_; have N23_ := n12_; have N24_ := n13_; have N25_ := n14_; have N26_ := n15_; have N27_ := n16_; have N28_ := n17_; have N29_ := n18_; clear n0_ n1_ n2_ n3_ n4_ n5_ n6_ n7_ n8_ n9_ n10_ n11_ n12_ n13_ n14_ n15_ n16_ n17_ n18_; clear hb hbox hg; have hnb36 := N21_.out; have hnc36 := N20_.out; have hnb37 := N23_.out; have hnc37 := N22_.out; have hnb38 := N25_.out; have hnc38 := N24_.out; have hnb39 := N27_.out; have hnc39 := N26_.out; have hnb40 := N29_.out; have hnc40 := N28_.out; have hcz41_0 : w35.cell? ⟨b217, 0, none⟩ = some (.int .i32 0) := (bC BK217.out 0).trans rfl; have hcz41_1 : w35.cell? ⟨b217, 1, none⟩ = some (.int .i32 0) := (bC BK217.out 1).trans rfl; have hcz41_2 : w35.cell? ⟨b217, 2, none⟩ = some (.int .i32 0) := (bC BK217.out 2).trans rfl; have hcz41_3 : w35.cell? ⟨b217, 3, none⟩ = some (.int .i32 0) := (bC BK217.out 3).trans rfl; have hfz41_0 := bF BK217.out 0; have hfz41_1 := bF BK217.out 1; have hfz41_2 := bF BK217.out 2; have hfz41_3 := bF BK217.out 3; have hcz42_0 : w35.cell? ⟨b207, 0, none⟩ = some (.int .i32 t203) := (bC BK207.out 0).trans rfl; have hcz42_1 : w35.cell? ⟨b207, 1, none⟩ = some (.int .i32 t204) := (bC BK207.out 1).trans rfl; have hcz42_2 : w35.cell? ⟨b207, 2, none⟩ = some (.int .i32 t205) := (bC BK207.out 2).trans rfl; have hcz42_3 : w35.cell? ⟨b207, 3, none⟩ = some (.int .i32 t206) := (bC BK207.out 3).trans rfl; have hfz42_0 := bF BK207.out 0; have hfz42_1 := bF BK207.out 1; have hfz42_2 := bF BK207.out 2; have hfz42_3 := bF BK207.out 3; have hcz43_0 : w35.cell? ⟨b212, 0, none⟩ = some (.int .i32 t208) := (bC BK212.out 0).trans rfl; have hcz43_1 : w35.cell? ⟨b212, 1, none⟩ = some (.int .i32 t209) := (bC BK212.out 1).trans rfl; have hcz43_2 : w35.cell? ⟨b212, 2, none⟩ = some (.int .i32 t210) := (bC BK212.out 2).trans rfl; have hcz43_3 : w35.cell? ⟨b212, 3, none⟩ = some (.int .i32 t211) := (bC BK212.out 3).trans rfl; have hfz43_0 := bF BK212.out 0; have hfz43_1 := bF BK212.out 1; have hfz43_2 := bF BK212.out 2; have hfz43_3 := bF BK212.out 3) | ((with_reducible refine gate_callee (f := 19) rfl ?_); refine goesL_ (some 23) rfl rfl Tryd.func19 (by kernel_rfl) rfl #[.agg #[.int .i32 t203, .int .i32 t204, .int .i32 t205, .int .i32 t206], .agg #[.int .i32 t208, .int .i32 t209, .int .i32 t210, .int .i32 t211]] rfl (by (try simp only [List.map_toArray, List.map_cons, List.map_nil]); first | done | rfl | (simp only [List.length_drop, List.length_take]; rfl)) ?_; (with_reducible refine (box_Union.calls t203 t204 t205 t206 t208 t209 t210 t211 t218 t219 t220 t221 _ A9.out (HGN.out.below (by repeat (first | (with_reducible first | exact HB.out | apply lA | apply lN | apply lD | refine lS ?_ GE199.out | refine lS ?_ GE200.out | refine lS ?_ GE201.out | refine lS ?_ GE207.out | refine lS ?_ GE212.out | refine lS ?_ GE217.out | refine lS ?_ GE222.out) | exact HB.out)))).mono ?_); rintro e w44 ⟨rfl, hb⟩; refine ⟨_, rfl, ?_⟩; have n0_ := aM (bB (g := b199) (o := .cells #[.int .i32 a0_0, .int .i32 a0_1, .int .i32 a0_2, .int .i32 a0_3] 28 (0, 0)) (by (with_reducible repeat first | apply bN | apply bD | apply bA); refine bR ?_ N20_.out _; (with_reducible repeat first | apply bN | apply bD | apply bA); refine bR ?_ N20_.out _; (with_reducible repeat first | apply bN | apply bD | apply bA); refine bR ?_ N20_.out _; (with_reducible repeat first | apply bN | apply bD | apply bA); refine bR ?_ N20_.out _; (with_reducible repeat first | apply bN | apply bD | apply bA); exact BK199.out) hb); have n1_ := aM (bB (g := b200) (o := .cells #[.int .i32 a1_0, .int .i32 a1_1, .int .i32 a1_2, .int .i32 a1_3] 28 (0, 0)) (by (with_reducible repeat first | apply bN | apply bD | apply bA); refine bR ?_ N22_.out _; (with_reducible repeat first | apply bN | apply bD | apply bA); refine bR ?_ N22_.out _; (with_reducible repeat first | apply bN | apply bD | apply bA); refine bR ?_ N22_.out _; (with_reducible repeat first | apply bN | apply bD | apply bA); refine bR ?_ N22_.out _; (with_reducible repeat first | apply bN | apply bD | apply bA); exact BK200.out) hb); have n2_ := aM (bB (g := b201) (o := .cells #[.int .i32 a2_0, .int .i32 a2_1] 24 (0, 0)) (by (with_reducible repeat first | apply bN | apply bD | apply bA); refine bR ?_ N24_.out _; (with_reducible repeat first | apply bN | apply bD | apply bA); refine bR ?_ N24_.out _; (with_reducible repeat first | apply bN | apply bD | apply bA); refine bR ?_ N24_.out _; (with_reducible repeat first | apply bN | apply bD | apply bA); refine bR ?_ N24_.out _; (with_reducible repeat first | apply bN | apply bD | apply bA); exact BK201.out) hb); have n3_ := aM (bB (g := b207) (o := .cells #[.int .i32 t203, .int .i32 t204, .int .i32 t205, .int .i32 t206] 31 (0, 0)) (by (with_reducible repeat first | apply bN | apply bD | apply bA); refine bR ?_ N26_.out _; (with_reducible repeat first | apply bN | apply bD | apply bA); refine bR ?_ N26_.out _; (with_reducible repeat first | apply bN | apply bD | apply bA); refine bR ?_ N26_.out _; (with_reducible repeat first | apply bN | apply bD | apply bA); refine bR ?_ N26_.out _; (with_reducible repeat first | apply bN | apply bD | apply bA); exact BK207.out) hb); have n4_ := aM (bB (g := b212) (o := .cells #[.int .i32 t208, .int .i32 t209, .int .i32 t210, .int .i32 t211] 31 (0, 0)) (by (with_reducible repeat first | apply bN | apply bD | apply bA); refine bR ?_ N28_.out _; (with_reducible repeat first | apply bN | apply bD | apply bA); refine bR ?_ N28_.out _; (with_reducible repeat first | apply bN | apply bD | apply bA); refine bR ?_ N28_.out _; (with_reducible repeat first | apply bN | apply bD | apply bA); refine bR ?_ N28_.out _; (with_reducible repeat first | apply bN | apply bD | apply bA); exact BK212.out) hb); have n5_ := aM (bB (g := b217) (o := .cells #[.int .i32 t213, .int .i32 t214, .int .i32 t215, .int .i32 t216] 31 (0, 0)) (by (with_reducible repeat first | apply bN | apply bD | apply bA); refine bP (cs := #[.int .i32 t213, .int .i32 t214, .int .i32 t215, .int .i32 0]) ?_ 3 _ rfl; (with_reducible repeat first | apply bN | apply bD | apply bA); refine bP (cs := #[.int .i32 t213, .int .i32 t214, .int .i32 0, .int .i32 0]) ?_ 2 _ rfl; (with_reducible repeat first | apply bN | apply bD | apply bA); refine bP (cs := #[.int .i32 t213, .int .i32 0, .int .i32 0, .int .i32 0]) ?_ 1 _ rfl; (with_reducible repeat first | apply bN | apply bD | apply bA); refine bP (cs := #[.int .i32 0, .int .i32 0, .int .i32 0, .int .i32 0]) ?_ 0 _ rfl; (with_reducible repeat first | apply bN | apply bD | apply bA); exact BK217.out) hb); have n6_ := aM (lT (by repeat (first | (with_reducible first | exact HB.out | apply lA | apply lN | apply lD | refine lS ?_ GE199.out | refine lS ?_ GE200.out | refine lS ?_ GE201.out | refine lS ?_ GE207.out | refine lS ?_ GE212.out | refine lS ?_ GE217.out) | exact HB.out)) hb); clear BK199; clear BK200; clear BK201; clear BK207; clear BK212; clear BK217; clear HB; have BK199 := n0_; have BK200 := n1_; have BK201 := n2_; have BK207 := n3_; have BK212 := n4_; have BK217 := n5_; have HB := n6_; clear n0_ n1_ n2_ n3_ n4_ n5_ n6_; (try clear hb); (try clear hb2); (try clear hk); (try clear hi)) | ((with_reducible refine gate_dst (N := 10) rfl ?_); (try (refine gate_guard (by rfl) ?_; dsimp only)); refine box_event ?hg (N := 10) ?hd (cs := #[.int .i32 0, .int .i32 0, .int .i32 0, .int .i32 0]) (t := 31) ?hr ?_; (case hd => rfl); (case hg => rfl); (case hr => first | (go_simp; done) | (go_simp; rfl)); intro b222 hg w45 hbox hb; have n0_ := aM (bB (by (with_reducible repeat first | apply bN | apply bD | apply bA); exact BK199.out) hb); have n1_ := aM (bB (by (with_reducible repeat first | apply bN | apply bD | apply bA); exact BK200.out) hb); have n2_ := aM (bB (by (with_reducible repeat first | apply bN | apply bD | apply bA); exact BK201.out) hb); have n3_ := aM (bB (by (with_reducible repeat first | apply bN | apply bD | apply bA); exact BK207.out) hb); have n4_ := aM (bB (by (with_reducible repeat first | apply bN | apply bD | apply bA); exact BK212.out) hb); have n5_ := aM (bB (by (with_reducible repeat first | apply bN | apply bD | apply bA); exact BK217.out) hb); have n6_ := aM (lT (by repeat (first | (with_reducible first | exact HB.out | apply lA | apply lN | apply lD | refine lS ?_ GE199.out | refine lS ?_ GE200.out | refine lS ?_ GE201.out | refine lS ?_ GE207.out | refine lS ?_ GE212.out | refine lS ?_ GE217.out) | exact HB.out)) hb); have n7_ := aM (hbox); have n8_ := aM ((by rw [hg]; exact (lZ (by repeat (first | (with_reducible first | exact HB.out | apply lA | apply lN | apply lD | refine lS ?_ GE199.out | refine lS ?_ GE200.out | refine lS ?_ GE201.out | refine lS ?_ GE207.out | refine lS ?_ GE212.out | refine lS ?_ GE217.out) | exact HB.out))) : w.heap.size ≤ b222)); have n9_ := aM ((by rw [hg]; exact (lZ (by repeat (first | (with_reducible first | exact HB.out | apply lA | apply lN | apply lD | refine lS ?_ GE199.out | refine lS ?_ GE200.out | refine lS ?_ GE201.out | refine lS ?_ GE207.out | refine lS ?_ GE212.out | refine lS ?_ GE217.out) | exact HB.out))) : w.heap.size ≤ b222)); have n10_ := aM ((by rw [hg]; exact Nat.ne_of_lt (bL (g := b199) (by (with_reducible repeat first | apply bN | apply bD | apply bA); exact BK199.out)) : b199 ≠ b222)); have n11_ := aM ((by rw [hg]; exact Nat.ne_of_gt (bL (g := b199) (by (with_reducible repeat first | apply bN | apply bD | apply bA); exact BK199.out)) : b222 ≠ b199)); have n12_ := aM ((by rw [hg]; exact Nat.ne_of_lt (bL (g := b200) (by (with_reducible repeat first | apply bN | apply bD | apply bA); exact BK200.out)) : b200 ≠ b222)); have n13_ := aM ((by rw [hg]; exact Nat.ne_of_gt (bL (g := b200) (by (with_reducible repeat first | apply bN | apply bD | apply bA); exact BK200.out)) : b222 ≠ b200)); have n14_ := aM ((by rw [hg]; exact Nat.ne_of_lt (bL (g := b201) (by (with_reducible repeat first | apply bN | apply bD | apply bA); exact BK201.out)) : b201 ≠ b222)); have n15_ := aM ((by rw [hg]; exact Nat.ne_of_gt (bL (g := b201) (by (with_reducible repeat first | apply bN | apply bD | apply bA); exact BK201.out)) : b222 ≠ b201)); have n16_ := aM ((by rw [hg]; exact Nat.ne_of_lt (bL (g := b207) (by (with_reducible repeat first | apply bN | apply bD | apply bA); exact BK207.out)) : b207 ≠ b222)); have n17_ := aM ((by rw [hg]; exact Nat.ne_of_gt (bL (g := b207) (by (with_reducible repeat first | apply bN | apply bD | apply bA); exact BK207.out)) : b222 ≠ b207)); have n18_ := aM ((by rw [hg]; exact Nat.ne_of_lt (bL (g := b212) (by (with_reducible repeat first | apply bN | apply bD | apply bA); exact BK212.out)) : b212 ≠ b222)); have n19_ := aM ((by rw [hg]; exact Nat.ne_of_gt (bL (g := b212) (by (with_reducible repeat first | apply bN | apply bD | apply bA); exact BK212.out)) : b222 ≠ b212)); have n20_ := aM ((by rw [hg]; exact Nat.ne_of_lt (bL (g := b217) (by (with_reducible repeat first | apply bN | apply bD | apply bA); exact BK217.out)) : b217 ≠ b222)); have n21_ := aM ((by rw [hg]; exact Nat.ne_of_gt (bL (g := b217) (by (with_reducible repeat first | apply bN | apply bD | apply bA); exact BK217.out)) : b222 ≠ b217)); clear BK199; clear BK200; clear BK201; clear BK207; clear BK212; clear BK217; clear HB; have BK199 := n0_; have BK200 := n1_; have BK201 := n2_; have BK207 := n3_; have BK212 := n4_; have BK217 := n5_; have HB := n6_; have BK222 := n7_; have GW222 := n8_; have GE222 := n9_; have N30_ := n10_; have N31_ := n11_; have N32_ := n12_; have N33_ := n13_; have N34_ := n14_; have N35_ := n15_; have N36_ := n16_; have N37_ := n17_; have N38_ := n18_; have N39_ := n19_; have N40_ := n20_; have N41_ := n21_; clear n0_ n1_ n2_ n3_ n4_ n5_ n6_ n7_ n8_ n9_ n10_ n11_ n12_ n13_ n14_ n15_ n16_ n17_ n18_ n19_ n20_ n21_; clear hb hbox hg; have hnb46 := N31_.out; have hnc46 := N30_.out; have hnb47 := N33_.out; have hnc47 := N32_.out; have hnb48 := N35_.out; have hnc48 := N34_.out; have hnb49 := N37_.out; have hnc49 := N36_.out; have hnb50 := N39_.out; have hnc50 := N38_.out; have hnb51 := N41_.out; have hnc51 := N40_.out; have hcz52_0 : w45.cell? ⟨b222, 0, none⟩ = some (.int .i32 0) := (bC BK222.out 0).trans rfl; have hcz52_1 : w45.cell? ⟨b222, 1, none⟩ = some (.int .i32 0) := (bC BK222.out 1).trans rfl; have hcz52_2 : w45.cell? ⟨b222, 2, none⟩ = some (.int .i32 0) := (bC BK222.out 2).trans rfl; have hcz52_3 : w45.cell? ⟨b222, 3, none⟩ = some (.int .i32 0) := (bC BK222.out 3).trans rfl; have hfz52_0 := bF BK222.out 0; have hfz52_1 := bF BK222.out 1; have hfz52_2 := bF BK222.out 2; have hfz52_3 := bF BK222.out 3))
  (try simp only [Act.put, sA, sB, sC])
  go_cut [11] (fun v11 wc => ∃ (kq : Nat) (x11_9 : Bool), v11 = .bool x11_9 ∧ Aside0 (billiardlaw08_BoxMeets.j0 kq x11_9 a0_0 a0_1 a0_2 a0_3 a1_0 a1_1 a1_2 a1_3 a2_0 a2_1 t203 t204 t205 t206 t208 t209 t210 t211 t213 t214 t215 t216 t218 t219 t220 t221 = some r) ∧ Aside0 (kq ≤ k) ∧ Aside0 (wc.heap[b199]? = some (.cells #[.int .i32 a0_0, .int .i32 a0_1, .int .i32 a0_2, .int .i32 a0_3] 28 (0, 0))) ∧ Aside0 (wc.heap[b200]? = some (.cells #[.int .i32 a1_0, .int .i32 a1_1, .int .i32 a1_2, .int .i32 a1_3] 28 (0, 0))) ∧ Aside0 (wc.heap[b201]? = some (.cells #[.int .i32 a2_0, .int .i32 a2_1] 24 (0, 0))) ∧ Aside0 (wc.heap[b207]? = some (.cells #[.int .i32 t203, .int .i32 t204, .int .i32 t205, .int .i32 t206] 31 (0, 0))) ∧ Aside0 (wc.heap[b212]? = some (.cells #[.int .i32 t208, .int .i32 t209, .int .i32 t210, .int .i32 t211] 31 (0, 0))) ∧ Aside0 (wc.heap[b217]? = some (.cells #[.int .i32 t213, .int .i32 t214, .int .i32 t215, .int .i32 t216] 31 (0, 0))) ∧ Aside0 (wc.heap[b222]? = some (.cells #[.int .i32 t218, .int .i32 t219, .int .i32 t220, .int .i32 t221] 31 (0, 0))) ∧ Aside0 (Below w.heap.size w wc))
  case first =>
   have H := HC10.out
   clear HC10
   replace H := Option.bind_eq_some_iff.mp H
   obtain ⟨t223, A530, H⟩ := H
   try dsimp only at H
   have A53 := aM A530
   clear A530
   by_cases c54 : t223 = true
   ·subst c54
    rw [if_pos rfl] at H
    replace H := Option.bind_eq_some_iff.mp H
    obtain ⟨t224, A550, H⟩ := H
    try dsimp only at H
    have A55 := aM A550
    clear A550
    have H' := aM H
    clear H
    have hnb56 := N7_.out
    have hnc56 := N6_.out
    have hnb57 := N9_.out
    have hnc57 := N8_.out
    have hnb58 := N11_.out
    have hnc58 := N10_.out
    have hnb59 := N18_.out
    have hnc59 := N19_.out
    have hnb60 := N26_.out
    have hnc60 := N27_.out
    have hnb61 := N36_.out
    have hnc61 := N37_.out
    have hcz62_0 : w45.cell? ⟨b207, 0, none⟩ = some (.int .i32 t203) := (bC BK207.out 0).trans rfl
    have hcz62_1 : w45.cell? ⟨b207, 1, none⟩ = some (.int .i32 t204) := (bC BK207.out 1).trans rfl
    have hcz62_2 : w45.cell? ⟨b207, 2, none⟩ = some (.int .i32 t205) := (bC BK207.out 2).trans rfl
    have hcz62_3 : w45.cell? ⟨b207, 3, none⟩ = some (.int .i32 t206) := (bC BK207.out 3).trans rfl
    have hfz62_0 := bF BK207.out 0
    have hfz62_1 := bF BK207.out 1
    have hfz62_2 := bF BK207.out 2
    have hfz62_3 := bF BK207.out 3
    have hnb63 := N3_.out
    have hnc63 := N2_.out
    have hnb64 := N5_.out
    have hnc64 := N4_.out
    have hnb65 := N16_.out
    have hnc65 := N17_.out
    have hnb66 := N24_.out
    have hnc66 := N25_.out
    have hnb67 := N34_.out
    have hnc67 := N35_.out
    have hcz68_0 : w45.cell? ⟨b201, 0, none⟩ = some (.int .i32 a2_0) := (bC BK201.out 0).trans rfl
    have hcz68_1 : w45.cell? ⟨b201, 1, none⟩ = some (.int .i32 a2_1) := (bC BK201.out 1).trans rfl
    have hfz68_0 := bF BK201.out 0
    have hfz68_1 := bF BK201.out 1
    go_wp2_with (first | ((with_reducible refine gate_callee (f := 16) rfl ?_); refine goesL_ (some 26) rfl rfl Tryd.func16 (by kernel_rfl) rfl #[.agg #[.int .i32 t203, .int .i32 t204, .int .i32 t205, .int .i32 t206], .agg #[.int .i32 a2_0, .int .i32 a2_1]] rfl (by (try simp only [List.map_toArray, List.map_cons, List.map_nil]); first | done | rfl | (simp only [List.length_drop, List.length_take]; rfl)) ?_; (with_reducible refine (box_Contains.calls t203 t204 t205 t206 a2_0 a2_1 true _ A53.out).mono ?_); rintro e w69 ⟨rfl, hb⟩; refine ⟨_, rfl, ?_⟩; have n0_ := aM (bB (g := b199) (o := .cells #[.int .i32 a0_0, .int .i32 a0_1, .int .i32 a0_2, .int .i32 a0_3] 28 (0, 0)) (by (with_reducible repeat first | apply bN | apply bD | apply bA); refine bR ?_ N30_.out _; (with_reducible repeat first | apply bN | apply bD | apply bA); refine bR ?_ N30_.out _; (with_reducible repeat first | apply bN | apply bD | apply bA); refine bR ?_ N30_.out _; (with_reducible repeat first | apply bN | apply bD | apply bA); refine bR ?_ N30_.out _; (with_reducible repeat first | apply bN | apply bD | apply bA); exact BK199.out) hb); have n1_ := aM (bB (g := b200) (o := .cells #[.int .i32 a1_0, .int .i32 a1_1, .int .i32 a1_2, .int .i32 a1_3] 28 (0, 0)) (by (with_reducible repeat first | apply bN | apply bD | apply bA); refine bR ?_ N32_.out _; (with_reducible repeat first | apply bN | apply bD | apply bA); refine bR ?_ N32_.out _; (with_reducible repeat first | apply bN | apply bD | apply bA); refine bR ?_ N32_.out _; (with_reducible repeat first | apply bN | apply bD | apply bA); refine bR ?_ N32_.out _; (with_reducible repeat first | apply bN | apply bD | apply bA); exact BK200.out) hb); have n2_ := aM (bB (g := b201) (o := .cells #[.int .i32 a2_0, .int .i32 a2_1] 24 (0, 0)) (by (with_reducible repeat first | apply bN | apply bD | apply bA); refine bR ?_ N34_.out _; (with_reducible repeat first | apply bN | apply bD | apply bA); refine bR ?_ N34_.out _; (with_reducible repeat first | apply bN | apply bD | apply bA); refine bR ?_ N34_.out _; (with_reducible repeat first | apply bN | apply bD | apply bA); refine bR ?_ N34_.out _; (with_reducible repeat first | apply bN | apply bD | apply bA); exact BK201.out) hb); have n3_ := aM (bB (g := b207) (o := .cells #[.int .i32 t203, .int .i32 t204, .int .i32 t205, .int .i32 t206] 31 (0, 0)) (by (with_reducible repeat first | apply bN | apply bD | apply bA); refine bR ?_ N36_.out _; (with_reducible repeat first | apply bN | apply bD | apply bA); refine bR ?_ N36_.out _; (with_reducible repeat first | apply bN | apply bD | apply bA); refine bR ?_ N36_.out _; (with_reducible repeat first | apply bN | apply bD | apply bA); refine bR ?_ N36_.out _; (with_reducible repeat first | apply bN | apply bD | apply bA); exact BK207.out) hb); have n4_ := aM (bB (g := b212) (o := .cells #[.int .i32 t208, .int .i32 t209, .int .i32 t210, .int .i32 t211] 31 (0, 0)) (by (with_reducible repeat first | apply bN | apply bD | apply bA); refine bR ?_ N38_.out _; (with_reducible repeat first | apply bN | apply bD | apply bA); refine bR ?_ N38_.out _; (with_reducible repeat first | apply bN | apply bD | apply bA); refine bR ?_ N38_.out _; (with_reducible repeat first | apply bN | apply bD | apply bA); refine bR ?_ N38_.out _; (with_reducible repeat first | apply bN | apply bD | apply bA); exact BK212.out) hb); have n5_ := aM (bB (g := b217) (o := .cells #[.int .i32 t213, .int .i32 t214, .int .i32 t215, .int .i32 t216] 31 (0, 0)) (by (with_reducible repeat first | apply bN | apply bD | apply bA); refine bR ?_ N40_.out _; (with_reducible repeat first | apply bN | apply bD | apply bA); refine bR ?_ N40_.out _; (with_reducible repeat first | apply bN | apply bD | apply bA); refine bR ?_ N40_.out _; (with_reducible repeat first | apply bN | apply bD | apply bA); refine bR ?_ N40_.out _; (with_reducible repeat first | apply bN | apply bD | apply bA); exact BK217.out) hb); have n6_ := aM (bB (g := b222) (o := .cells #[.int .i32 t218, .int .i32 t219, .int .i32 t220, .int .i32 t221] 31 (0, 0)) (by (with_reducible repeat first | apply bN | apply bD | apply bA); refine bP (cs := #[.int .i32 t218, .int .i32 t219, .int .i32 t220, .int .i32 0]) ?_ 3 _ rfl; (with_reducible repeat first | apply bN | apply bD | apply bA); refine bP (cs := #[.int .i32 t218, .int .i32 t219, .int .i32 0, .int .i32 0]) ?_ 2 _ rfl; (with_reducible repeat first | apply bN | apply bD | apply bA); refine bP (cs := #[.int .i32 t218, .int .i32 0, .int .i32 0, .int .i32 0]) ?_ 1 _ rfl; (with_reducible repeat first | apply bN | apply bD | apply bA); refine bP (cs := #[.int .i32 0, .int .i32 0, .int .i32 0, .int .i32 0]) ?_ 0 _ rfl; (with_reducible repeat first | apply bN | apply bD | apply bA); exact BK222.out) hb); have n7_ := aM (lT (by repeat (first | (with_reducible first | exact HB.out | apply lA | apply lN | apply lD | refine lS ?_ GE199.out | refine lS ?_ GE200.out | refine lS ?_ GE201.out | refine lS ?_ GE207.out | refine lS ?_ GE212.out | refine lS ?_ GE217.out | refine lS ?_ GE222.out) | exact HB.out)) hb); clear BK199; clear BK200; clear BK201; clear BK207; clear BK212; clear BK217; clear BK222; clear HB; have BK199 := n0_; have BK200 := n1_; have BK201 := n2_; have BK207 := n3_; have BK212 := n4_; have BK217 := n5_; have BK222 := n6_; have HB := n7_; clear n0_ n1_ n2_ n3_ n4_ n5_ n6_ n7_; (try clear hb); (try clear hb2); (try clear hk); (try clear hi); have hnb70 := N13_.out; have hnc70 := N12_.out; have hnb71 := N15_.out; have hnc71 := N14_.out; have hnb72 := N28_.out; have hnc72 := N29_.out; have hnb73 := N38_.out; have hnc73 := N39_.out; have hcz74_0 : w69.cell? ⟨b212, 0, none⟩ = some (.int .i32 t208) := (bC BK212.out 0).trans rfl; have hcz74_1 : w69.cell? ⟨b212, 1, none⟩ = some (.int .i32 t209) := (bC BK212.out 1).trans rfl; have hcz74_2 : w69.cell? ⟨b212, 2, none⟩ = some (.int .i32 t210) := (bC BK212.out 2).trans rfl; have hcz74_3 : w69.cell? ⟨b212, 3, none⟩ = some (.int .i32 t211) := (bC BK212.out 3).trans rfl; have hfz74_0 := bF BK212.out 0; have hfz74_1 := bF BK212.out 1; have hfz74_2 := bF BK212.out 2; have hfz74_3 := bF BK212.out 3; have hcz75_0 : w69.cell? ⟨b201, 0, none⟩ = some (.int .i32 a2_0) := (bC BK201.out 0).trans rfl; have hcz75_1 : w69.cell? ⟨b201, 1, none⟩ = some (.int .i32 a2_1) := (bC BK201.out 1).trans rfl; have hfz75_0 := bF BK201.out 0; have hfz75_1 := bF BK201.out 1) | (go_at_call 16; (with_reducible refine (box_Contains.calls t208 t209 t210 t211 a2_0 a2_1 t224 _ A55.out).mono ?_); rintro e w76 ⟨rfl, hb⟩; have n_ := kB7 BK199 BK200 BK201 BK207 BK212 BK217 BK222 HB (by repeat first | exact lR _ _ | apply lN | apply lD | apply lA) hb; clear BK199 BK200 BK201 BK207 BK212 BK217 BK222 HB; obtain ⟨BK199, BK200, BK201, BK207, BK212, BK217, BK222, HB⟩ := n_; (try clear hb); (try clear hb2); (try clear hk); (try clear hi)))
    go_meet
    case rel => exact ⟨_, (t224), (by first | rfl | (simp; done) | (simp [*]; done)), H', ⟨by first | omega | exact Nat.le_refl _⟩, ⟨by (with_reducible repeat first | apply bN | apply bD | apply bA); exact BK199.out⟩, ⟨by (with_reducible repeat first | apply bN | apply bD | apply bA); exact BK200.out⟩, ⟨by (with_reducible repeat first | apply bN | apply bD | apply bA); exact BK201.out⟩, ⟨by (with_reducible repeat first | apply bN | apply bD | apply bA); exact BK207.out⟩, ⟨by (with_reducible repeat first | apply bN | apply bD | apply bA); exact BK212.out⟩, ⟨by (with_reducible repeat first | apply bN | apply bD | apply bA); exact BK217.out⟩, ⟨by (with_reducible repeat first | apply bN | apply bD | apply bA); exact BK222.out⟩, ⟨by repeat (first | (with_reducible first | exact HB.out | apply lA | apply lN | apply lD | refine lS ?_ GE199.out | refine lS ?_ GE200.out | refine lS ?_ GE201.out | refine lS ?_ GE207.out | refine lS ?_ GE212.out | refine lS ?_ GE217.out | refine lS ?_ GE222.out) | exact HB.out)⟩⟩
   ·replace c54 := Bool.eq_false_iff.mpr c54
    subst c54
    rw [if_neg (show ¬ (false = true) by decide)] at H
    have H' := aM H
    clear H
    have hnb77 := N7_.out
    have hnc77 := N6_.out
    have hnb78 := N9_.out
    have hnc78 := N8_.out
    have hnb79 := N11_.out
    have hnc79 := N10_.out
    have hnb80 := N18_.out
    have hnc80 := N19_.out
    have hnb81 := N26_.out
    have hnc81 := N27_.out
    have hnb82 := N36_.out
    have hnc82 := N37_.out
    have hcz83_0 : w45.cell? ⟨b207, 0, none⟩ = some (.int .i32 t203) := (bC BK207.out 0).trans rfl
    have hcz83_1 : w45.cell? ⟨b207, 1, none⟩ = some (.int .i32 t204) := (bC BK207.out 1).trans rfl
    have hcz83_2 : w45.cell? ⟨b207, 2, none⟩ = some (.int .i32 t205) := (bC BK207.out 2).trans rfl
    have hcz83_3 : w45.cell? ⟨b207, 3, none⟩ = some (.int .i32 t206) := (bC BK207.out 3).trans rfl
    have hfz83_0 := bF BK207.out 0
    have hfz83_1 := bF BK207.out 1
    have hfz83_2 := bF BK207.out 2
    have hfz83_3 := bF BK207.out 3
    have hnb84 := N3_.out
    have hnc84 := N2_.out
    have hnb85 := N5_.out
    have hnc85 := N4_.out
    have hnb86 := N16_.out
    have hnc86 := N17_.out
    have hnb87 := N24_.out
    have hnc87 := N25_.out
    have hnb88 := N34_.out
    have hnc88 := N35_.out
    have hcz89_0 : w45.cell? ⟨b201, 0, none⟩ = some (.int .i32 a2_0) := (bC BK201.out 0).trans rfl
    have hcz89_1 : w45.cell? ⟨b201, 1, none⟩ = some (.int .i32 a2_1) := (bC BK201.out 1).trans rfl
    have hfz89_0 := bF BK201.out 0
    have hfz89_1 := bF BK201.out 1
    go_wp2_with (first | ((with_reducible refine gate_callee (f := 16) rfl ?_); refine goesL_ (some 26) rfl rfl Tryd.func16 (by kernel_rfl) rfl #[.agg #[.int .i32 t203, .int .i32 t204, .int .i32 t205, .int .i32 t206], .agg #[.int .i32 a2_0, .int .i32 a2_1]] rfl (by (try simp only [List.map_toArray, List.map_cons, List.map_nil]); first | done | rfl | (simp only [List.length_drop, List.length_take]; rfl)) ?_; (with_reducible refine (box_Contains.calls t203 t204 t205 t206 a2_0 a2_1 false _ A53.out).mono ?_); rintro e w90 ⟨rfl, hb⟩; refine ⟨_, rfl, ?_⟩; have n0_ := aM (bB (g := b199) (o := .cells #[.int .i32 a0_0, .int .i32 a0_1, .int .i32 a0_2, .int .i32 a0_3] 28 (0, 0)) (by (with_reducible repeat first | apply bN | apply bD | apply bA); refine bR ?_ N30_.out _; (with_reducible repeat first | apply bN | apply bD | apply bA); refine bR ?_ N30_.out _; (with_reducible repeat first | apply bN | apply bD | apply bA); refine bR ?_ N30_.out _; (with_reducible repeat first | apply bN | apply bD | apply bA); refine bR ?_ N30_.out _; (with_reducible repeat first | apply bN | apply bD | apply bA); exact BK199.out) hb); have n1_ := aM (bB (g := b200) (o := .cells #[.int .i32 a1_0, .int .i32 a1_1, .int .i32 a1_2, .int .i32 a1_3] 28 (0, 0)) (by (with_reducible repeat first | apply bN | apply bD | apply bA); refine bR ?_ N32_.out _; (with_reducible repeat first | apply bN | apply bD | apply bA); refine bR ?_ N32_.out _; (with_reducible repeat first | apply bN | apply bD | apply bA); refine bR ?_ N32_.out _; (with_reducible repeat first | apply bN | apply bD | apply bA); refine bR ?_ N32_.out _; (with_reducible repeat first | apply bN | apply bD | apply bA); exact BK200.out) hb); have n2_ := aM (bB (g := b201) (o := .cells #[.int .i32 a2_0, .int .i32 a2_1] 24 (0, 0)) (by (with_reducible repeat first | apply bN | apply bD | apply bA); refine bR ?_ N34_.out _; (with_reducible repeat first | apply bN | apply bD | apply bA); refine bR ?_ N34_.out _; (with_reducible repeat first | apply bN | apply bD | apply bA); refine bR ?_ N34_.out _; (with_reducible repeat first | apply bN | apply bD | apply bA); refine bR ?_ N34_.out _; (with_reducible repeat first | apply bN | apply bD | apply bA); exact BK201.out) hb); have n3_ := aM (bB (g := b207) (o := .cells #[.int .i32 t203, .int .i32 t204, .int .i32 t205, .int .i32 t206] 31 (0, 0)) (by (with_reducible repeat first | apply bN | apply bD | apply bA); refine bR ?_ N36_.out _; (with_reducible repeat first | apply bN | apply bD | apply bA); refine bR ?_ N36_.out _; (with_reducible repeat first | apply bN | apply bD | apply bA); refine bR ?_ N36_.out _; (with_reducible repeat first | apply bN | apply bD | apply bA); refine bR ?_ N36_.out _; (with_reducible repeat first | apply bN | apply bD | apply bA); exact BK207.out) hb); have n4_ := aM (bB (g := b212) (o := .cells #[.int .i32 t208, .int .i32 t209, .int .i32 t210, .int .i32 t211] 31 (0, 0)) (by (with_reducible repeat first | apply bN | apply bD | apply bA); refine bR ?_ N38_.out _; (with_reducible repeat first | apply bN | apply bD | apply bA); refine bR ?_ N38_.out _; (with_reducible repeat first | apply bN | apply bD | apply bA); refine bR ?_ N38_.out _; (with_reducible repeat first | apply bN | apply bD | apply bA); refine bR ?_ N38_.out _; (with_reducible repeat first | apply bN | apply bD | apply bA); exact BK212.out) hb); have n5_ := aM (bB (g := b217) (o := .cells #[.int .i32 t213, .int .i32 t214, .int .i32 t215, .int .i32 t216] 31 (0, 0)) (by (with_reducible repeat first | apply bN | apply bD | apply bA); refine bR ?_ N40_.out _; (with_reducible repeat first | apply bN | apply bD | apply bA); refine bR ?_ N40_.out _; (with_reducible repeat first | apply bN | apply bD | apply bA); refine bR ?_ N40_.out _; (with_reducible repeat first | apply bN | apply bD | apply bA); refine bR ?_ N40_.out _; (with_reducible repeat first | apply bN | apply bD | apply bA); exact BK217.out) hb); have n6_ := aM (bB (g := b222) (o := .cells #[.int .i32 t218, .int .i32 t219, .int .i32 t220, .int .i32 t221] 31 (0, 0)) (by (with_reducible repeat first | apply bN | apply bD | apply bA); refine bP (cs := #[.int .i32 t218, .int .i32 t219, .int .i32 t220, .int .i32 0]) ?_ 3 _ rfl; (with_reducible repeat first | apply bN | apply bD | apply bA); refine bP (cs := #[.int .i32 t218, .int .i32 t219, .int .i32 0, .int .i32 0]) ?_ 2 _ rfl; (with_reducible repeat first | apply bN | apply bD | apply bA); refine bP (cs := #[.int .i32 t218, .int .i32 0, .int .i32 0, .int .i32 0]) ?_ 1 _ rfl; (with_reducible repeat first | apply bN | apply bD | apply bA); refine bP (cs := #[.int .i32 0, .int .i32 0, .int .i32 0, .int .i32 0]) ?_ 0 _ rfl; (with_reducible repeat first | apply bN | apply bD | apply bA); exact BK222.out) hb); have n7_ := aM (lT (by repeat (first | (with_reducible first | exact HB.out | apply lA | apply lN | apply lD | refine lS ?_ GE199.out | refine lS ?_ GE200.out | refine lS ?_ GE201.out | refine lS ?_ GE207.out | refine lS ?_ GE212.out | refine lS ?_ GE217.out | refine lS ?_ GE222.out) | exact HB.out)) hb); clear BK199; clear BK200; clear BK201; clear BK207; clear BK212; clear BK217; clear BK222; clear HB; have BK199 := n0_; have BK200 := n1_; have BK201 := n2_; have BK207 := n3_; have BK212 := n4_; have BK217 := n5_; have BK222 := n6_; have HB := n7_; clear n0_ n1_ n2_ n3_ n4_ n5_ n6_ n7_; (try clear hb); (try clear hb2); (try clear hk); (try clear hi)))
    go_meet
    case rel => exact ⟨_, (false), (by first | rfl | (simp; done) | (simp [*]; done)), H', ⟨by first | omega | exact Nat.le_refl _⟩, ⟨by (with_reducible repeat first | apply bN | apply bD | apply bA); exact BK199.out⟩, ⟨by (with_reducible repeat first | apply bN | apply bD | apply bA); exact BK200.out⟩, ⟨by (with_reducible repeat first | apply bN | apply bD | apply bA); exact BK201.out⟩, ⟨by (with_reducible repeat first | apply bN | apply bD | apply bA); exact BK207.out⟩, ⟨by (with_reducible repeat first | apply bN | apply bD | apply bA); exact BK212.out⟩, ⟨by (with_reducible repeat first | apply bN | apply bD | apply bA); exact BK217.out⟩, ⟨by (with_reducible repeat first | apply bN | apply bD | apply bA); exact BK222.out⟩, ⟨by repeat (first | (with_reducible first | exact HB.out | apply lA | apply lN | apply lD | refine lS ?_ GE199.out | refine lS ?_ GE200.out | refine lS ?_ GE201.out | refine lS ?_ GE207.out | refine lS ?_ GE212.out | refine lS ?_ GE217.out | refine lS ?_ GE222.out) | exact HB.out)⟩⟩
  case rest =>
   clear HC10
   try clear c1
   try clear c2
   try clear p2
   try clear c3
   try clear c4
   try clear c5
   try clear c6
   try clear c7
   try clear c8
   try clear c10
   try clear c15
   try clear c16
   try clear c18
   try clear c19
   try clear c20
   try clear c21
   try clear c22
   try clear c24
   try clear c28
   try clear c29
   try clear c30
   try clear c31
   try clear c36
   try clear c37
   try clear c38
   try clear c39
   try clear c40
   try clear c46
   try clear c47
   try clear c48
   try clear c49
   try clear c50
   try clear c51
   try clear c54
   try clear c56
   try clear c57
   try clear c58
   try clear c59
   try clear c60
   try clear c61
   try clear c63
   try clear c64
   try clear c65
   try clear c66
   try clear c67
   try clear c70
   try clear c71
   try clear c72
   try clear c73
   try clear c77
   try clear c78
   try clear c79
   try clear c80
   try clear c81
   try clear c82
   try clear c84
   try clear c85
   try clear c86
   try clear c87
   try clear c88
   try clear hcz17_0
   try clear hcz17_1
   try clear hcz17_2
   try clear hcz17_3
   try clear hcz23_0
   try clear hcz23_1
   try clear hcz23_2
   try clear hcz23_3
   try clear hcz25_0
   try clear hcz25_1
   try clear hcz25_2
   try clear hcz25_3
   try clear hcz32_0
   try clear hcz32_1
   try clear hcz32_2
   try clear hcz32_3
   try clear hcz33_0
   try clear hcz33_1
   try clear hcz33_2
   try clear hcz33_3
   try clear hcz41_0
   try clear hcz41_1
   try clear hcz41_2
   try clear hcz41_3
   try clear hcz42_0
   try clear hcz42_1
   try clear hcz42_2
   try clear hcz42_3
   try clear hcz43_0
   try clear hcz43_1
   try clear hcz43_2
   try clear hcz43_3
   try clear hcz52_0
   try clear hcz52_1
   try clear hcz52_2
   try clear hcz52_3
   try clear hcz62_0
   try clear hcz62_1
   try clear hcz62_2
   try clear hcz62_3
   try clear hcz68_0
   try clear hcz68_1
   try clear hcz74_0
   try clear hcz74_1
   try clear hcz74_2
   try clear hcz74_3
   try clear hcz75_0
   try clear hcz75_1
   try clear hcz83_0
   try clear hcz83_1
   try clear hcz83_2
   try clear hcz83_3
   try clear hcz89_0
   try clear hcz89_1
   try clear hfz17_0
   try clear hfz17_1
   try clear hfz17_2
   try clear hfz17_3
   try clear hfz23_0
   try clear hfz23_1
   try clear hfz23_2
   try clear hfz23_3
   try clear hfz25_0
   try clear hfz25_1
   try clear hfz25_2
   try clear hfz25_3
   try clear hfz32_0
   try clear hfz32_1
   try clear hfz32_2
   try clear hfz32_3
   try clear hfz33_0
   try clear hfz33_1
   try clear hfz33_2
   try clear hfz33_3
   try clear hfz41_0
   try clear hfz41_1
   try clear hfz41_2
   try clear hfz41_3
   try clear hfz42_0
   try clear hfz42_1
   try clear hfz42_2
   try clear hfz42_3
   try clear hfz43_0
   try clear hfz43_1
   try clear hfz43_2
   try clear hfz43_3
   try clear hfz52_0
   try clear hfz52_1
   try clear hfz52_2
   try clear hfz52_3
   try clear hfz62_0
   try clear hfz62_1
   try clear hfz62_2
   try clear hfz62_3
   try clear hfz68_0
   try clear hfz68_1
   try clear hfz74_0
   try clear hfz74_1
   try clear hfz74_2
   try clear hfz74_3
   try clear hfz75_0
   try clear hfz75_1
   try clear hfz83_0
   try clear hfz83_1
   try clear hfz83_2
   try clear hfz83_3
   try clear hfz89_0
   try clear hfz89_1
   obtain ⟨kq, x11_9, rfl, HA, HJ9, BK199, BK200, BK201, BK207, BK212, BK217, BK222, HB⟩ := hcut
   cases kq with
   | zero => exact absurd HA.out (by simp [billiardlaw08_BoxMeets.j0])
   | succ kj9 =>
    have H := HA.out
    clear HA
    simp only [billiardlaw08_BoxMeets.j0] at H
    have HC91 := aM H
    clear H
    go_upto_region 8 with (fail)
    go_cut [60] (fun v60 wc => ∃ (kq : Nat) (x60_90 : Bool), v60 = .bool x60_90 ∧ Aside0 (billiardlaw08_BoxMeets.j1 kq x60_90 a0_0 a0_1 a0_2 a0_3 a1_0 a1_1 a1_2 a1_3 t203 t204 t205 t206 t208 t209 t210 t211 t213 t214 t215 t216 t218 t219 t220 t221 = some r) ∧ Aside0 (kq ≤ kj9) ∧ Aside0 (wc.heap[b199]? = some (.cells #[.int .i32 a0_0, .int .i32 a0_1, .int .i32 a0_2, .int .i32 a0_3] 28 (0, 0))) ∧ Aside0 (wc.heap[b200]? = some (.cells #[.int .i32 a1_0, .int .i32 a1_1, .int .i32 a1_2, .int .i32 a1_3] 28 (0, 0))) ∧ Aside0 (wc.heap[b201]? = some (.cells #[.int .i32 a2_0, .int .i32 a2_1] 24 (0, 0))) ∧ Aside0 (wc.heap[b207]? = some (.cells #[.int .i32 t203, .int .i32 t204, .int .i32 t205, .int .i32 t206] 31 (0, 0))) ∧ Aside0 (wc.heap[b212]? = some (.cells #[.int .i32 t208, .int .i32 t209, .int .i32 t210, .int .i32 t211] 31 (0, 0))) ∧ Aside0 (wc.heap[b217]? = some (.cells #[.int .i32 t213, .int .i32 t214, .int .i32 t215, .int .i32 t216] 31 (0, 0))) ∧ Aside0 (wc.heap[b222]? = some (.cells #[.int .i32 t218, .int .i32 t219, .int .i32 t220, .int .i32 t221] 31 (0, 0))) ∧ Aside0 (Below w.heap.size w wc))
    case first =>
     have H := HC91.out
     clear HC91
     replace H := Option.bind_eq_some_iff.mp H
     obtain ⟨t225, A920, H⟩ := H
     try dsimp only at H
     have A92 := aM A920
     clear A920
     by_cases c93 : (t225 != x11_9) = true
     ·rw [if_pos c93] at H
      exact (billiardlaw08_BoxMeets.j1.dead H HR.out).elim
     ·rw [if_neg c93] at H
      have c93b0 : (t225 != x11_9) = false := by simpa using c93
      (try (have c93b1 : decide (t225 = x11_9) = true := by simpa using c93))
      (try (have c93b2 : (t225 == x11_9) = true := by simpa using c93))
      clear c93
      (first | rw [c93b0] | (simp only [i64_w, i32_w]; rw [c93b0]) | skip)
      replace H := Option.bind_eq_some_iff.mp H
      obtain ⟨t226, A960, H⟩ := H
      try dsimp only at H
      have A96 := aM A960
      clear A960
      by_cases c97 : t226 = true
      ·subst c97
       rw [if_pos rfl] at H
       replace H := Option.bind_eq_some_iff.mp H
       obtain ⟨t227, A980, H⟩ := H
       try dsimp only at H
       have A98 := aM A980
       clear A980
       by_cases c99 : t227 = true
       ·subst c99
        rw [if_pos rfl] at H
        replace H := Option.bind_eq_some_iff.mp H
        obtain ⟨t228, A1000, H⟩ := H
        try dsimp only at H
        have A100 := aM A1000
        clear A1000
        replace H := Option.bind_eq_some_iff.mp H
        obtain ⟨t229, A1010, H⟩ := H
        try dsimp only at H
        have A101 := aM A1010
        clear A1010
        have H' := aM H
        clear H
        try go_wp2
        have n_ := kA7 BK199 BK200 BK201 BK207 BK212 BK217 BK222 HB (lD (lR _ _))
        clear BK199 BK200 BK201 BK207 BK212 BK217 BK222 HB
        obtain ⟨BK199, BK200, BK201, BK207, BK212, BK217, BK222, HB⟩ := n_
        refine start_ (n := 29) (S := fun w' => w'.cell? ⟨b217, 0, none⟩ = some (.int .i32 t213) ∧ w'.cell? ⟨b217, 1, none⟩ = some (.int .i32 t214) ∧ w'.cell? ⟨b217, 2, none⟩ = some (.int .i32 t215) ∧ w'.cell? ⟨b217, 3, none⟩ = some (.int .i32 t216) ∧ w'.cell? ⟨b201, 0, none⟩ = some (.int .i32 a2_0) ∧ w'.cell? ⟨b201, 1, none⟩ = some (.int .i32 a2_1) ∧ w'.cell? ⟨b207, 0, none⟩ = some (.int .i32 t203) ∧ w'.cell? ⟨b207, 1, none⟩ = some (.int .i32 t204) ∧ w'.cell? ⟨b207, 2, none⟩ = some (.int .i32 t205) ∧ w'.cell? ⟨b207, 3, none⟩ = some (.int .i32 t206) ∧ w'.cell? ⟨b222, 0, none⟩ = some (.int .i32 t218) ∧ w'.cell? ⟨b222, 1, none⟩ = some (.int .i32 t219) ∧ w'.cell? ⟨b222, 2, none⟩ = some (.int .i32 t220) ∧ w'.cell? ⟨b222, 3, none⟩ = some (.int .i32 t221) ∧ w'.cell? ⟨b212, 0, none⟩ = some (.int .i32 t208) ∧ w'.cell? ⟨b212, 1, none⟩ = some (.int .i32 t209) ∧ w'.cell? ⟨b212, 2, none⟩ = some (.int .i32 t210) ∧ w'.cell? ⟨b212, 3, none⟩ = some (.int .i32 t211)) (ds := []) #[F,F,F,F,F,F,F,F,F,F,F,F,F,F,F,F,F,F,F,F,F,F,F,F,F,F,F,F,F] (by kernel_rfl) rfl rfl ⟨(bC BK217.out 0).trans rfl, (bC BK217.out 1).trans rfl, (bC BK217.out 2).trans rfl, (bC BK217.out 3).trans rfl, (bC BK201.out 0).trans rfl, (bC BK201.out 1).trans rfl, (bC BK207.out 0).trans rfl, (bC BK207.out 1).trans rfl, (bC BK207.out 2).trans rfl, (bC BK207.out 3).trans rfl, (bC BK222.out 0).trans rfl, (bC BK222.out 1).trans rfl, (bC BK222.out 2).trans rfl, (bC BK222.out 3).trans rfl, (bC BK212.out 0).trans rfl, (bC BK212.out 1).trans rfl, (bC BK212.out 2).trans rfl, (bC BK212.out 3).trans rfl⟩ (fun hHeld => ?_); refine with_tabW billiardlaw08_BoxMeets.tab8 billiardlaw08_BoxMeets.bits8 (fun HT_ HW_ => ?_)
        generalize wc.drew = w102 at BK199 BK200 BK201 BK207 BK212 BK217 BK222 HB hHeld ⊢
        refine pure_ (i := 3) (N := some 35) (v := ?_) (a' := ?_) #[F,F,F,T,F,F,F,F,F,F,F,F,F,F,F,F,F,F,F,F,F,F,F,F,F,F,F,F,F] rfl rfl (any_of HT_.out (by kernel_rfl)) (fun _ _ _ h => h) (Or.inl ⟨by rfl, ?_⟩) ?_ ?_
        rotate_left
        ·intro w'
         go_simp
         with_reducible rfl
        rotate_left
        ·simp only [Act.put, sA, sB, sC, i64_w, i32_w]
         rfl
        refine take_ (i := 0) (N := some 32) (v := ?_) (a' := ?_) #[T,F,F,T,F,F,F,F,F,F,F,F,F,F,F,F,F,F,F,F,F,F,F,F,F,F,F,F,F] rfl rfl (take_ofW HT_.out HW_.out (by kernel_rfl)) (fun _ _ _ h => h) (Or.inl ⟨by rfl, ?_⟩) hHeld ?_ ?_
        rotate_left
        ·rintro w' ⟨s0, s1, s2, s3, s4, s5, s6, s7, s8, s9, s10, s11, s12, s13, s14, s15, s16, s17⟩
         go_simp
         with_reducible rfl
        rotate_left
        ·simp only [Act.put, sA, sB, sC, i64_w, i32_w]
         rfl
        refine take_ (i := 1) (N := some 33) (v := ?_) (a' := ?_) #[T,T,F,T,F,F,F,F,F,F,F,F,F,F,F,F,F,F,F,F,F,F,F,F,F,F,F,F,F] rfl rfl (take_ofW HT_.out HW_.out (by kernel_rfl)) (fun _ _ _ h => h) (Or.inl ⟨by rfl, ?_⟩) hHeld ?_ ?_
        rotate_left
        ·rintro w' ⟨s0, s1, s2, s3, s4, s5, s6, s7, s8, s9, s10, s11, s12, s13, s14, s15, s16, s17⟩
         go_simp
         with_reducible rfl
        rotate_left
        ·simp only [Act.put, sA, sB, sC, i64_w, i32_w]
         rfl
        refine one_ (i := 2) (N := some 34) #[T,T,T,T,F,F,F,F,F,F,F,F,F,F,F,F,F,F,F,F,F,F,F,F,F,F,F,F,F] rfl rfl (one_of HT_.out (by kernel_rfl)) (by decide) (fun K hK => ?_)
        refine goes_ Tryd.func16 (by kernel_rfl) rfl #[.agg #[.int .i32 t213, .int .i32 t214, .int .i32 t215, .int .i32 t216], .agg #[.int .i32 a2_0, .int .i32 a2_1]] (by rfl) rfl rfl (by (try simp only [List.map_toArray, List.map_cons, List.map_nil]); first | done | rfl | (simp only [List.length_drop, List.length_take]; rfl)) ?_
        with_reducible refine (box_Contains.calls t213 t214 t215 t216 a2_0 a2_1 t225 _ A92.out).mono ?_
        rintro e w103 ⟨rfl, hb⟩
        refine ⟨_, rfl, ?_⟩
        have n_ := kB7 BK199 BK200 BK201 BK207 BK212 BK217 BK222 HB (by repeat first | exact lR _ _ | apply lN | apply lD | apply lA) hb
        clear BK199 BK200 BK201 BK207 BK212 BK217 BK222 HB
        obtain ⟨BK199, BK200, BK201, BK207, BK212, BK217, BK222, HB⟩ := n_
        (try clear hb)
        (try clear hb2)
        (try clear hk)
        (try clear hi)
        refine hK.out _ _ ⟨(bC BK217.out 0).trans rfl, (bC BK217.out 1).trans rfl, (bC BK217.out 2).trans rfl, (bC BK217.out 3).trans rfl, (bC BK201.out 0).trans rfl, (bC BK201.out 1).trans rfl, (bC BK207.out 0).trans rfl, (bC BK207.out 1).trans rfl, (bC BK207.out 2).trans rfl, (bC BK207.out 3).trans rfl, (bC BK222.out 0).trans rfl, (bC BK222.out 1).trans rfl, (bC BK222.out 2).trans rfl, (bC BK222.out 3).trans rfl, (bC BK212.out 0).trans rfl, (bC BK212.out 1).trans rfl, (bC BK212.out 2).trans rfl, (bC BK212.out 3).trans rfl⟩ (fun hHeld => ?_)
        clear hK K
        refine norm_ (a' := ?_) ?_ ?_
        rotate_left
        ·show Act.put _ (some 34) _ = _
         simp only [Act.put, sA, sB, sC, i64_w, i32_w]
         rfl
        refine pure_ (i := 4) (N := some 36) (v := ?_) (a' := ?_) #[T,T,T,T,T,F,F,F,F,F,F,F,F,F,F,F,F,F,F,F,F,F,F,F,F,F,F,F,F] rfl rfl (any_of HT_.out (by kernel_rfl)) (fun _ _ _ h => h) (Or.inl ⟨by rfl, ?_⟩) ?_ ?_
        rotate_left
        ·intro w'
         go_simp
         with_reducible rfl
        rotate_left
        ·simp only [Act.put, sA, sB, sC, i64_w, i32_w]
         rfl
        refine pure_ (i := 5) (N := some 37) (v := ?_) (a' := ?_) #[T,T,T,T,T,T,F,F,F,F,F,F,F,F,F,F,F,F,F,F,F,F,F,F,F,F,F,F,F] rfl rfl (any_of HT_.out (by kernel_rfl)) (fun _ _ _ h => h) (Or.inl ⟨by rfl, ?_⟩) ?_ ?_
        rotate_left
        ·intro w'
         go_simp
         with_reducible rfl
        rotate_left
        ·simp only [Act.put, sA, sB, sC, i64_w, i32_w]
         rfl
        refine take_ (i := 6) (N := some 38) (v := ?_) (a' := ?_) #[T,T,T,T,T,T,T,F,F,F,F,F,F,F,F,F,F,F,F,F,F,F,F,F,F,F,F,F,F] rfl rfl (take_ofW HT_.out HW_.out (by kernel_rfl)) (fun _ _ _ h => h) (Or.inl ⟨by rfl, ?_⟩) hHeld ?_ ?_
        rotate_left
        ·rintro w' ⟨s0, s1, s2, s3, s4, s5, s6, s7, s8, s9, s10, s11, s12, s13, s14, s15, s16, s17⟩
         go_simp
         with_reducible rfl
        rotate_left
        ·simp only [Act.put, sA, sB, sC, i64_w, i32_w]
         rfl
        refine take_ (i := 7) (N := some 39) (v := ?_) (a' := ?_) #[T,T,T,T,T,T,T,T,F,F,F,F,F,F,F,F,F,F,F,F,F,F,F,F,F,F,F,F,F] rfl rfl (take_ofW HT_.out HW_.out (by kernel_rfl)) (fun _ _ _ h => h) (Or.inl ⟨by rfl, ?_⟩) hHeld ?_ ?_
        rotate_left
        ·rintro w' ⟨s0, s1, s2, s3, s4, s5, s6, s7, s8, s9, s10, s11, s12, s13, s14, s15, s16, s17⟩
         go_simp
         with_reducible rfl
        rotate_left
        ·simp only [Act.put, sA, sB, sC, i64_w, i32_w]
         rfl
        refine one_ (i := 8) (N := some 40) #[T,T,T,T,T,T,T,T,T,F,F,F,F,F,F,F,F,F,F,F,F,F,F,F,F,F,F,F,F] rfl rfl (one_of HT_.out (by kernel_rfl)) (by decide) (fun K hK => ?_)
        refine goes_ Tryd.func16 (by kernel_rfl) rfl #[.agg #[.int .i32 t203, .int .i32 t204, .int .i32 t205, .int .i32 t206], .agg #[.int .i32 a2_0, .int .i32 a2_1]] (by rfl) rfl rfl (by (try simp only [List.map_toArray, List.map_cons, List.map_nil]); first | done | rfl | (simp only [List.length_drop, List.length_take]; rfl)) ?_
        with_reducible refine (box_Contains.calls t203 t204 t205 t206 a2_0 a2_1 true _ A96.out).mono ?_
        rintro e w104 ⟨rfl, hb⟩
        refine ⟨_, rfl, ?_⟩
        have n_ := kB7 BK199 BK200 BK201 BK207 BK212 BK217 BK222 HB (by repeat first | exact lR _ _ | apply lN | apply lD | apply lA) hb
        clear BK199 BK200 BK201 BK207 BK212 BK217 BK222 HB
        obtain ⟨BK199, BK200, BK201, BK207, BK212, BK217, BK222, HB⟩ := n_
        (try clear hb)
        (try clear hb2)
        (try clear hk)
        (try clear hi)
        refine hK.out _ _ ⟨(bC BK217.out 0).trans rfl, (bC BK217.out 1).trans rfl, (bC BK217.out 2).trans rfl, (bC BK217.out 3).trans rfl, (bC BK201.out 0).trans rfl, (bC BK201.out 1).trans rfl, (bC BK207.out 0).trans rfl, (bC BK207.out 1).trans rfl, (bC BK207.out 2).trans rfl, (bC BK207.out 3).trans rfl, (bC BK222.out 0).trans rfl, (bC BK222.out 1).trans rfl, (bC BK222.out 2).trans rfl, (bC BK222.out 3).trans rfl, (bC BK212.out 0).trans rfl, (bC BK212.out 1).trans rfl, (bC BK212.out 2).trans rfl, (bC BK212.out 3).trans rfl⟩ (fun hHeld => ?_)
        clear hK K
        refine norm_ (a' := ?_) ?_ ?_
        rotate_left
        ·show Act.put _ (some 40) _ = _
         simp only [Act.put, sA, sB, sC, i64_w, i32_w]
         rfl
        refine pure_ (i := 9) (N := some 41) (v := ?_) (a' := ?_) #[T,T,T,T,T,T,T,T,T,T,F,F,F,F,F,F,F,F,F,F,F,F,F,F,F,F,F,F,F] rfl rfl (any_of HT_.out (by kernel_rfl)) (fun _ _ _ h => h) (Or.inl ⟨by rfl, ?_⟩) ?_ ?_
        rotate_left
        ·intro w'
         go_simp
         with_reducible rfl
        rotate_left
        ·simp only [Act.put, sA, sB, sC, i64_w, i32_w]
         rfl
        refine pure_ (i := 10) (N := some 42) (v := undef) (a' := ?_) #[T,T,T,T,T,T,T,T,T,T,T,F,F,F,F,F,F,F,F,F,F,F,F,F,F,F,F,F,F] rfl rfl (any_of HT_.out (by kernel_rfl)) (fun _ _ _ h => h) (Or.inr ⟨by rfl, rfl⟩) ?_ ?_
        rotate_left
        ·simp only [Act.put, sA, sB, sC, i64_w, i32_w]
         rfl
        refine pure_ (i := 11) (N := some 43) (v := undef) (a' := ?_) #[T,T,T,T,T,T,T,T,T,T,T,T,F,F,F,F,F,F,F,F,F,F,F,F,F,F,F,F,F] rfl rfl (any_of HT_.out (by kernel_rfl)) (fun _ _ _ h => h) (Or.inr ⟨by rfl, rfl⟩) ?_ ?_
        rotate_left
        ·simp only [Act.put, sA, sB, sC, i64_w, i32_w]
         rfl
        refine pure_ (i := 12) (N := some 44) (v := undef) (a' := ?_) #[T,T,T,T,T,T,T,T,T,T,T,T,T,F,F,F,F,F,F,F,F,F,F,F,F,F,F,F,F] rfl rfl (any_of HT_.out (by kernel_rfl)) (fun _ _ _ h => h) (Or.inr ⟨by rfl, rfl⟩) ?_ ?_
        rotate_left
        ·simp only [Act.put, sA, sB, sC, i64_w, i32_w]
         rfl
        refine pure_ (i := 13) (N := some 45) (v := ?_) (a' := ?_) #[T,T,T,T,T,T,T,T,T,T,T,T,T,T,F,F,F,F,F,F,F,F,F,F,F,F,F,F,F] rfl rfl (any_of HT_.out (by kernel_rfl)) (fun _ _ _ h => h) (Or.inl ⟨by rfl, ?_⟩) ?_ ?_
        rotate_left
        ·intro w'
         go_simp
         with_reducible rfl
        rotate_left
        ·simp only [Act.put, sA, sB, sC, i64_w, i32_w]
         rfl
        refine pure_ (i := 14) (N := some 46) (v := ?_) (a' := ?_) #[T,T,T,T,T,T,T,T,T,T,T,T,T,T,T,F,F,F,F,F,F,F,F,F,F,F,F,F,F] rfl rfl (any_of HT_.out (by kernel_rfl)) (fun _ _ _ h => h) (Or.inl ⟨by rfl, ?_⟩) ?_ ?_
        rotate_left
        ·intro w'
         go_simp
         with_reducible rfl
        rotate_left
        ·simp only [Act.put, sA, sB, sC, i64_w, i32_w]
         rfl
        refine take_ (i := 15) (N := some 47) (v := ?_) (a' := ?_) #[T,T,T,T,T,T,T,T,T,T,T,T,T,T,T,T,F,F,F,F,F,F,F,F,F,F,F,F,F] rfl rfl (take_ofW HT_.out HW_.out (by kernel_rfl)) (fun _ _ _ h => h) (Or.inl ⟨by rfl, ?_⟩) hHeld ?_ ?_
        rotate_left
        ·rintro w' ⟨s0, s1, s2, s3, s4, s5, s6, s7, s8, s9, s10, s11, s12, s13, s14, s15, s16, s17⟩
         go_simp
         with_reducible rfl
        rotate_left
        ·simp only [Act.put, sA, sB, sC, i64_w, i32_w]
         rfl
        refine take_ (i := 16) (N := some 48) (v := ?_) (a' := ?_) #[T,T,T,T,T,T,T,T,T,T,T,T,T,T,T,T,T,F,F,F,F,F,F,F,F,F,F,F,F] rfl rfl (take_ofW HT_.out HW_.out (by kernel_rfl)) (fun _ _ _ h => h) (Or.inl ⟨by rfl, ?_⟩) hHeld ?_ ?_
        rotate_left
        ·rintro w' ⟨s0, s1, s2, s3, s4, s5, s6, s7, s8, s9, s10, s11, s12, s13, s14, s15, s16, s17⟩
         go_simp
         with_reducible rfl
        rotate_left
        ·simp only [Act.put, sA, sB, sC, i64_w, i32_w]
         rfl
        refine one_ (i := 17) (N := some 49) #[T,T,T,T,T,T,T,T,T,T,T,T,T,T,T,T,T,T,F,F,F,F,F,F,F,F,F,F,F] rfl rfl (one_of HT_.out (by kernel_rfl)) (by decide) (fun K hK => ?_)
        refine goes_ Tryd.func16 (by kernel_rfl) rfl #[.agg #[.int .i32 t218, .int .i32 t219, .int .i32 t220, .int .i32 t221], .agg #[.int .i32 a2_0, .int .i32 a2_1]] (by rfl) rfl rfl (by (try simp only [List.map_toArray, List.map_cons, List.map_nil]); first | done | rfl | (simp only [List.length_drop, List.length_take]; rfl)) ?_
        with_reducible refine (box_Contains.calls t218 t219 t220 t221 a2_0 a2_1 true _ A98.out).mono ?_
        rintro e w105 ⟨rfl, hb⟩
        refine ⟨_, rfl, ?_⟩
        have n_ := kB7 BK199 BK200 BK201 BK207 BK212 BK217 BK222 HB (by repeat first | exact lR _ _ | apply lN | apply lD | apply lA) hb
        clear BK199 BK200 BK201 BK207 BK212 BK217 BK222 HB
        obtain ⟨BK199, BK200, BK201, BK207, BK212, BK217, BK222, HB⟩ := n_
        (try clear hb)
        (try clear hb2)
        (try clear hk)
        (try clear hi)
        refine hK.out _ _ ⟨(bC BK217.out 0).trans rfl, (bC BK217.out 1).trans rfl, (bC BK217.out 2).trans rfl, (bC BK217.out 3).trans rfl, (bC BK201.out 0).trans rfl, (bC BK201.out 1).trans rfl, (bC BK207.out 0).trans rfl, (bC BK207.out 1).trans rfl, (bC BK207.out 2).trans rfl, (bC BK207.out 3).trans rfl, (bC BK222.out 0).trans rfl, (bC BK222.out 1).trans rfl, (bC BK222.out 2).trans rfl, (bC BK222.out 3).trans rfl, (bC BK212.out 0).trans rfl, (bC BK212.out 1).trans rfl, (bC BK212.out 2).trans rfl, (bC BK212.out 3).trans rfl⟩ (fun hHeld => ?_)
        clear hK K
        refine norm_ (a' := ?_) ?_ ?_
        rotate_left
        ·show Act.put _ (some 49) _ = _
         simp only [Act.put, sA, sB, sC, i64_w, i32_w]
         rfl
        refine pure_ (i := 18) (N := some 50) (v := ?_) (a' := ?_) #[T,T,T,T,T,T,T,T,T,T,T,T,T,T,T,T,T,T,T,F,F,F,F,F,F,F,F,F,F] rfl rfl (any_of HT_.out (by kernel_rfl)) (fun _ _ _ h => h) (Or.inl ⟨by rfl, ?_⟩) ?_ ?_
        rotate_left
        ·intro w'
         go_simp
         with_reducible rfl
        rotate_left
        ·simp only [Act.put, sA, sB, sC, i64_w, i32_w]
         rfl
        refine pure_ (i := 19) (N := some 51) (v := ?_) (a' := ?_) #[T,T,T,T,T,T,T,T,T,T,T,T,T,T,T,T,T,T,T,T,F,F,F,F,F,F,F,F,F] rfl rfl (any_of HT_.out (by kernel_rfl)) (fun _ _ _ h => h) (Or.inl ⟨by rfl, ?_⟩) ?_ ?_
        rotate_left
        ·intro w'
         go_simp
         with_reducible rfl
        rotate_left
        ·simp only [Act.put, sA, sB, sC, i64_w, i32_w]
         rfl
        refine pure_ (i := 20) (N := some 52) (v := ?_) (a' := ?_) #[T,T,T,T,T,T,T,T,T,T,T,T,T,T,T,T,T,T,T,T,T,F,F,F,F,F,F,F,F] rfl rfl (any_of HT_.out (by kernel_rfl)) (fun _ _ _ h => h) (Or.inl ⟨by rfl, ?_⟩) ?_ ?_
        rotate_left
        ·intro w'
         go_simp
         with_reducible rfl
        rotate_left
        ·simp only [Act.put, sA, sB, sC, i64_w, i32_w]
         rfl
        refine pure_ (i := 21) (N := some 53) (v := ?_) (a' := ?_) #[T,T,T,T,T,T,T,T,T,T,T,T,T,T,T,T,T,T,T,T,T,T,F,F,F,F,F,F,F] rfl rfl (any_of HT_.out (by kernel_rfl)) (fun _ _ _ h => h) (Or.inl ⟨by rfl, ?_⟩) ?_ ?_
        rotate_left
        ·intro w'
         go_simp
         with_reducible rfl
        rotate_left
        ·simp only [Act.put, sA, sB, sC, i64_w, i32_w]
         rfl
        refine take_ (i := 22) (N := some 54) (v := ?_) (a' := ?_) #[T,T,T,T,T,T,T,T,T,T,T,T,T,T,T,T,T,T,T,T,T,T,T,F,F,F,F,F,F] rfl rfl (take_ofW HT_.out HW_.out (by kernel_rfl)) (fun _ _ _ h => h) (Or.inl ⟨by rfl, ?_⟩) hHeld ?_ ?_
        rotate_left
        ·rintro w' ⟨s0, s1, s2, s3, s4, s5, s6, s7, s8, s9, s10, s11, s12, s13, s14, s15, s16, s17⟩
         go_simp
         with_reducible rfl
        rotate_left
        ·simp only [Act.put, sA, sB, sC, i64_w, i32_w]
         rfl
        refine take_ (i := 23) (N := some 55) (v := ?_) (a' := ?_) #[T,T,T,T,T,T,T,T,T,T,T,T,T,T,T,T,T,T,T,T,T,T,T,T,F,F,F,F,F] rfl rfl (take_ofW HT_.out HW_.out (by kernel_rfl)) (fun _ _ _ h => h) (Or.inl ⟨by rfl, ?_⟩) hHeld ?_ ?_
        rotate_left
        ·rintro w' ⟨s0, s1, s2, s3, s4, s5, s6, s7, s8, s9, s10, s11, s12, s13, s14, s15, s16, s17⟩
         go_simp
         with_reducible rfl
        rotate_left
        ·simp only [Act.put, sA, sB, sC, i64_w, i32_w]
         rfl
        refine take_ (i := 25) (N := some 57) (v := ?_) (a' := ?_) #[T,T,T,T,T,T,T,T,T,T,T,T,T,T,T,T,T,T,T,T,T,T,T,T,F,T,F,F,F] rfl rfl (take_ofW HT_.out HW_.out (by kernel_rfl)) (fun _ _ _ h => h) (Or.inl ⟨by rfl, ?_⟩) hHeld ?_ ?_
        rotate_left
        ·rintro w' ⟨s0, s1, s2, s3, s4, s5, s6, s7, s8, s9, s10, s11, s12, s13, s14, s15, s16, s17⟩
         go_simp
         with_reducible rfl
        rotate_left
        ·simp only [Act.put, sA, sB, sC, i64_w, i32_w]
         rfl
        refine one_ (i := 24) (N := some 56) #[T,T,T,T,T,T,T,T,T,T,T,T,T,T,T,T,T,T,T,T,T,T,T,T,T,T,F,F,F] rfl rfl (one_of HT_.out (by kernel_rfl)) (by decide) (fun K hK => ?_)
        refine goes_ Tryd.func14 (by kernel_rfl) rfl #[.agg #[.int .i32 t203, .int .i32 t204, .int .i32 t205, .int .i32 t206], .agg #[.int .i32 t208, .int .i32 t209, .int .i32 t210, .int .i32 t211]] (by rfl) rfl rfl (by (try simp only [List.map_toArray, List.map_cons, List.map_nil]); first | done | rfl | (simp only [List.length_drop, List.length_take]; rfl)) ?_
        with_reducible refine (box_Overlap.calls t203 t204 t205 t206 t208 t209 t210 t211 t228 _ A100.out (HGN.out.below (by repeat (first | (with_reducible first | exact HB.out | apply lA | apply lN | apply lD | refine lS ?_ GE199.out | refine lS ?_ GE200.out | refine lS ?_ GE201.out | refine lS ?_ GE207.out | refine lS ?_ GE212.out | refine lS ?_ GE217.out | refine lS ?_ GE222.out) | exact HB.out)))).mono ?_
        rintro e w106 ⟨rfl, hb⟩
        refine ⟨_, rfl, ?_⟩
        have n_ := kB7 BK199 BK200 BK201 BK207 BK212 BK217 BK222 HB (by repeat first | exact lR _ _ | apply lN | apply lD | apply lA) hb
        clear BK199 BK200 BK201 BK207 BK212 BK217 BK222 HB
        obtain ⟨BK199, BK200, BK201, BK207, BK212, BK217, BK222, HB⟩ := n_
        (try clear hb)
        (try clear hb2)
        (try clear hk)
        (try clear hi)
        refine hK.out _ _ ⟨(bC BK217.out 0).trans rfl, (bC BK217.out 1).trans rfl, (bC BK217.out 2).trans rfl, (bC BK217.out 3).trans rfl, (bC BK201.out 0).trans rfl, (bC BK201.out 1).trans rfl, (bC BK207.out 0).trans rfl, (bC BK207.out 1).trans rfl, (bC BK207.out 2).trans rfl, (bC BK207.out 3).trans rfl, (bC BK222.out 0).trans rfl, (bC BK222.out 1).trans rfl, (bC BK222.out 2).trans rfl, (bC BK222.out 3).trans rfl, (bC BK212.out 0).trans rfl, (bC BK212.out 1).trans rfl, (bC BK212.out 2).trans rfl, (bC BK212.out 3).trans rfl⟩ (fun hHeld => ?_)
        clear hK K
        refine norm_ (a' := ?_) ?_ ?_
        rotate_left
        ·show Act.put _ (some 56) _ = _
         simp only [Act.put, sA, sB, sC, i64_w, i32_w]
         rfl
        refine one_ (i := 26) (N := some 58) #[T,T,T,T,T,T,T,T,T,T,T,T,T,T,T,T,T,T,T,T,T,T,T,T,T,T,T,F,F] rfl rfl (one_of HT_.out (by kernel_rfl)) (by decide) (fun K hK => ?_)
        refine goes_ Tryd.func12 (by kernel_rfl) rfl #[.agg #[.int .i32 t213, .int .i32 t214, .int .i32 t215, .int .i32 t216]] (by rfl) rfl rfl (by (try simp only [List.map_toArray, List.map_cons, List.map_nil]); first | done | rfl | (simp only [List.length_drop, List.length_take]; rfl)) ?_
        with_reducible refine (box_Empty.calls t213 t214 t215 t216 t229 _ A101.out).mono ?_
        rintro e w107 ⟨rfl, hb⟩
        refine ⟨_, rfl, ?_⟩
        have n_ := kB7 BK199 BK200 BK201 BK207 BK212 BK217 BK222 HB (by repeat first | exact lR _ _ | apply lN | apply lD | apply lA) hb
        clear BK199 BK200 BK201 BK207 BK212 BK217 BK222 HB
        obtain ⟨BK199, BK200, BK201, BK207, BK212, BK217, BK222, HB⟩ := n_
        (try clear hb)
        (try clear hb2)
        (try clear hk)
        (try clear hi)
        refine hK.out _ _ ⟨(bC BK217.out 0).trans rfl, (bC BK217.out 1).trans rfl, (bC BK217.out 2).trans rfl, (bC BK217.out 3).trans rfl, (bC BK201.out 0).trans rfl, (bC BK201.out 1).trans rfl, (bC BK207.out 0).trans rfl, (bC BK207.out 1).trans rfl, (bC BK207.out 2).trans rfl, (bC BK207.out 3).trans rfl, (bC BK222.out 0).trans rfl, (bC BK222.out 1).trans rfl, (bC BK222.out 2).trans rfl, (bC BK222.out 3).trans rfl, (bC BK212.out 0).trans rfl, (bC BK212.out 1).trans rfl, (bC BK212.out 2).trans rfl, (bC BK212.out 3).trans rfl⟩ (fun hHeld => ?_)
        clear hK K
        refine norm_ (a' := ?_) ?_ ?_
        rotate_left
        ·show Act.put _ (some 58) _ = _
         simp only [Act.put, sA, sB, sC, i64_w, i32_w]
         rfl
        refine pure_ (i := 27) (N := some 59) (v := ?_) (a' := ?_) #[T,T,T,T,T,T,T,T,T,T,T,T,T,T,T,T,T,T,T,T,T,T,T,T,T,T,T,T,F] rfl rfl (any_of HT_.out (by kernel_rfl)) (fun _ _ _ h => h) (Or.inl ⟨by rfl, ?_⟩) ?_ ?_
        rotate_left
        ·intro w'
         go_simp
         with_reducible rfl
        rotate_left
        ·simp only [Act.put, sA, sB, sC, i64_w, i32_w]
         rfl
        refine pure_ (i := 28) (N := some 60) (v := ?_) (a' := ?_) #[T,T,T,T,T,T,T,T,T,T,T,T,T,T,T,T,T,T,T,T,T,T,T,T,T,T,T,T,T] rfl rfl (any_of HT_.out (by kernel_rfl)) (fun _ _ _ h => h) (Or.inl ⟨by rfl, ?_⟩) ?_ ?_
        rotate_left
        ·intro w'
         go_simp
         with_reducible rfl
        rotate_left
        ·simp only [Act.put, sA, sB, sC, i64_w, i32_w]
         rfl
        refine done_ (done_of HT_.out (by kernel_rfl)) ?_
        try go_wp2
        go_meet
        case rel => exact ⟨_, ((t228 == t229)), (by first | rfl | (simp; done) | (simp [*]; done)), H', ⟨by have := HJ9.out; first | omega | exact Nat.le_refl _⟩, ⟨by (with_reducible repeat first | apply bN | apply bD | apply bA); exact BK199.out⟩, ⟨by (with_reducible repeat first | apply bN | apply bD | apply bA); exact BK200.out⟩, ⟨by (with_reducible repeat first | apply bN | apply bD | apply bA); exact BK201.out⟩, ⟨by (with_reducible repeat first | apply bN | apply bD | apply bA); exact BK207.out⟩, ⟨by (with_reducible repeat first | apply bN | apply bD | apply bA); exact BK212.out⟩, ⟨by (with_reducible repeat first | apply bN | apply bD | apply bA); exact BK217.out⟩, ⟨by (with_reducible repeat first | apply bN | apply bD | apply bA); exact BK222.out⟩, ⟨by repeat (first | (with_reducible first | exact HB.out | apply lA | apply lN | apply lD | refine lS ?_ GE199.out | refine lS ?_ GE200.out | refine lS ?_ GE201.out | refine lS ?_ GE207.out | refine lS ?_ GE212.out | refine lS ?_ GE217.out | refine lS ?_ GE222.out) | exact HB.out)⟩⟩
       ·replace c99 := Bool.eq_false_iff.mpr c99
        subst c99
        have H1 : (billiardlaw08_BoxMeets.j1 kj9 true a0_0 a0_1 a0_2 a0_3 a1_0 a1_1 a1_2 a1_3 t203 t204 t205 t206 t208 t209 t210 t211 t213 t214 t215 t216 t218 t219 t220 t221) = some r := by rw [if_neg (show ¬ (false = true) by decide)] at H; exact H
        exact (billiardlaw08_BoxMeets.j1.dead H1 HR.out).elim
      ·replace c97 := Bool.eq_false_iff.mpr c97
       subst c97
       rw [if_neg (show ¬ (false = true) by decide)] at H
       replace H := Option.bind_eq_some_iff.mp H
       obtain ⟨t230, A1120, H⟩ := H
       try dsimp only at H
       have A112 := aM A1120
       clear A1120
       by_cases c113 : t230 = true
       ·subst c113
        rw [if_pos rfl] at H
        replace H := Option.bind_eq_some_iff.mp H
        obtain ⟨t231, A1140, H⟩ := H
        try dsimp only at H
        have A114 := aM A1140
        clear A1140
        by_cases c115 : t231 = true
        ·subst c115
         rw [if_pos rfl] at H
         replace H := Option.bind_eq_some_iff.mp H
         obtain ⟨t232, A1160, H⟩ := H
         try dsimp only at H
         have A116 := aM A1160
         clear A1160
         replace H := Option.bind_eq_some_iff.mp H
         obtain ⟨t233, A1170, H⟩ := H
         try dsimp only at H
         have A117 := aM A1170
         clear A1170
         have H' := aM H
         clear H
         try go_wp2
         have n_ := kA7 BK199 BK200 BK201 BK207 BK212 BK217 BK222 HB (lD (lR _ _))
         clear BK199 BK200 BK201 BK207 BK212 BK217 BK222 HB
         obtain ⟨BK199, BK200, BK201, BK207, BK212, BK217, BK222, HB⟩ := n_
         refine start_ (n := 29) (S := fun w' => w'.cell? ⟨b217, 0, none⟩ = some (.int .i32 t213) ∧ w'.cell? ⟨b217, 1, none⟩ = some (.int .i32 t214) ∧ w'.cell? ⟨b217, 2, none⟩ = some (.int .i32 t215) ∧ w'.cell? ⟨b217, 3, none⟩ = some (.int .i32 t216) ∧ w'.cell? ⟨b201, 0, none⟩ = some (.int .i32 a2_0) ∧ w'.cell? ⟨b201, 1, none⟩ = some (.int .i32 a2_1) ∧ w'.cell? ⟨b207, 0, none⟩ = some (.int .i32 t203) ∧ w'.cell? ⟨b207, 1, none⟩ = some (.int .i32 t204) ∧ w'.cell? ⟨b207, 2, none⟩ = some (.int .i32 t205) ∧ w'.cell? ⟨b207, 3, none⟩ = some (.int .i32 t206) ∧ w'.cell? ⟨b212, 0, none⟩ = some (.int .i32 t208) ∧ w'.cell? ⟨b212, 1, none⟩ = some (.int .i32 t209) ∧ w'.cell? ⟨b212, 2, none⟩ = some (.int .i32 t210) ∧ w'.cell? ⟨b212, 3, none⟩ = some (.int .i32 t211) ∧ w'.cell? ⟨b222, 0, none⟩ = some (.int .i32 t218) ∧ w'.cell? ⟨b222, 1, none⟩ = some (.int .i32 t219) ∧ w'.cell? ⟨b222, 2, none⟩ = some (.int .i32 t220) ∧ w'.cell? ⟨b222, 3, none⟩ = some (.int .i32 t221)) (ds := []) #[F,F,F,F,F,F,F,F,F,F,F,F,F,F,F,F,F,F,F,F,F,F,F,F,F,F,F,F,F] (by kernel_rfl) rfl rfl ⟨(bC BK217.out 0).trans rfl, (bC BK217.out 1).trans rfl, (bC BK217.out 2).trans rfl, (bC BK217.out 3).trans rfl, (bC BK201.out 0).trans rfl, (bC BK201.out 1).trans rfl, (bC BK207.out 0).trans rfl, (bC BK207.out 1).trans rfl, (bC BK207.out 2).trans rfl, (bC BK207.out 3).trans rfl, (bC BK212.out 0).trans rfl, (bC BK212.out 1).trans rfl, (bC BK212.out 2).trans rfl, (bC BK212.out 3).trans rfl, (bC BK222.out 0).trans rfl, (bC BK222.out 1).trans rfl, (bC BK222.out 2).trans rfl, (bC BK222.out 3).trans rfl⟩ (fun hHeld => ?_); refine with_tabW billiardlaw08_BoxMeets.tab8 billiardlaw08_BoxMeets.bits8 (fun HT_ HW_ => ?_)
         generalize wc.drew = w118 at BK199 BK200 BK201 BK207 BK212 BK217 BK222 HB hHeld ⊢
         refine pure_ (i := 3) (N := some 35) (v := ?_) (a' := ?_) #[F,F,F,T,F,F,F,F,F,F,F,F,F,F,F,F,F,F,F,F,F,F,F,F,F,F,F,F,F] rfl rfl (any_of HT_.out (by kernel_rfl)) (fun _ _ _ h => h) (Or.inl ⟨by rfl, ?_⟩) ?_ ?_
         rotate_left
         ·intro w'
          go_simp
          with_reducible rfl
         rotate_left
         ·simp only [Act.put, sA, sB, sC, i64_w, i32_w]
          rfl
         refine take_ (i := 0) (N := some 32) (v := ?_) (a' := ?_) #[T,F,F,T,F,F,F,F,F,F,F,F,F,F,F,F,F,F,F,F,F,F,F,F,F,F,F,F,F] rfl rfl (take_ofW HT_.out HW_.out (by kernel_rfl)) (fun _ _ _ h => h) (Or.inl ⟨by rfl, ?_⟩) hHeld ?_ ?_
         rotate_left
         ·rintro w' ⟨s0, s1, s2, s3, s4, s5, s6, s7, s8, s9, s10, s11, s12, s13, s14, s15, s16, s17⟩
          go_simp
          with_reducible rfl
         rotate_left
         ·simp only [Act.put, sA, sB, sC, i64_w, i32_w]
          rfl
         refine take_ (i := 1) (N := some 33) (v := ?_) (a' := ?_) #[T,T,F,T,F,F,F,F,F,F,F,F,F,F,F,F,F,F,F,F,F,F,F,F,F,F,F,F,F] rfl rfl (take_ofW HT_.out HW_.out (by kernel_rfl)) (fun _ _ _ h => h) (Or.inl ⟨by rfl, ?_⟩) hHeld ?_ ?_
         rotate_left
         ·rintro w' ⟨s0, s1, s2, s3, s4, s5, s6, s7, s8, s9, s10, s11, s12, s13, s14, s15, s16, s17⟩
          go_simp
          with_reducible rfl
         rotate_left
         ·simp only [Act.put, sA, sB, sC, i64_w, i32_w]
          rfl
         refine one_ (i := 2) (N := some 34) #[T,T,T,T,F,F,F,F,F,F,F,F,F,F,F,F,F,F,F,F,F,F,F,F,F,F,F,F,F] rfl rfl (one_of HT_.out (by kernel_rfl)) (by decide) (fun K hK => ?_)
         refine goes_ Tryd.func16 (by kernel_rfl) rfl #[.agg #[.int .i32 t213, .int .i32 t214, .int .i32 t215, .int .i32 t216], .agg #[.int .i32 a2_0, .int .i32 a2_1]] (by rfl) rfl rfl (by (try simp only [List.map_toArray, List.map_cons, List.map_nil]); first | done | rfl | (simp only [List.length_drop, List.length_take]; rfl)) ?_
         with_reducible refine (box_Contains.calls t213 t214 t215 t216 a2_0 a2_1 t225 _ A92.out).mono ?_
         rintro e w119 ⟨rfl, hb⟩
         refine ⟨_, rfl, ?_⟩
         have n_ := kB7 BK199 BK200 BK201 BK207 BK212 BK217 BK222 HB (by repeat first | exact lR _ _ | apply lN | apply lD | apply lA) hb
         clear BK199 BK200 BK201 BK207 BK212 BK217 BK222 HB
         obtain ⟨BK199, BK200, BK201, BK207, BK212, BK217, BK222, HB⟩ := n_
         (try clear hb)
         (try clear hb2)
         (try clear hk)
         (try clear hi)
         refine hK.out _ _ ⟨(bC BK217.out 0).trans rfl, (bC BK217.out 1).trans rfl, (bC BK217.out 2).trans rfl, (bC BK217.out 3).trans rfl, (bC BK201.out 0).trans rfl, (bC BK201.out 1).trans rfl, (bC BK207.out 0).trans rfl, (bC BK207.out 1).trans rfl, (bC BK207.out 2).trans rfl, (bC BK207.out 3).trans rfl, (bC BK212.out 0).trans rfl, (bC BK212.out 1).trans rfl, (bC BK212.out 2).trans rfl, (bC BK212.out 3).trans rfl, (bC BK222.out 0).trans rfl, (bC BK222.out 1).trans rfl, (bC BK222.out 2).trans rfl, (bC BK222.out 3).trans rfl⟩ (fun hHeld => ?_)
         clear hK K
         refine norm_ (a' := ?_) ?_ ?_
         rotate_left
         ·show Act.put _ (some 34) _ = _
          simp only [Act.put, sA, sB, sC, i64_w, i32_w]
          rfl
         refine pure_ (i := 4) (N := some 36) (v := ?_) (a' := ?_) #[T,T,T,T,T,F,F,F,F,F,F,F,F,F,F,F,F,F,F,F,F,F,F,F,F,F,F,F,F] rfl rfl (any_of HT_.out (by kernel_rfl)) (fun _ _ _ h => h) (Or.inl ⟨by rfl, ?_⟩) ?_ ?_
         rotate_left
         ·intro w'
          go_simp
          with_reducible rfl
         rotate_left
         ·simp only [Act.put, sA, sB, sC, i64_w, i32_w]
          rfl
         refine pure_ (i := 5) (N := some 37) (v := ?_) (a' := ?_) #[T,T,T,T,T,T,F,F,F,F,F,F,F,F,F,F,F,F,F,F,F,F,F,F,F,F,F,F,F] rfl rfl (any_of HT_.out (by kernel_rfl)) (fun _ _ _ h => h) (Or.inl ⟨by rfl, ?_⟩) ?_ ?_
         rotate_left
         ·intro w'
          go_simp
          with_reducible rfl
         rotate_left
         ·simp only [Act.put, sA, sB, sC, i64_w, i32_w]
          rfl
         refine take_ (i := 6) (N := some 38) (v := ?_) (a' := ?_) #[T,T,T,T,T,T,T,F,F,F,F,F,F,F,F,F,F,F,F,F,F,F,F,F,F,F,F,F,F] rfl rfl (take_ofW HT_.out HW_.out (by kernel_rfl)) (fun _ _ _ h => h) (Or.inl ⟨by rfl, ?_⟩) hHeld ?_ ?_
         rotate_left
         ·rintro w' ⟨s0, s1, s2, s3, s4, s5, s6, s7, s8, s9, s10, s11, s12, s13, s14, s15, s16, s17⟩
          go_simp
          with_reducible rfl
         rotate_left
         ·simp only [Act.put, sA, sB, sC, i64_w, i32_w]
          rfl
         refine take_ (i := 7) (N := some 39) (v := ?_) (a' := ?_) #[T,T,T,T,T,T,T,T,F,F,F,F,F,F,F,F,F,F,F,F,F,F,F,F,F,F,F,F,F] rfl rfl (take_ofW HT_.out HW_.out (by kernel_rfl)) (fun _ _ _ h => h) (Or.inl ⟨by rfl, ?_⟩) hHeld ?_ ?_
         rotate_left
         ·rintro w' ⟨s0, s1, s2, s3, s4, s5, s6, s7, s8, s9, s10, s11, s12, s13, s14, s15, s16, s17⟩
          go_simp
          with_reducible rfl
         rotate_left
         ·simp only [Act.put, sA, sB, sC, i64_w, i32_w]
          rfl
         refine one_ (i := 8) (N := some 40) #[T,T,T,T,T,T,T,T,T,F,F,F,F,F,F,F,F,F,F,F,F,F,F,F,F,F,F,F,F] rfl rfl (one_of HT_.out (by kernel_rfl)) (by decide) (fun K hK => ?_)
         refine goes_ Tryd.func16 (by kernel_rfl) rfl #[.agg #[.int .i32 t203, .int .i32 t204, .int .i32 t205, .int .i32 t206], .agg #[.int .i32 a2_0, .int .i32 a2_1]] (by rfl) rfl rfl (by (try simp only [List.map_toArray, List.map_cons, List.map_nil]); first | done | rfl | (simp only [List.length_drop, List.length_take]; rfl)) ?_
         with_reducible refine (box_Contains.calls t203 t204 t205 t206 a2_0 a2_1 false _ A96.out).mono ?_
         rintro e w120 ⟨rfl, hb⟩
         refine ⟨_, rfl, ?_⟩
         have n_ := kB7 BK199 BK200 BK201 BK207 BK212 BK217 BK222 HB (by repeat first | exact lR _ _ | apply lN | apply lD | apply lA) hb
         clear BK199 BK200 BK201 BK207 BK212 BK217 BK222 HB
         obtain ⟨BK199, BK200, BK201, BK207, BK212, BK217, BK222, HB⟩ := n_
         (try clear hb)
         (try clear hb2)
         (try clear hk)
         (try clear hi)
         refine hK.out _ _ ⟨(bC BK217.out 0).trans rfl, (bC BK217.out 1).trans rfl, (bC BK217.out 2).trans rfl, (bC BK217.out 3).trans rfl, (bC BK201.out 0).trans rfl, (bC BK201.out 1).trans rfl, (bC BK207.out 0).trans rfl, (bC BK207.out 1).trans rfl, (bC BK207.out 2).trans rfl, (bC BK207.out 3).trans rfl, (bC BK212.out 0).trans rfl, (bC BK212.out 1).trans rfl, (bC BK212.out 2).trans rfl, (bC BK212.out 3).trans rfl, (bC BK222.out 0).trans rfl, (bC BK222.out 1).trans rfl, (bC BK222.out 2).trans rfl, (bC BK222.out 3).trans rfl⟩ (fun hHeld => ?_)
         clear hK K
         refine norm_ (a' := ?_) ?_ ?_
         rotate_left
         ·show Act.put _ (some 40) _ = _
          simp only [Act.put, sA, sB, sC, i64_w, i32_w]
          rfl
         refine pure_ (i := 9) (N := some 41) (v := ?_) (a' := ?_) #[T,T,T,T,T,T,T,T,T,T,F,F,F,F,F,F,F,F,F,F,F,F,F,F,F,F,F,F,F] rfl rfl (any_of HT_.out (by kernel_rfl)) (fun _ _ _ h => h) (Or.inl ⟨by rfl, ?_⟩) ?_ ?_
         rotate_left
         ·intro w'
          go_simp
          with_reducible rfl
         rotate_left
         ·simp only [Act.put, sA, sB, sC, i64_w, i32_w]
          rfl
         refine take_ (i := 10) (N := some 42) (v := ?_) (a' := ?_) #[T,T,T,T,T,T,T,T,T,T,T,F,F,F,F,F,F,F,F,F,F,F,F,F,F,F,F,F,F] rfl rfl (take_ofW HT_.out HW_.out (by kernel_rfl)) (fun _ _ _ h => h) (Or.inl ⟨by rfl, ?_⟩) hHeld ?_ ?_
         rotate_left
         ·rintro w' ⟨s0, s1, s2, s3, s4, s5, s6, s7, s8, s9, s10, s11, s12, s13, s14, s15, s16, s17⟩
          go_simp
          with_reducible rfl
         rotate_left
         ·simp only [Act.put, sA, sB, sC, i64_w, i32_w]
          rfl
         refine take_ (i := 11) (N := some 43) (v := ?_) (a' := ?_) #[T,T,T,T,T,T,T,T,T,T,T,T,F,F,F,F,F,F,F,F,F,F,F,F,F,F,F,F,F] rfl rfl (take_ofW HT_.out HW_.out (by kernel_rfl)) (fun _ _ _ h => h) (Or.inl ⟨by rfl, ?_⟩) hHeld ?_ ?_
         rotate_left
         ·rintro w' ⟨s0, s1, s2, s3, s4, s5, s6, s7, s8, s9, s10, s11, s12, s13, s14, s15, s16, s17⟩
          go_simp
          with_reducible rfl
         rotate_left
         ·simp only [Act.put, sA, sB, sC, i64_w, i32_w]
          rfl
         refine one_ (i := 12) (N := some 44) #[T,T,T,T,T,T,T,T,T,T,T,T,T,F,F,F,F,F,F,F,F,F,F,F,F,F,F,F,F] rfl rfl (one_of HT_.out (by kernel_rfl)) (by decide) (fun K hK => ?_)
         refine goes_ Tryd.func16 (by kernel_rfl) rfl #[.agg #[.int .i32 t208, .int .i32 t209, .int .i32 t210, .int .i32 t211], .agg #[.int .i32 a2_0, .int .i32 a2_1]] (by rfl) rfl rfl (by (try simp only [List.map_toArray, List.map_cons, List.map_nil]); first | done | rfl | (simp only [List.length_drop, List.length_take]; rfl)) ?_
         with_reducible refine (box_Contains.calls t208 t209 t210 t211 a2_0 a2_1 true _ A112.out).mono ?_
         rintro e w121 ⟨rfl, hb⟩
         refine ⟨_, rfl, ?_⟩
         have n_ := kB7 BK199 BK200 BK201 BK207 BK212 BK217 BK222 HB (by repeat first | exact lR _ _ | apply lN | apply lD | apply lA) hb
         clear BK199 BK200 BK201 BK207 BK212 BK217 BK222 HB
         obtain ⟨BK199, BK200, BK201, BK207, BK212, BK217, BK222, HB⟩ := n_
         (try clear hb)
         (try clear hb2)
         (try clear hk)
         (try clear hi)
         refine hK.out _ _ ⟨(bC BK217.out 0).trans rfl, (bC BK217.out 1).trans rfl, (bC BK217.out 2).trans rfl, (bC BK217.out 3).trans rfl, (bC BK201.out 0).trans rfl, (bC BK201.out 1).trans rfl, (bC BK207.out 0).trans rfl, (bC BK207.out 1).trans rfl, (bC BK207.out 2).trans rfl, (bC BK207.out 3).trans rfl, (bC BK212.out 0).trans rfl, (bC BK212.out 1).trans rfl, (bC BK212.out 2).trans rfl, (bC BK212.out 3).trans rfl, (bC BK222.out 0).trans rfl, (bC BK222.out 1).trans rfl, (bC BK222.out 2).trans rfl, (bC BK222.out 3).trans rfl⟩ (fun hHeld => ?_)
         clear hK K
         refine norm_ (a' := ?_) ?_ ?_
         rotate_left
         ·show Act.put _ (some 44) _ = _
          simp only [Act.put, sA, sB, sC, i64_w, i32_w]
          rfl
         refine pure_ (i := 13) (N := some 45) (v := ?_) (a' := ?_) #[T,T,T,T,T,T,T,T,T,T,T,T,T,T,F,F,F,F,F,F,F,F,F,F,F,F,F,F,F] rfl rfl (any_of HT_.out (by kernel_rfl)) (fun _ _ _ h => h) (Or.inl ⟨by rfl, ?_⟩) ?_ ?_
         rotate_left
         ·intro w'
          go_simp
          with_reducible rfl
         rotate_left
         ·simp only [Act.put, sA, sB, sC, i64_w, i32_w]
          rfl
         refine pure_ (i := 14) (N := some 46) (v := ?_) (a' := ?_) #[T,T,T,T,T,T,T,T,T,T,T,T,T,T,T,F,F,F,F,F,F,F,F,F,F,F,F,F,F] rfl rfl (any_of HT_.out (by kernel_rfl)) (fun _ _ _ h => h) (Or.inl ⟨by rfl, ?_⟩) ?_ ?_
         rotate_left
         ·intro w'
          go_simp
          with_reducible rfl
         rotate_left
         ·simp only [Act.put, sA, sB, sC, i64_w, i32_w]
          rfl
         refine take_ (i := 15) (N := some 47) (v := ?_) (a' := ?_) #[T,T,T,T,T,T,T,T,T,T,T,T,T,T,T,T,F,F,F,F,F,F,F,F,F,F,F,F,F] rfl rfl (take_ofW HT_.out HW_.out (by kernel_rfl)) (fun _ _ _ h => h) (Or.inl ⟨by rfl, ?_⟩) hHeld ?_ ?_
         rotate_left
         ·rintro w' ⟨s0, s1, s2, s3, s4, s5, s6, s7, s8, s9, s10, s11, s12, s13, s14, s15, s16, s17⟩
          go_simp
          with_reducible rfl
         rotate_left
         ·simp only [Act.put, sA, sB, sC, i64_w, i32_w]
          rfl
         refine take_ (i := 16) (N := some 48) (v := ?_) (a' := ?_) #[T,T,T,T,T,T,T,T,T,T,T,T,T,T,T,T,T,F,F,F,F,F,F,F,F,F,F,F,F] rfl rfl (take_ofW HT_.out HW_.out (by kernel_rfl)) (fun _ _ _ h => h) (Or.inl ⟨by rfl, ?_⟩) hHeld ?_ ?_
         rotate_left
         ·rintro w' ⟨s0, s1, s2, s3, s4, s5, s6, s7, s8, s9, s10, s11, s12, s13, s14, s15, s16, s17⟩
          go_simp
          with_reducible rfl
         rotate_left
         ·simp only [Act.put, sA, sB, sC, i64_w, i32_w]
          rfl
         refine one_ (i := 17) (N := some 49) #[T,T,T,T,T,T,T,T,T,T,T,T,T,T,T,T,T,T,F,F,F,F,F,F,F,F,F,F,F] rfl rfl (one_of HT_.out (by kernel_rfl)) (by decide) (fun K hK => ?_)
         refine goes_ Tryd.func16 (by kernel_rfl) rfl #[.agg #[.int .i32 t218, .int .i32 t219, .int .i32 t220, .int .i32 t221], .agg #[.int .i32 a2_0, .int .i32 a2_1]] (by rfl) rfl rfl (by (try simp only [List.map_toArray, List.map_cons, List.map_nil]); first | done | rfl | (simp only [List.length_drop, List.length_take]; rfl)) ?_
         with_reducible refine (box_Contains.calls t218 t219 t220 t221 a2_0 a2_1 true _ A114.out).mono ?_
         rintro e w122 ⟨rfl, hb⟩
         refine ⟨_, rfl, ?_⟩
         have n_ := kB7 BK199 BK200 BK201 BK207 BK212 BK217 BK222 HB (by repeat first | exact lR _ _ | apply lN | apply lD | apply lA) hb
         clear BK199 BK200 BK201 BK207 BK212 BK217 BK222 HB
         obtain ⟨BK199, BK200, BK201, BK207, BK212, BK217, BK222, HB⟩ := n_
         (try clear hb)
         (try clear hb2)
         (try clear hk)
         (try clear hi)
         refine hK.out _ _ ⟨(bC BK217.out 0).trans rfl, (bC BK217.out 1).trans rfl, (bC BK217.out 2).trans rfl, (bC BK217.out 3).trans rfl, (bC BK201.out 0).trans rfl, (bC BK201.out 1).trans rfl, (bC BK207.out 0).trans rfl, (bC BK207.out 1).trans rfl, (bC BK207.out 2).trans rfl, (bC BK207.out 3).trans rfl, (bC BK212.out 0).trans rfl, (bC BK212.out 1).trans rfl, (bC BK212.out 2).trans rfl, (bC BK212.out 3).trans rfl, (bC BK222.out 0).trans rfl, (bC BK222.out 1).trans rfl, (bC BK222.out 2).trans rfl, (bC BK222.out 3).trans rfl⟩ (fun hHeld => ?_)
         clear hK K
         refine norm_ (a' := ?_) ?_ ?_
         rotate_left
         ·show Act.put _ (some 49) _ = _
          simp only [Act.put, sA, sB, sC, i64_w, i32_w]
          rfl
         refine pure_ (i := 18) (N := some 50) (v := ?_) (a' := ?_) #[T,T,T,T,T,T,T,T,T,T,T,T,T,T,T,T,T,T,T,F,F,F,F,F,F,F,F,F,F] rfl rfl (any_of HT_.out (by kernel_rfl)) (fun _ _ _ h => h) (Or.inl ⟨by rfl, ?_⟩) ?_ ?_
         rotate_left
         ·intro w'
          go_simp
          with_reducible rfl
         rotate_left
         ·simp only [Act.put, sA, sB, sC, i64_w, i32_w]
          rfl
         refine pure_ (i := 19) (N := some 51) (v := ?_) (a' := ?_) #[T,T,T,T,T,T,T,T,T,T,T,T,T,T,T,T,T,T,T,T,F,F,F,F,F,F,F,F,F] rfl rfl (any_of HT_.out (by kernel_rfl)) (fun _ _ _ h => h) (Or.inl ⟨by rfl, ?_⟩) ?_ ?_
         rotate_left
         ·intro w'
          go_simp
          with_reducible rfl
         rotate_left
         ·simp only [Act.put, sA, sB, sC, i64_w, i32_w]
          rfl
         refine pure_ (i := 20) (N := some 52) (v := ?_) (a' := ?_) #[T,T,T,T,T,T,T,T,T,T,T,T,T,T,T,T,T,T,T,T,T,F,F,F,F,F,F,F,F] rfl rfl (any_of HT_.out (by kernel_rfl)) (fun _ _ _ h => h) (Or.inl ⟨by rfl, ?_⟩) ?_ ?_
         rotate_left
         ·intro w'
          go_simp
          with_reducible rfl
         rotate_left
         ·simp only [Act.put, sA, sB, sC, i64_w, i32_w]
          rfl
         refine pure_ (i := 21) (N := some 53) (v := ?_) (a' := ?_) #[T,T,T,T,T,T,T,T,T,T,T,T,T,T,T,T,T,T,T,T,T,T,F,F,F,F,F,F,F] rfl rfl (any_of HT_.out (by kernel_rfl)) (fun _ _ _ h => h) (Or.inl ⟨by rfl, ?_⟩) ?_ ?_
         rotate_left
         ·intro w'
          go_simp
          with_reducible rfl
         rotate_left
         ·simp only [Act.put, sA, sB, sC, i64_w, i32_w]
          rfl
         refine take_ (i := 22) (N := some 54) (v := ?_) (a' := ?_) #[T,T,T,T,T,T,T,T,T,T,T,T,T,T,T,T,T,T,T,T,T,T,T,F,F,F,F,F,F] rfl rfl (take_ofW HT_.out HW_.out (by kernel_rfl)) (fun _ _ _ h => h) (Or.inl ⟨by rfl, ?_⟩) hHeld ?_ ?_
         rotate_left
         ·rintro w' ⟨s0, s1, s2, s3, s4, s5, s6, s7, s8, s9, s10, s11, s12, s13, s14, s15, s16, s17⟩
          go_simp
          with_reducible rfl
         rotate_left
         ·simp only [Act.put, sA, sB, sC, i64_w, i32_w]
          rfl
         refine take_ (i := 23) (N := some 55) (v := ?_) (a' := ?_) #[T,T,T,T,T,T,T,T,T,T,T,T,T,T,T,T,T,T,T,T,T,T,T,T,F,F,F,F,F] rfl rfl (take_ofW HT_.out HW_.out (by kernel_rfl)) (fun _ _ _ h => h) (Or.inl ⟨by rfl, ?_⟩) hHeld ?_ ?_
         rotate_left
         ·rintro w' ⟨s0, s1, s2, s3, s4, s5, s6, s7, s8, s9, s10, s11, s12, s13, s14, s15, s16, s17⟩
          go_simp
          with_reducible rfl
         rotate_left
         ·simp only [Act.put, sA, sB, sC, i64_w, i32_w]
          rfl
         refine take_ (i := 25) (N := some 57) (v := ?_) (a' := ?_) #[T,T,T,T,T,T,T,T,T,T,T,T,T,T,T,T,T,T,T,T,T,T,T,T,F,T,F,F,F] rfl rfl (take_ofW HT_.out HW_.out (by kernel_rfl)) (fun _ _ _ h => h) (Or.inl ⟨by rfl, ?_⟩) hHeld ?_ ?_
         rotate_left
         ·rintro w' ⟨s0, s1, s2, s3, s4, s5, s6, s7, s8, s9, s10, s11, s12, s13, s14, s15, s16, s17⟩
          go_simp
          with_reducible rfl
         rotate_left
         ·simp only [Act.put, sA, sB, sC, i64_w, i32_w]
          rfl
         refine one_ (i := 24) (N := some 56) #[T,T,T,T,T,T,T,T,T,T,T,T,T,T,T,T,T,T,T,T,T,T,T,T,T,T,F,F,F] rfl rfl (one_of HT_.out (by kernel_rfl)) (by decide) (fun K hK => ?_)
         refine goes_ Tryd.func14 (by kernel_rfl) rfl #[.agg #[.int .i32 t203, .int .i32 t204, .int .i32 t205, .int .i32 t206], .agg #[.int .i32 t208, .int .i32 t209, .int .i32 t210, .int .i32 t211]] (by rfl) rfl rfl (by (try simp only [List.map_toArray, List.map_cons, List.map_nil]); first | done | rfl | (simp only [List.length_drop, List.length_take]; rfl)) ?_
         with_reducible refine (box_Overlap.calls t203 t204 t205 t206 t208 t209 t210 t211 t232 _ A116.out (HGN.out.below (by repeat (first | (with_reducible first | exact HB.out | apply lA | apply lN | apply lD | refine lS ?_ GE199.out | refine lS ?_ GE200.out | refine lS ?_ GE201.out | refine lS ?_ GE207.out | refine lS ?_ GE212.out | refine lS ?_ GE217.out | refine lS ?_ GE222.out) | exact HB.out)))).mono ?_
         rintro e w123 ⟨rfl, hb⟩
         refine ⟨_, rfl, ?_⟩
         have n_ := kB7 BK199 BK200 BK201 BK207 BK212 BK217 BK222 HB (by repeat first | exact lR _ _ | apply lN | apply lD | apply lA) hb
         clear BK199 BK200 BK201 BK207 BK212 BK217 BK222 HB
         obtain ⟨BK199, BK200, BK201, BK207, BK212, BK217, BK222, HB⟩ := n_
         (try clear hb)
         (try clear hb2)
         (try clear hk)
         (try clear hi)
         refine hK.out _ _ ⟨(bC BK217.out 0).trans rfl, (bC BK217.out 1).trans rfl, (bC BK217.out 2).trans rfl, (bC BK217.out 3).trans rfl, (bC BK201.out 0).trans rfl, (bC BK201.out 1).trans rfl, (bC BK207.out 0).trans rfl, (bC BK207.out 1).trans rfl, (bC BK207.out 2).trans rfl, (bC BK207.out 3).trans rfl, (bC BK212.out 0).trans rfl, (bC BK212.out 1).trans rfl, (bC BK212.out 2).trans rfl, (bC BK212.out 3).trans rfl, (bC BK222.out 0).trans rfl, (bC BK222.out 1).trans rfl, (bC BK222.out 2).trans rfl, (bC BK222.out 3).trans rfl⟩ (fun hHeld => ?_)
         clear hK K
         refine norm_ (a' := ?_) ?_ ?_
         rotate_left
         ·show Act.put _ (some 56) _ = _
          simp only [Act.put, sA, sB, sC, i64_w, i32_w]
          rfl
         refine one_ (i := 26) (N := some 58) #[T,T,T,T,T,T,T,T,T,T,T,T,T,T,T,T,T,T,T,T,T,T,T,T,T,T,T,F,F] rfl rfl (one_of HT_.out (by kernel_rfl)) (by decide) (fun K hK => ?_)
         refine goes_ Tryd.func12 (by kernel_rfl) rfl #[.agg #[.int .i32 t213, .int .i32 t214, .int .i32 t215, .int .i32 t216]] (by rfl) rfl rfl (by (try simp only [List.map_toArray, List.map_cons, List.map_nil]); first | done | rfl | (simp only [List.length_drop, List.length_take]; rfl)) ?_
         with_reducible refine (box_Empty.calls t213 t214 t215 t216 t233 _ A117.out).mono ?_
         rintro e w124 ⟨rfl, hb⟩
         refine ⟨_, rfl, ?_⟩
         have n_ := kB7 BK199 BK200 BK201 BK207 BK212 BK217 BK222 HB (by repeat first | exact lR _ _ | apply lN | apply lD | apply lA) hb
         clear BK199 BK200 BK201 BK207 BK212 BK217 BK222 HB
         obtain ⟨BK199, BK200, BK201, BK207, BK212, BK217, BK222, HB⟩ := n_
         (try clear hb)
         (try clear hb2)
         (try clear hk)
         (try clear hi)
         refine hK.out _ _ ⟨(bC BK217.out 0).trans rfl, (bC BK217.out 1).trans rfl, (bC BK217.out 2).trans rfl, (bC BK217.out 3).trans rfl, (bC BK201.out 0).trans rfl, (bC BK201.out 1).trans rfl, (bC BK207.out 0).trans rfl, (bC BK207.out 1).trans rfl, (bC BK207.out 2).trans rfl, (bC BK207.out 3).trans rfl, (bC BK212.out 0).trans rfl, (bC BK212.out 1).trans rfl, (bC BK212.out 2).trans rfl, (bC BK212.out 3).trans rfl, (bC BK222.out 0).trans rfl, (bC BK222.out 1).trans rfl, (bC BK222.out 2).trans rfl, (bC BK222.out 3).trans rfl⟩ (fun hHeld => ?_)
         clear hK K
         refine norm_ (a' := ?_) ?_ ?_
         rotate_left
         ·show Act.put _ (some 58) _ = _
          simp only [Act.put, sA, sB, sC, i64_w, i32_w]
          rfl
         refine pure_ (i := 27) (N := some 59) (v := ?_) (a' := ?_) #[T,T,T,T,T,T,T,T,T,T,T,T,T,T,T,T,T,T,T,T,T,T,T,T,T,T,T,T,F] rfl rfl (any_of HT_.out (by kernel_rfl)) (fun _ _ _ h => h) (Or.inl ⟨by rfl, ?_⟩) ?_ ?_
         rotate_left
         ·intro w'
          go_simp
          with_reducible rfl
         rotate_left
         ·simp only [Act.put, sA, sB, sC, i64_w, i32_w]
          rfl
         refine pure_ (i := 28) (N := some 60) (v := ?_) (a' := ?_) #[T,T,T,T,T,T,T,T,T,T,T,T,T,T,T,T,T,T,T,T,T,T,T,T,T,T,T,T,T] rfl rfl (any_of HT_.out (by kernel_rfl)) (fun _ _ _ h => h) (Or.inl ⟨by rfl, ?_⟩) ?_ ?_
         rotate_left
         ·intro w'
          go_simp
          with_reducible rfl
         rotate_left
         ·simp only [Act.put, sA, sB, sC, i64_w, i32_w]
          rfl
         refine done_ (done_of HT_.out (by kernel_rfl)) ?_
         try go_wp2
         go_meet
         case rel => exact ⟨_, ((t232 == t233)), (by first | rfl | (simp; done) | (simp [*]; done)), H', ⟨by have := HJ9.out; first | omega | exact Nat.le_refl _⟩, ⟨by (with_reducible repeat first | apply bN | apply bD | apply bA); exact BK199.out⟩, ⟨by (with_reducible repeat first | apply bN | apply bD | apply bA); exact BK200.out⟩, ⟨by (with_reducible repeat first | apply bN | apply bD | apply bA); exact BK201.out⟩, ⟨by (with_reducible repeat first | apply bN | apply bD | apply bA); exact BK207.out⟩, ⟨by (with_reducible repeat first | apply bN | apply bD | apply bA); exact BK212.out⟩, ⟨by (with_reducible repeat first | apply bN | apply bD | apply bA); exact BK217.out⟩, ⟨by (with_reducible repeat first | apply bN | apply bD | apply bA); exact BK222.out⟩, ⟨by repeat (first | (with_reducible first | exact HB.out | apply lA | apply lN | apply lD | refine lS ?_ GE199.out | refine lS ?_ GE200.out | refine lS ?_ GE201.out | refine lS ?_ GE207.out | refine lS ?_ GE212.out | refine lS ?_ GE217.out | refine lS ?_ GE222.out) | exact HB.out)⟩⟩
        ·replace c115 := Bool.eq_false_iff.mpr c115
         subst c115
         have H1 : (billiardlaw08_BoxMeets.j1 kj9 true a0_0 a0_1 a0_2 a0_3 a1_0 a1_1 a1_2 a1_3 t203 t204 t205 t206 t208 t209 t210 t211 t213 t214 t215 t216 t218 t219 t220 t221) = some r := by rw [if_neg (show ¬ (false = true) by decide)] at H; exact H
         exact (billiardlaw08_BoxMeets.j1.dead H1 HR.out).elim
       ·replace c113 := Bool.eq_false_iff.mpr c113
        subst c113
        rw [if_neg (show ¬ (false = true) by decide)] at H
        replace H := Option.bind_eq_some_iff.mp H
        obtain ⟨t234, A1300, H⟩ := H
        try dsimp only at H
        have A130 := aM A1300
        clear A1300
        replace H := Option.bind_eq_some_iff.mp H
        obtain ⟨t235, A1310, H⟩ := H
        try dsimp only at H
        have A131 := aM A1310
        clear A1310
        have H' := aM H
        clear H
        try go_wp2
        have n_ := kA7 BK199 BK200 BK201 BK207 BK212 BK217 BK222 HB (lD (lR _ _))
        clear BK199 BK200 BK201 BK207 BK212 BK217 BK222 HB
        obtain ⟨BK199, BK200, BK201, BK207, BK212, BK217, BK222, HB⟩ := n_
        refine start_ (n := 29) (S := fun w' => w'.cell? ⟨b217, 0, none⟩ = some (.int .i32 t213) ∧ w'.cell? ⟨b217, 1, none⟩ = some (.int .i32 t214) ∧ w'.cell? ⟨b217, 2, none⟩ = some (.int .i32 t215) ∧ w'.cell? ⟨b217, 3, none⟩ = some (.int .i32 t216) ∧ w'.cell? ⟨b201, 0, none⟩ = some (.int .i32 a2_0) ∧ w'.cell? ⟨b201, 1, none⟩ = some (.int .i32 a2_1) ∧ w'.cell? ⟨b207, 0, none⟩ = some (.int .i32 t203) ∧ w'.cell? ⟨b207, 1, none⟩ = some (.int .i32 t204) ∧ w'.cell? ⟨b207, 2, none⟩ = some (.int .i32 t205) ∧ w'.cell? ⟨b207, 3, none⟩ = some (.int .i32 t206) ∧ w'.cell? ⟨b212, 0, none⟩ = some (.int .i32 t208) ∧ w'.cell? ⟨b212, 1, none⟩ = some (.int .i32 t209) ∧ w'.cell? ⟨b212, 2, none⟩ = some (.int .i32 t210) ∧ w'.cell? ⟨b212, 3, none⟩ = some (.int .i32 t211)) (ds := []) #[F,F,F,F,F,F,F,F,F,F,F,F,F,F,F,F,F,F,F,F,F,F,F,F,F,F,F,F,F] (by kernel_rfl) rfl rfl ⟨(bC BK217.out 0).trans rfl, (bC BK217.out 1).trans rfl, (bC BK217.out 2).trans rfl, (bC BK217.out 3).trans rfl, (bC BK201.out 0).trans rfl, (bC BK201.out 1).trans rfl, (bC BK207.out 0).trans rfl, (bC BK207.out 1).trans rfl, (bC BK207.out 2).trans rfl, (bC BK207.out 3).trans rfl, (bC BK212.out 0).trans rfl, (bC BK212.out 1).trans rfl, (bC BK212.out 2).trans rfl, (bC BK212.out 3).trans rfl⟩ (fun hHeld => ?_); refine with_tabW billiardlaw08_BoxMeets.tab8 billiardlaw08_BoxMeets.bits8 (fun HT_ HW_ => ?_)
        generalize wc.drew = w132 at BK199 BK200 BK201 BK207 BK212 BK217 BK222 HB hHeld ⊢
        refine pure_ (i := 3) (N := some 35) (v := ?_) (a' := ?_) #[F,F,F,T,F,F,F,F,F,F,F,F,F,F,F,F,F,F,F,F,F,F,F,F,F,F,F,F,F] rfl rfl (any_of HT_.out (by kernel_rfl)) (fun _ _ _ h => h) (Or.inl ⟨by rfl, ?_⟩) ?_ ?_
        rotate_left
        ·intro w'
         go_simp
         with_reducible rfl
        rotate_left
        ·simp only [Act.put, sA, sB, sC, i64_w, i32_w]
         rfl
        refine take_ (i := 0) (N := some 32) (v := ?_) (a' := ?_) #[T,F,F,T,F,F,F,F,F,F,F,F,F,F,F,F,F,F,F,F,F,F,F,F,F,F,F,F,F] rfl rfl (take_ofW HT_.out HW_.out (by kernel_rfl)) (fun _ _ _ h => h) (Or.inl ⟨by rfl, ?_⟩) hHeld ?_ ?_
        rotate_left
        ·rintro w' ⟨s0, s1, s2, s3, s4, s5, s6, s7, s8, s9, s10, s11, s12, s13⟩
         go_simp
         with_reducible rfl
        rotate_left
        ·simp only [Act.put, sA, sB, sC, i64_w, i32_w]
         rfl
        refine take_ (i := 1) (N := some 33) (v := ?_) (a' := ?_) #[T,T,F,T,F,F,F,F,F,F,F,F,F,F,F,F,F,F,F,F,F,F,F,F,F,F,F,F,F] rfl rfl (take_ofW HT_.out HW_.out (by kernel_rfl)) (fun _ _ _ h => h) (Or.inl ⟨by rfl, ?_⟩) hHeld ?_ ?_
        rotate_left
        ·rintro w' ⟨s0, s1, s2, s3, s4, s5, s6, s7, s8, s9, s10, s11, s12, s13⟩
         go_simp
         with_reducible rfl
        rotate_left
        ·simp only [Act.put, sA, sB, sC, i64_w, i32_w]
         rfl
        refine one_ (i := 2) (N := some 34) #[T,T,T,T,F,F,F,F,F,F,F,F,F,F,F,F,F,F,F,F,F,F,F,F,F,F,F,F,F] rfl rfl (one_of HT_.out (by kernel_rfl)) (by decide) (fun K hK => ?_)
        refine goes_ Tryd.func16 (by kernel_rfl) rfl #[.agg #[.int .i32 t213, .int .i32 t214, .int .i32 t215, .int .i32 t216], .agg #[.int .i32 a2_0, .int .i32 a2_1]] (by rfl) rfl rfl (by (try simp only [List.map_toArray, List.map_cons, List.map_nil]); first | done | rfl | (simp only [List.length_drop, List.length_take]; rfl)) ?_
        with_reducible refine (box_Contains.calls t213 t214 t215 t216 a2_0 a2_1 t225 _ A92.out).mono ?_
        rintro e w133 ⟨rfl, hb⟩
        refine ⟨_, rfl, ?_⟩
        have n_ := kB7 BK199 BK200 BK201 BK207 BK212 BK217 BK222 HB (by repeat first | exact lR _ _ | apply lN | apply lD | apply lA) hb
        clear BK199 BK200 BK201 BK207 BK212 BK217 BK222 HB
        obtain ⟨BK199, BK200, BK201, BK207, BK212, BK217, BK222, HB⟩ := n_
        (try clear hb)
        (try clear hb2)
        (try clear hk)
        (try clear hi)
        refine hK.out _ _ ⟨(bC BK217.out 0).trans rfl, (bC BK217.out 1).trans rfl, (bC BK217.out 2).trans rfl, (bC BK217.out 3).trans rfl, (bC BK201.out 0).trans rfl, (bC BK201.out 1).trans rfl, (bC BK207.out 0).trans rfl, (bC BK207.out 1).trans rfl, (bC BK207.out 2).trans rfl, (bC BK207.out 3).trans rfl, (bC BK212.out 0).trans rfl, (bC BK212.out 1).trans rfl, (bC BK212.out 2).trans rfl, (bC BK212.out 3).trans rfl⟩ (fun hHeld => ?_)
        clear hK K
        refine norm_ (a' := ?_) ?_ ?_
        rotate_left
        ·show Act.put _ (some 34) _ = _
         simp only [Act.put, sA, sB, sC, i64_w, i32_w]
         rfl
        refine pure_ (i := 4) (N := some 36) (v := ?_) (a' := ?_) #[T,T,T,T,T,F,F,F,F,F,F,F,F,F,F,F,F,F,F,F,F,F,F,F,F,F,F,F,F] rfl rfl (any_of HT_.out (by kernel_rfl)) (fun _ _ _ h => h) (Or.inl ⟨by rfl, ?_⟩) ?_ ?_
        rotate_left
        ·intro w'
         go_simp
         with_reducible rfl
        rotate_left
        ·simp only [Act.put, sA, sB, sC, i64_w, i32_w]
         rfl
        refine pure_ (i := 5) (N := some 37) (v := ?_) (a' := ?_) #[T,T,T,T,T,T,F,F,F,F,F,F,F,F,F,F,F,F,F,F,F,F,F,F,F,F,F,F,F] rfl rfl (any_of HT_.out (by kernel_rfl)) (fun _ _ _ h => h) (Or.inl ⟨by rfl, ?_⟩) ?_ ?_
        rotate_left
        ·intro w'
         go_simp
         with_reducible rfl
        rotate_left
        ·simp only [Act.put, sA, sB, sC, i64_w, i32_w]
         rfl
        refine take_ (i := 6) (N := some 38) (v := ?_) (a' := ?_) #[T,T,T,T,T,T,T,F,F,F,F,F,F,F,F,F,F,F,F,F,F,F,F,F,F,F,F,F,F] rfl rfl (take_ofW HT_.out HW_.out (by kernel_rfl)) (fun _ _ _ h => h) (Or.inl ⟨by rfl, ?_⟩) hHeld ?_ ?_
        rotate_left
        ·rintro w' ⟨s0, s1, s2, s3, s4, s5, s6, s7, s8, s9, s10, s11, s12, s13⟩
         go_simp
         with_reducible rfl
        rotate_left
        ·simp only [Act.put, sA, sB, sC, i64_w, i32_w]
         rfl
        refine take_ (i := 7) (N := some 39) (v := ?_) (a' := ?_) #[T,T,T,T,T,T,T,T,F,F,F,F,F,F,F,F,F,F,F,F,F,F,F,F,F,F,F,F,F] rfl rfl (take_ofW HT_.out HW_.out (by kernel_rfl)) (fun _ _ _ h => h) (Or.inl ⟨by rfl, ?_⟩) hHeld ?_ ?_
        rotate_left
        ·rintro w' ⟨s0, s1, s2, s3, s4, s5, s6, s7, s8, s9, s10, s11, s12, s13⟩
         go_simp
         with_reducible rfl
        rotate_left
        ·simp only [Act.put, sA, sB, sC, i64_w, i32_w]
         rfl
        refine one_ (i := 8) (N := some 40) #[T,T,T,T,T,T,T,T,T,F,F,F,F,F,F,F,F,F,F,F,F,F,F,F,F,F,F,F,F] rfl rfl (one_of HT_.out (by kernel_rfl)) (by decide) (fun K hK => ?_)
        refine goes_ Tryd.func16 (by kernel_rfl) rfl #[.agg #[.int .i32 t203, .int .i32 t204, .int .i32 t205, .int .i32 t206], .agg #[.int .i32 a2_0, .int .i32 a2_1]] (by rfl) rfl rfl (by (try simp only [List.map_toArray, List.map_cons, List.map_nil]); first | done | rfl | (simp only [List.length_drop, List.length_take]; rfl)) ?_
        with_reducible refine (box_Contains.calls t203 t204 t205 t206 a2_0 a2_1 false _ A96.out).mono ?_
        rintro e w134 ⟨rfl, hb⟩
        refine ⟨_, rfl, ?_⟩
        have n_ := kB7 BK199 BK200 BK201 BK207 BK212 BK217 BK222 HB (by repeat first | exact lR _ _ | apply lN | apply lD | apply lA) hb
        clear BK199 BK200 BK201 BK207 BK212 BK217 BK222 HB
        obtain ⟨BK199, BK200, BK201, BK207, BK212, BK217, BK222, HB⟩ := n_
        (try clear hb)
        (try clear hb2)
        (try clear hk)
        (try clear hi)
        refine hK.out _ _ ⟨(bC BK217.out 0).trans rfl, (bC BK217.out 1).trans rfl, (bC BK217.out 2).trans rfl, (bC BK217.out 3).trans rfl, (bC BK201.out 0).trans rfl, (bC BK201.out 1).trans rfl, (bC BK207.out 0).trans rfl, (bC BK207.out 1).trans rfl, (bC BK207.out 2).trans rfl, (bC BK207.out 3).trans rfl, (bC BK212.out 0).trans rfl, (bC BK212.out 1).trans rfl, (bC BK212.out 2).trans rfl, (bC BK212.out 3).trans rfl⟩ (fun hHeld => ?_)
        clear hK K
        refine norm_ (a' := ?_) ?_ ?_
        rotate_left
        ·show Act.put _ (some 40) _ = _
         simp only [Act.put, sA, sB, sC, i64_w, i32_w]
         rfl
        refine pure_ (i := 9) (N := some 41) (v := ?_) (a' := ?_) #[T,T,T,T,T,T,T,T,T,T,F,F,F,F,F,F,F,F,F,F,F,F,F,F,F,F,F,F,F] rfl rfl (any_of HT_.out (by kernel_rfl)) (fun _ _ _ h => h) (Or.inl ⟨by rfl, ?_⟩) ?_ ?_
        rotate_left
        ·intro w'
         go_simp
         with_reducible rfl
        rotate_left
        ·simp only [Act.put, sA, sB, sC, i64_w, i32_w]
         rfl
        refine take_ (i := 10) (N := some 42) (v := ?_) (a' := ?_) #[T,T,T,T,T,T,T,T,T,T,T,F,F,F,F,F,F,F,F,F,F,F,F,F,F,F,F,F,F] rfl rfl (take_ofW HT_.out HW_.out (by kernel_rfl)) (fun _ _ _ h => h) (Or.inl ⟨by rfl, ?_⟩) hHeld ?_ ?_
        rotate_left
        ·rintro w' ⟨s0, s1, s2, s3, s4, s5, s6, s7, s8, s9, s10, s11, s12, s13⟩
         go_simp
         with_reducible rfl
        rotate_left
        ·simp only [Act.put, sA, sB, sC, i64_w, i32_w]
         rfl
        refine take_ (i := 11) (N := some 43) (v := ?_) (a' := ?_) #[T,T,T,T,T,T,T,T,T,T,T,T,F,F,F,F,F,F,F,F,F,F,F,F,F,F,F,F,F] rfl rfl (take_ofW HT_.out HW_.out (by kernel_rfl)) (fun _ _ _ h => h) (Or.inl ⟨by rfl, ?_⟩) hHeld ?_ ?_
        rotate_left
        ·rintro w' ⟨s0, s1, s2, s3, s4, s5, s6, s7, s8, s9, s10, s11, s12, s13⟩
         go_simp
         with_reducible rfl
        rotate_left
        ·simp only [Act.put, sA, sB, sC, i64_w, i32_w]
         rfl
        refine one_ (i := 12) (N := some 44) #[T,T,T,T,T,T,T,T,T,T,T,T,T,F,F,F,F,F,F,F,F,F,F,F,F,F,F,F,F] rfl rfl (one_of HT_.out (by kernel_rfl)) (by decide) (fun K hK => ?_)
        refine goes_ Tryd.func16 (by kernel_rfl) rfl #[.agg #[.int .i32 t208, .int .i32 t209, .int .i32 t210, .int .i32 t211], .agg #[.int .i32 a2_0, .int .i32 a2_1]] (by rfl) rfl rfl (by (try simp only [List.map_toArray, List.map_cons, List.map_nil]); first | done | rfl | (simp only [List.length_drop, List.length_take]; rfl)) ?_
        with_reducible refine (box_Contains.calls t208 t209 t210 t211 a2_0 a2_1 false _ A112.out).mono ?_
        rintro e w135 ⟨rfl, hb⟩
        refine ⟨_, rfl, ?_⟩
        have n_ := kB7 BK199 BK200 BK201 BK207 BK212 BK217 BK222 HB (by repeat first | exact lR _ _ | apply lN | apply lD | apply lA) hb
        clear BK199 BK200 BK201 BK207 BK212 BK217 BK222 HB
        obtain ⟨BK199, BK200, BK201, BK207, BK212, BK217, BK222, HB⟩ := n_
        (try clear hb)
        (try clear hb2)
        (try clear hk)
        (try clear hi)
        refine hK.out _ _ ⟨(bC BK217.out 0).trans rfl, (bC BK217.out 1).trans rfl, (bC BK217.out 2).trans rfl, (bC BK217.out 3).trans rfl, (bC BK201.out 0).trans rfl, (bC BK201.out 1).trans rfl, (bC BK207.out 0).trans rfl, (bC BK207.out 1).trans rfl, (bC BK207.out 2).trans rfl, (bC BK207.out 3).trans rfl, (bC BK212.out 0).trans rfl, (bC BK212.out 1).trans rfl, (bC BK212.out 2).trans rfl, (bC BK212.out 3).trans rfl⟩ (fun hHeld => ?_)
        clear hK K
        refine norm_ (a' := ?_) ?_ ?_
        rotate_left
        ·show Act.put _ (some 44) _ = _
         simp only [Act.put, sA, sB, sC, i64_w, i32_w]
         rfl
        refine pure_ (i := 13) (N := some 45) (v := ?_) (a' := ?_) #[T,T,T,T,T,T,T,T,T,T,T,T,T,T,F,F,F,F,F,F,F,F,F,F,F,F,F,F,F] rfl rfl (any_of HT_.out (by kernel_rfl)) (fun _ _ _ h => h) (Or.inl ⟨by rfl, ?_⟩) ?_ ?_
        rotate_left
        ·intro w'
         go_simp
         with_reducible rfl
        rotate_left
        ·simp only [Act.put, sA, sB, sC, i64_w, i32_w]
         rfl
        refine pure_ (i := 14) (N := some 46) (v := ?_) (a' := ?_) #[T,T,T,T,T,T,T,T,T,T,T,T,T,T,T,F,F,F,F,F,F,F,F,F,F,F,F,F,F] rfl rfl (any_of HT_.out (by kernel_rfl)) (fun _ _ _ h => h) (Or.inl ⟨by rfl, ?_⟩) ?_ ?_
        rotate_left
        ·intro w'
         go_simp
         with_reducible rfl
        rotate_left
        ·simp only [Act.put, sA, sB, sC, i64_w, i32_w]
         rfl
        refine pure_ (i := 15) (N := some 47) (v := undef) (a' := ?_) #[T,T,T,T,T,T,T,T,T,T,T,T,T,T,T,T,F,F,F,F,F,F,F,F,F,F,F,F,F] rfl rfl (any_of HT_.out (by kernel_rfl)) (fun _ _ _ h => h) (Or.inr ⟨by rfl, rfl⟩) ?_ ?_
        rotate_left
        ·simp only [Act.put, sA, sB, sC, i64_w, i32_w]
         rfl
        refine pure_ (i := 16) (N := some 48) (v := undef) (a' := ?_) #[T,T,T,T,T,T,T,T,T,T,T,T,T,T,T,T,T,F,F,F,F,F,F,F,F,F,F,F,F] rfl rfl (any_of HT_.out (by kernel_rfl)) (fun _ _ _ h => h) (Or.inr ⟨by rfl, rfl⟩) ?_ ?_
        rotate_left
        ·simp only [Act.put, sA, sB, sC, i64_w, i32_w]
         rfl
        refine pure_ (i := 17) (N := some 49) (v := undef) (a' := ?_) #[T,T,T,T,T,T,T,T,T,T,T,T,T,T,T,T,T,T,F,F,F,F,F,F,F,F,F,F,F] rfl rfl (any_of HT_.out (by kernel_rfl)) (fun _ _ _ h => h) (Or.inr ⟨by rfl, rfl⟩) ?_ ?_
        rotate_left
        ·simp only [Act.put, sA, sB, sC, i64_w, i32_w]
         rfl
        refine pure_ (i := 18) (N := some 50) (v := undef) (a' := ?_) #[T,T,T,T,T,T,T,T,T,T,T,T,T,T,T,T,T,T,T,F,F,F,F,F,F,F,F,F,F] rfl rfl (any_of HT_.out (by kernel_rfl)) (fun _ _ _ h => h) (Or.inr ⟨by rfl, rfl⟩) ?_ ?_
        rotate_left
        ·simp only [Act.put, sA, sB, sC, i64_w, i32_w]
         rfl
        refine pure_ (i := 19) (N := some 51) (v := ?_) (a' := ?_) #[T,T,T,T,T,T,T,T,T,T,T,T,T,T,T,T,T,T,T,T,F,F,F,F,F,F,F,F,F] rfl rfl (any_of HT_.out (by kernel_rfl)) (fun _ _ _ h => h) (Or.inl ⟨by rfl, ?_⟩) ?_ ?_
        rotate_left
        ·intro w'
         go_simp
         with_reducible rfl
        rotate_left
        ·simp only [Act.put, sA, sB, sC, i64_w, i32_w]
         rfl
        refine pure_ (i := 20) (N := some 52) (v := ?_) (a' := ?_) #[T,T,T,T,T,T,T,T,T,T,T,T,T,T,T,T,T,T,T,T,T,F,F,F,F,F,F,F,F] rfl rfl (any_of HT_.out (by kernel_rfl)) (fun _ _ _ h => h) (Or.inl ⟨by rfl, ?_⟩) ?_ ?_
        rotate_left
        ·intro w'
         go_simp
         with_reducible rfl
        rotate_left
        ·simp only [Act.put, sA, sB, sC, i64_w, i32_w]
         rfl
        refine pure_ (i := 21) (N := some 53) (v := ?_) (a' := ?_) #[T,T,T,T,T,T,T,T,T,T,T,T,T,T,T,T,T,T,T,T,T,T,F,F,F,F,F,F,F] rfl rfl (any_of HT_.out (by kernel_rfl)) (fun _ _ _ h => h) (Or.inl ⟨by rfl, ?_⟩) ?_ ?_
        rotate_left
        ·intro w'
         go_simp
         with_reducible rfl
        rotate_left
        ·simp only [Act.put, sA, sB, sC, i64_w, i32_w]
         rfl
        refine take_ (i := 22) (N := some 54) (v := ?_) (a' := ?_) #[T,T,T,T,T,T,T,T,T,T,T,T,T,T,T,T,T,T,T,T,T,T,T,F,F,F,F,F,F] rfl rfl (take_ofW HT_.out HW_.out (by kernel_rfl)) (fun _ _ _ h => h) (Or.inl ⟨by rfl, ?_⟩) hHeld ?_ ?_
        rotate_left
        ·rintro w' ⟨s0, s1, s2, s3, s4, s5, s6, s7, s8, s9, s10, s11, s12, s13⟩
         go_simp
         with_reducible rfl
        rotate_left
        ·simp only [Act.put, sA, sB, sC, i64_w, i32_w]
         rfl
        refine take_ (i := 23) (N := some 55) (v := ?_) (a' := ?_) #[T,T,T,T,T,T,T,T,T,T,T,T,T,T,T,T,T,T,T,T,T,T,T,T,F,F,F,F,F] rfl rfl (take_ofW HT_.out HW_.out (by kernel_rfl)) (fun _ _ _ h => h) (Or.inl ⟨by rfl, ?_⟩) hHeld ?_ ?_
        rotate_left
        ·rintro w' ⟨s0, s1, s2, s3, s4, s5, s6, s7, s8, s9, s10, s11, s12, s13⟩
         go_simp
         with_reducible rfl
        rotate_left
        ·simp only [Act.put, sA, sB, sC, i64_w, i32_w]
         rfl
        refine take_ (i := 25) (N := some 57) (v := ?_) (a' := ?_) #[T,T,T,T,T,T,T,T,T,T,T,T,T,T,T,T,T,T,T,T,T,T,T,T,F,T,F,F,F] rfl rfl (take_ofW HT_.out HW_.out (by kernel_rfl)) (fun _ _ _ h => h) (Or.inl ⟨by rfl, ?_⟩) hHeld ?_ ?_
        rotate_left
        ·rintro w' ⟨s0, s1, s2, s3, s4, s5, s6, s7, s8, s9, s10, s11, s12, s13⟩
         go_simp
         with_reducible rfl
        rotate_left
        ·simp only [Act.put, sA, sB, sC, i64_w, i32_w]
         rfl
        refine one_ (i := 24) (N := some 56) #[T,T,T,T,T,T,T,T,T,T,T,T,T,T,T,T,T,T,T,T,T,T,T,T,T,T,F,F,F] rfl rfl (one_of HT_.out (by kernel_rfl)) (by decide) (fun K hK => ?_)
        refine goes_ Tryd.func14 (by kernel_rfl) rfl #[.agg #[.int .i32 t203, .int .i32 t204, .int .i32 t205, .int .i32 t206], .agg #[.int .i32 t208, .int .i32 t209, .int .i32 t210, .int .i32 t211]] (by rfl) rfl rfl (by (try simp only [List.map_toArray, List.map_cons, List.map_nil]); first | done | rfl | (simp only [List.length_drop, List.length_take]; rfl)) ?_
        with_reducible refine (box_Overlap.calls t203 t204 t205 t206 t208 t209 t210 t211 t234 _ A130.out (HGN.out.below (by repeat (first | (with_reducible first | exact HB.out | apply lA | apply lN | apply lD | refine lS ?_ GE199.out | refine lS ?_ GE200.out | refine lS ?_ GE201.out | refine lS ?_ GE207.out | refine lS ?_ GE212.out | refine lS ?_ GE217.out | refine lS ?_ GE222.out) | exact HB.out)))).mono ?_
        rintro e w136 ⟨rfl, hb⟩
        refine ⟨_, rfl, ?_⟩
        have n_ := kB7 BK199 BK200 BK201 BK207 BK212 BK217 BK222 HB (by repeat first | exact lR _ _ | apply lN | apply lD | apply lA) hb
        clear BK199 BK200 BK201 BK207 BK212 BK217 BK222 HB
        obtain ⟨BK199, BK200, BK201, BK207, BK212, BK217, BK222, HB⟩ := n_
        (try clear hb)
        (try clear hb2)
        (try clear hk)
        (try clear hi)
        refine hK.out _ _ ⟨(bC BK217.out 0).trans rfl, (bC BK217.out 1).trans rfl, (bC BK217.out 2).trans rfl, (bC BK217.out 3).trans rfl, (bC BK201.out 0).trans rfl, (bC BK201.out 1).trans rfl, (bC BK207.out 0).trans rfl, (bC BK207.out 1).trans rfl, (bC BK207.out 2).trans rfl, (bC BK207.out 3).trans rfl, (bC BK212.out 0).trans rfl, (bC BK212.out 1).trans rfl, (bC BK212.out 2).trans rfl, (bC BK212.out 3).trans rfl⟩ (fun hHeld => ?_)
        clear hK K
        refine norm_ (a' := ?_) ?_ ?_
        rotate_left
        ·show Act.put _ (some 56) _ = _
         simp only [Act.put, sA, sB, sC, i64_w, i32_w]
         rfl
        refine one_ (i := 26) (N := some 58) #[T,T,T,T,T,T,T,T,T,T,T,T,T,T,T,T,T,T,T,T,T,T,T,T,T,T,T,F,F] rfl rfl (one_of HT_.out (by kernel_rfl)) (by decide) (fun K hK => ?_)
        refine goes_ Tryd.func12 (by kernel_rfl) rfl #[.agg #[.int .i32 t213, .int .i32 t214, .int .i32 t215, .int .i32 t216]] (by rfl) rfl rfl (by (try simp only [List.map_toArray, List.map_cons, List.map_nil]); first | done | rfl | (simp only [List.length_drop, List.length_take]; rfl)) ?_
        with_reducible refine (box_Empty.calls t213 t214 t215 t216 t235 _ A131.out).mono ?_
        rintro e w137 ⟨rfl, hb⟩
        refine ⟨_, rfl, ?_⟩
        have n_ := kB7 BK199 BK200 BK201 BK207 BK212 BK217 BK222 HB (by repeat first | exact lR _ _ | apply lN | apply lD | apply lA) hb
        clear BK199 BK200 BK201 BK207 BK212 BK217 BK222 HB
        obtain ⟨BK199, BK200, BK201, BK207, BK212, BK217, BK222, HB⟩ := n_
        (try clear hb)
        (try clear hb2)
        (try clear hk)
        (try clear hi)
        refine hK.out _ _ ⟨(bC BK217.out 0).trans rfl, (bC BK217.out 1).trans rfl, (bC BK217.out 2).trans rfl, (bC BK217.out 3).trans rfl, (bC BK201.out 0).trans rfl, (bC BK201.out 1).trans rfl, (bC BK207.out 0).trans rfl, (bC BK207.out 1).trans rfl, (bC BK207.out 2).trans rfl, (bC BK207.out 3).trans rfl, (bC BK212.out 0).trans rfl, (bC BK212.out 1).trans rfl, (bC BK212.out 2).trans rfl, (bC BK212.out 3).trans rfl⟩ (fun hHeld => ?_)
        clear hK K
        refine norm_ (a' := ?_) ?_ ?_
        rotate_left
        ·show Act.put _ (some 58) _ = _
         simp only [Act.put, sA, sB, sC, i64_w, i32_w]
         rfl
        refine pure_ (i := 27) (N := some 59) (v := ?_) (a' := ?_) #[T,T,T,T,T,T,T,T,T,T,T,T,T,T,T,T,T,T,T,T,T,T,T,T,T,T,T,T,F] rfl rfl (any_of HT_.out (by kernel_rfl)) (fun _ _ _ h => h) (Or.inl ⟨by rfl, ?_⟩) ?_ ?_
        rotate_left
        ·intro w'
         go_simp
         with_reducible rfl
        rotate_left
        ·simp only [Act.put, sA, sB, sC, i64_w, i32_w]
         rfl
        refine pure_ (i := 28) (N := some 60) (v := ?_) (a' := ?_) #[T,T,T,T,T,T,T,T,T,T,T,T,T,T,T,T,T,T,T,T,T,T,T,T,T,T,T,T,T] rfl rfl (any_of HT_.out (by kernel_rfl)) (fun _ _ _ h => h) (Or.inl ⟨by rfl, ?_⟩) ?_ ?_
        rotate_left
        ·intro w'
         go_simp
         with_reducible rfl
        rotate_left
        ·simp only [Act.put, sA, sB, sC, i64_w, i32_w]
         rfl
        refine done_ (done_of HT_.out (by kernel_rfl)) ?_
        try go_wp2
        go_meet
        case rel => exact ⟨_, ((t234 == t235)), (by first | rfl | (simp; done) | (simp [*]; done)), H', ⟨by have := HJ9.out; first | omega | exact Nat.le_refl _⟩, ⟨by (with_reducible repeat first | apply bN | apply bD | apply bA); exact BK199.out⟩, ⟨by (with_reducible repeat first | apply bN | apply bD | apply bA); exact BK200.out⟩, ⟨by (with_reducible repeat first | apply bN | apply bD | apply bA); exact BK201.out⟩, ⟨by (with_reducible repeat first | apply bN | apply bD | apply bA); exact BK207.out⟩, ⟨by (with_reducible repeat first | apply bN | apply bD | apply bA); exact BK212.out⟩, ⟨by (with_reducible repeat first | apply bN | apply bD | apply bA); exact BK217.out⟩, ⟨by (with_reducible repeat first | apply bN | apply bD | apply bA); exact BK222.out⟩, ⟨by repeat (first | (with_reducible first | exact HB.out | apply lA | apply lN | apply lD | refine lS ?_ GE199.out | refine lS ?_ GE200.out | refine lS ?_ GE201.out | refine lS ?_ GE207.out | refine lS ?_ GE212.out | refine lS ?_ GE217.out | refine lS ?_ GE222.out) | exact HB.out)⟩⟩
    case rest =>
     clear HC91
     try clear c1
     try clear p2
     try clear c11
     try clear c12
     try clear c14
     try clear c16
     try clear c113
     obtain ⟨kq, x60_90, rfl, HA, HJ90, BK199, BK200, BK201, BK207, BK212, BK217, BK222, HB⟩ := hcut
     cases kq with
     | zero => exact absurd HA.out (by simp [billiardlaw08_BoxMeets.j1])
     | succ kj90 =>
      have H := HA.out
      clear HA
      simp only [billiardlaw08_BoxMeets.j1] at H
      by_cases c138 : x60_90 = true
      ·subst c138
       rw [if_pos rfl] at H
       exact absurd ((Option.some.inj H).trans HR.out) (by decide)
      ·replace c138 := Bool.eq_false_iff.mpr c138
       subst c138
       rw [if_neg (show ¬ (false = true) by decide)] at H
       have HC139 := aM H
       clear H
       go_upto_region 10 with (fail)
       go_cut [67] (fun v67 wc => ∃ (kq : Nat) (x67_138 : Bool), v67 = .bool x67_138 ∧ Aside0 (billiardlaw08_BoxMeets.j2 kq x67_138 a0_0 a0_1 a0_2 a0_3 a1_0 a1_1 a1_2 a1_3 t203 t204 t205 t206 t208 t209 t210 t211 t213 t214 t215 t216 t218 t219 t220 t221 = some r) ∧ Aside0 (kq ≤ kj90) ∧ Aside0 (wc.heap[b199]? = some (.cells #[.int .i32 a0_0, .int .i32 a0_1, .int .i32 a0_2, .int .i32 a0_3] 28 (0, 0))) ∧ Aside0 (wc.heap[b200]? = some (.cells #[.int .i32 a1_0, .int .i32 a1_1, .int .i32 a1_2, .int .i32 a1_3] 28 (0, 0))) ∧ Aside0 (wc.heap[b201]? = some (.cells #[.int .i32 a2_0, .int .i32 a2_1] 24 (0, 0))) ∧ Aside0 (wc.heap[b207]? = some (.cells #[.int .i32 t203, .int .i32 t204, .int .i32 t205, .int .i32 t206] 31 (0, 0))) ∧ Aside0 (wc.heap[b212]? = some (.cells #[.int .i32 t208, .int .i32 t209, .int .i32 t210, .int .i32 t211] 31 (0, 0))) ∧ Aside0 (wc.heap[b217]? = some (.cells #[.int .i32 t213, .int .i32 t214, .int .i32 t215, .int .i32 t216] 31 (0, 0))) ∧ Aside0 (wc.heap[b222]? = some (.cells #[.int .i32 t218, .int .i32 t219, .int .i32 t220, .int .i32 t221] 31 (0, 0))) ∧ Aside0 (Below w.heap.size w wc))
       case first =>
        have H := HC139.out
        clear HC139
        replace H := Option.bind_eq_some_iff.mp H
        obtain ⟨t236, A1400, H⟩ := H
        try dsimp only at H
        have A140 := aM A1400
        clear A1400
        by_cases c141 : t236 = true
        ·subst c141
         rw [if_pos rfl] at H
         have H' := aM H
         clear H
         have hnb142 := N21_.out
         have hnc142 := N20_.out
         have hnb143 := N23_.out
         have hnc143 := N22_.out
         have hnb144 := N25_.out
         have hnc144 := N24_.out
         have hnb145 := N27_.out
         have hnc145 := N26_.out
         have hnb146 := N29_.out
         have hnc146 := N28_.out
         have hnb147 := N40_.out
         have hnc147 := N41_.out
         have hcz148_0 : wc.cell? ⟨b217, 0, none⟩ = some (.int .i32 t213) := (bC BK217.out 0).trans rfl
         have hcz148_1 : wc.cell? ⟨b217, 1, none⟩ = some (.int .i32 t214) := (bC BK217.out 1).trans rfl
         have hcz148_2 : wc.cell? ⟨b217, 2, none⟩ = some (.int .i32 t215) := (bC BK217.out 2).trans rfl
         have hcz148_3 : wc.cell? ⟨b217, 3, none⟩ = some (.int .i32 t216) := (bC BK217.out 3).trans rfl
         have hfz148_0 := bF BK217.out 0
         have hfz148_1 := bF BK217.out 1
         have hfz148_2 := bF BK217.out 2
         have hfz148_3 := bF BK217.out 3
         go_wp2_with (first | ((with_reducible refine gate_callee (f := 12) rfl ?_); refine goesL_ (some 62) rfl rfl Tryd.func12 (by kernel_rfl) rfl #[.agg #[.int .i32 t213, .int .i32 t214, .int .i32 t215, .int .i32 t216]] rfl (by (try simp only [List.map_toArray, List.map_cons, List.map_nil]); first | done | rfl | (simp only [List.length_drop, List.length_take]; rfl)) ?_; (with_reducible refine (box_Empty.calls t213 t214 t215 t216 true _ A140.out).mono ?_); rintro e w149 ⟨rfl, hb⟩; refine ⟨_, rfl, ?_⟩; have n_ := kB7 BK199 BK200 BK201 BK207 BK212 BK217 BK222 HB (by repeat first | exact lR _ _ | apply lN | apply lD | apply lA) hb; clear BK199 BK200 BK201 BK207 BK212 BK217 BK222 HB; obtain ⟨BK199, BK200, BK201, BK207, BK212, BK217, BK222, HB⟩ := n_; (try clear hb); (try clear hb2); (try clear hk); (try clear hi); have hcz150_0 : w149.cell? ⟨b217, 0, none⟩ = some (.int .i32 t213) := (bC BK217.out 0).trans rfl; have hcz150_1 : w149.cell? ⟨b217, 1, none⟩ = some (.int .i32 t214) := (bC BK217.out 1).trans rfl; have hcz150_2 : w149.cell? ⟨b217, 2, none⟩ = some (.int .i32 t215) := (bC BK217.out 2).trans rfl; have hcz150_3 : w149.cell? ⟨b217, 3, none⟩ = some (.int .i32 t216) := (bC BK217.out 3).trans rfl; have hfz150_0 := bF BK217.out 0; have hfz150_1 := bF BK217.out 1; have hfz150_2 := bF BK217.out 2; have hfz150_3 := bF BK217.out 3))
         go_meet
         case rel => exact ⟨_, ((!(t213 == 1) || (!(t214 == 0) || (!(t215 == 0) || (!(t216 == 0)))))), (by first | rfl | (simp; done) | (simp [*]; done)), H', ⟨by have := HJ9.out; have := HJ90.out; first | omega | exact Nat.le_refl _⟩, ⟨by (with_reducible repeat first | apply bN | apply bD | apply bA); exact BK199.out⟩, ⟨by (with_reducible repeat first | apply bN | apply bD | apply bA); exact BK200.out⟩, ⟨by (with_reducible repeat first | apply bN | apply bD | apply bA); exact BK201.out⟩, ⟨by (with_reducible repeat first | apply bN | apply bD | apply bA); exact BK207.out⟩, ⟨by (with_reducible repeat first | apply bN | apply bD | apply bA); exact BK212.out⟩, ⟨by (with_reducible repeat first | apply bN | apply bD | apply bA); exact BK217.out⟩, ⟨by (with_reducible repeat first | apply bN | apply bD | apply bA); exact BK222.out⟩, ⟨by repeat (first | (with_reducible first | exact HB.out | apply lA | apply lN | apply lD | refine lS ?_ GE199.out | refine lS ?_ GE200.out | refine lS ?_ GE201.out | refine lS ?_ GE207.out | refine lS ?_ GE212.out | refine lS ?_ GE217.out | refine lS ?_ GE222.out) | exact HB.out)⟩⟩
        ·replace c141 := Bool.eq_false_iff.mpr c141
         subst c141
         rw [if_neg (show ¬ (false = true) by decide)] at H
         have H' := aM H
         clear H
         have hnb151 := N21_.out
         have hnc151 := N20_.out
         have hnb152 := N23_.out
         have hnc152 := N22_.out
         have hnb153 := N25_.out
         have hnc153 := N24_.out
         have hnb154 := N27_.out
         have hnc154 := N26_.out
         have hnb155 := N29_.out
         have hnc155 := N28_.out
         have hnb156 := N40_.out
         have hnc156 := N41_.out
         have hcz157_0 : wc.cell? ⟨b217, 0, none⟩ = some (.int .i32 t213) := (bC BK217.out 0).trans rfl
         have hcz157_1 : wc.cell? ⟨b217, 1, none⟩ = some (.int .i32 t214) := (bC BK217.out 1).trans rfl
         have hcz157_2 : wc.cell? ⟨b217, 2, none⟩ = some (.int .i32 t215) := (bC BK217.out 2).trans rfl
         have hcz157_3 : wc.cell? ⟨b217, 3, none⟩ = some (.int .i32 t216) := (bC BK217.out 3).trans rfl
         have hfz157_0 := bF BK217.out 0
         have hfz157_1 := bF BK217.out 1
         have hfz157_2 := bF BK217.out 2
         have hfz157_3 := bF BK217.out 3
         go_wp2_with (first | ((with_reducible refine gate_callee (f := 12) rfl ?_); refine goesL_ (some 62) rfl rfl Tryd.func12 (by kernel_rfl) rfl #[.agg #[.int .i32 t213, .int .i32 t214, .int .i32 t215, .int .i32 t216]] rfl (by (try simp only [List.map_toArray, List.map_cons, List.map_nil]); first | done | rfl | (simp only [List.length_drop, List.length_take]; rfl)) ?_; (with_reducible refine (box_Empty.calls t213 t214 t215 t216 false _ A140.out).mono ?_); rintro e w158 ⟨rfl, hb⟩; refine ⟨_, rfl, ?_⟩; have n_ := kB7 BK199 BK200 BK201 BK207 BK212 BK217 BK222 HB (by repeat first | exact lR _ _ | apply lN | apply lD | apply lA) hb; clear BK199 BK200 BK201 BK207 BK212 BK217 BK222 HB; obtain ⟨BK199, BK200, BK201, BK207, BK212, BK217, BK222, HB⟩ := n_; (try clear hb); (try clear hb2); (try clear hk); (try clear hi)))
         go_meet
         case rel => exact ⟨_, (false), (by first | rfl | (simp; done) | (simp [*]; done)), H', ⟨by have := HJ9.out; have := HJ90.out; first | omega | exact Nat.le_refl _⟩, ⟨by (with_reducible repeat first | apply bN | apply bD | apply bA); exact BK199.out⟩, ⟨by (with_reducible repeat first | apply bN | apply bD | apply bA); exact BK200.out⟩, ⟨by (with_reducible repeat first | apply bN | apply bD | apply bA); exact BK201.out⟩, ⟨by (with_reducible repeat first | apply bN | apply bD | apply bA); exact BK207.out⟩, ⟨by (with_reducible repeat first | apply bN | apply bD | apply bA); exact BK212.out⟩, ⟨by (with_reducible repeat first | apply bN | apply bD | apply bA); exact BK217.out⟩, ⟨by (with_reducible repeat first | apply bN | apply bD | apply bA); exact BK222.out⟩, ⟨by repeat (first | (with_reducible first | exact HB.out | apply lA | apply lN | apply lD | refine lS ?_ GE199.out | refine lS ?_ GE200.out | refine lS ?_ GE201.out | refine lS ?_ GE207.out | refine lS ?_ GE212.out | refine lS ?_ GE217.out | refine lS ?_ GE222.out) | exact HB.out)⟩⟩
       case rest =>
        clear HC139
        try clear c1
        try clear p2
        try clear c11
        try clear c12
        try clear c13
        try clear c14
        try clear c15
        try clear c16
        try clear c113
        try clear c138
        try clear c141
        try clear c142
        try clear c143
        try clear c144
        try clear c145
        try clear c146
        try clear c147
        try clear c151
        try clear c152
        try clear c153
        try clear c154
        try clear c155
        try clear c156
        try clear hcz148_0
        try clear hcz148_1
        try clear hcz148_2
        try clear hcz148_3
        try clear hcz150_0
        try clear hcz150_1
        try clear hcz150_2
        try clear hcz150_3
        try clear hcz157_0
        try clear hcz157_1
        try clear hcz157_2
        try clear hcz157_3
        try clear hfz148_0
        try clear hfz148_1
        try clear hfz148_2
        try clear hfz148_3
        try clear hfz150_0
        try clear hfz150_1
        try clear hfz150_2
        try clear hfz150_3
        try clear hfz157_0
        try clear hfz157_1
        try clear hfz157_2
        try clear hfz157_3
        try clear p2
        obtain ⟨kq, x67_138, rfl, HA, HJ138, BK199, BK200, BK201, BK207, BK212, BK217, BK222, HB⟩ := hcut
        cases kq with
        | zero => exact absurd HA.out (by simp [billiardlaw08_BoxMeets.j2])
        | succ kj138 =>
         have H := HA.out
         clear HA
         simp only [billiardlaw08_BoxMeets.j2] at H
         by_cases c159 : x67_138 = true
         ·subst c159
          rw [if_pos rfl] at H
          exact absurd ((Option.some.inj H).trans HR.out) (by decide)
         ·replace c159 := Bool.eq_false_iff.mpr c159
          subst c159
          rw [if_neg (show ¬ (false = true) by decide)] at H
          have HC160 := aM H
          clear H
          go_upto_region 12 with (fail)
          go_cut [73] (fun v73 wc => ∃ (kq : Nat) (x73_159 : Bool), v73 = .bool x73_159 ∧ Aside0 (billiardlaw08_BoxMeets.j3 kq x73_159 a0_0 a0_1 a0_2 a0_3 a1_0 a1_1 a1_2 a1_3 t203 t204 t205 t206 t208 t209 t210 t211 t213 t214 t215 t216 t218 t219 t220 t221 = some r) ∧ Aside0 (kq ≤ kj138) ∧ Aside0 (wc.heap[b199]? = some (.cells #[.int .i32 a0_0, .int .i32 a0_1, .int .i32 a0_2, .int .i32 a0_3] 28 (0, 0))) ∧ Aside0 (wc.heap[b200]? = some (.cells #[.int .i32 a1_0, .int .i32 a1_1, .int .i32 a1_2, .int .i32 a1_3] 28 (0, 0))) ∧ Aside0 (wc.heap[b201]? = some (.cells #[.int .i32 a2_0, .int .i32 a2_1] 24 (0, 0))) ∧ Aside0 (wc.heap[b207]? = some (.cells #[.int .i32 t203, .int .i32 t204, .int .i32 t205, .int .i32 t206] 31 (0, 0))) ∧ Aside0 (wc.heap[b212]? = some (.cells #[.int .i32 t208, .int .i32 t209, .int .i32 t210, .int .i32 t211] 31 (0, 0))) ∧ Aside0 (wc.heap[b217]? = some (.cells #[.int .i32 t213, .int .i32 t214, .int .i32 t215, .int .i32 t216] 31 (0, 0))) ∧ Aside0 (wc.heap[b222]? = some (.cells #[.int .i32 t218, .int .i32 t219, .int .i32 t220, .int .i32 t221] 31 (0, 0))) ∧ Aside0 (Below w.heap.size w wc))
          case first =>
           have H := HC160.out
           clear HC160
           replace H := Option.bind_eq_some_iff.mp H
           obtain ⟨t237, A1610, H⟩ := H
           try dsimp only at H
           have A161 := aM A1610
           clear A1610
           by_cases c162 : t237 = true
           ·subst c162
            rw [if_pos rfl] at H
            have H' := aM H
            clear H
            have hnb163 := N0_.out
            have hnc163 := N1_.out
            have hnb164 := N2_.out
            have hnc164 := N3_.out
            have hnb165 := N6_.out
            have hnc165 := N7_.out
            have hnb166 := N12_.out
            have hnc166 := N13_.out
            have hnb167 := N20_.out
            have hnc167 := N21_.out
            have hnb168 := N30_.out
            have hnc168 := N31_.out
            have hcz169_0 : wc.cell? ⟨b199, 0, none⟩ = some (.int .i32 a0_0) := (bC BK199.out 0).trans rfl
            have hcz169_1 : wc.cell? ⟨b199, 1, none⟩ = some (.int .i32 a0_1) := (bC BK199.out 1).trans rfl
            have hcz169_2 : wc.cell? ⟨b199, 2, none⟩ = some (.int .i32 a0_2) := (bC BK199.out 2).trans rfl
            have hcz169_3 : wc.cell? ⟨b199, 3, none⟩ = some (.int .i32 a0_3) := (bC BK199.out 3).trans rfl
            have hfz169_0 := bF BK199.out 0
            have hfz169_1 := bF BK199.out 1
            have hfz169_2 := bF BK199.out 2
            have hfz169_3 := bF BK199.out 3
            go_wp2_with (first | ((with_reducible refine gate_callee (f := 13) rfl ?_); refine goesL_ (some 69) rfl rfl Tryd.func13 (by kernel_rfl) rfl #[.agg #[.int .i32 a0_0, .int .i32 a0_1, .int .i32 a0_2, .int .i32 a0_3]] rfl (by (try simp only [List.map_toArray, List.map_cons, List.map_nil]); first | done | rfl | (simp only [List.length_drop, List.length_take]; rfl)) ?_; (with_reducible refine (billiardref08_Empty.calls a0_0 a0_1 a0_2 a0_3 true _ A161.out).mono ?_); rintro e w170 ⟨rfl, hb⟩; refine ⟨_, rfl, ?_⟩; have n_ := kB7 BK199 BK200 BK201 BK207 BK212 BK217 BK222 HB (by repeat first | exact lR _ _ | apply lN | apply lD | apply lA) hb; clear BK199 BK200 BK201 BK207 BK212 BK217 BK222 HB; obtain ⟨BK199, BK200, BK201, BK207, BK212, BK217, BK222, HB⟩ := n_; (try clear hb); (try clear hb2); (try clear hk); (try clear hi)))
            go_meet
            case rel => exact ⟨_, (true), (by first | rfl | (simp; done) | (simp [*]; done)), H', ⟨by have := HJ9.out; have := HJ90.out; have := HJ138.out; first | omega | exact Nat.le_refl _⟩, ⟨by (with_reducible repeat first | apply bN | apply bD | apply bA); exact BK199.out⟩, ⟨by (with_reducible repeat first | apply bN | apply bD | apply bA); exact BK200.out⟩, ⟨by (with_reducible repeat first | apply bN | apply bD | apply bA); exact BK201.out⟩, ⟨by (with_reducible repeat first | apply bN | apply bD | apply bA); exact BK207.out⟩, ⟨by (with_reducible repeat first | apply bN | apply bD | apply bA); exact BK212.out⟩, ⟨by (with_reducible repeat first | apply bN | apply bD | apply bA); exact BK217.out⟩, ⟨by (with_reducible repeat first | apply bN | apply bD | apply bA); exact BK222.out⟩, ⟨by repeat (first | (with_reducible first | exact HB.out | apply lA | apply lN | apply lD | refine lS ?_ GE199.out | refine lS ?_ GE200.out | refine lS ?_ GE201.out | refine lS ?_ GE207.out | refine lS ?_ GE212.out | refine lS ?_ GE217.out | refine lS ?_ GE222.out) | exact HB.out)⟩⟩
           ·replace c162 := Bool.eq_false_iff.mpr c162
            subst c162
            rw [if_neg (show ¬ (false = true) by decide)] at H
            replace H := Option.bind_eq_some_iff.mp H
            obtain ⟨t238, A1710, H⟩ := H
            try dsimp only at H
            have A171 := aM A1710
            clear A1710
            have H' := aM H
            clear H
            have hnb172 := N0_.out
            have hnc172 := N1_.out
            have hnb173 := N2_.out
            have hnc173 := N3_.out
            have hnb174 := N6_.out
            have hnc174 := N7_.out
            have hnb175 := N12_.out
            have hnc175 := N13_.out
            have hnb176 := N20_.out
            have hnc176 := N21_.out
            have hnb177 := N30_.out
            have hnc177 := N31_.out
            have hcz178_0 : wc.cell? ⟨b199, 0, none⟩ = some (.int .i32 a0_0) := (bC BK199.out 0).trans rfl
            have hcz178_1 : wc.cell? ⟨b199, 1, none⟩ = some (.int .i32 a0_1) := (bC BK199.out 1).trans rfl
            have hcz178_2 : wc.cell? ⟨b199, 2, none⟩ = some (.int .i32 a0_2) := (bC BK199.out 2).trans rfl
            have hcz178_3 : wc.cell? ⟨b199, 3, none⟩ = some (.int .i32 a0_3) := (bC BK199.out 3).trans rfl
            have hfz178_0 := bF BK199.out 0
            have hfz178_1 := bF BK199.out 1
            have hfz178_2 := bF BK199.out 2
            have hfz178_3 := bF BK199.out 3
            go_wp2_with (first | ((with_reducible refine gate_callee (f := 13) rfl ?_); refine goesL_ (some 69) rfl rfl Tryd.func13 (by kernel_rfl) rfl #[.agg #[.int .i32 a0_0, .int .i32 a0_1, .int .i32 a0_2, .int .i32 a0_3]] rfl (by (try simp only [List.map_toArray, List.map_cons, List.map_nil]); first | done | rfl | (simp only [List.length_drop, List.length_take]; rfl)) ?_; (with_reducible refine (billiardref08_Empty.calls a0_0 a0_1 a0_2 a0_3 false _ A161.out).mono ?_); rintro e w179 ⟨rfl, hb⟩; refine ⟨_, rfl, ?_⟩; have n_ := kB7 BK199 BK200 BK201 BK207 BK212 BK217 BK222 HB (by repeat first | exact lR _ _ | apply lN | apply lD | apply lA) hb; clear BK199 BK200 BK201 BK207 BK212 BK217 BK222 HB; obtain ⟨BK199, BK200, BK201, BK207, BK212, BK217, BK222, HB⟩ := n_; (try clear hb); (try clear hb2); (try clear hk); (try clear hi); have hnb180 := N4_.out; have hnc180 := N5_.out; have hnb181 := N8_.out; have hnc181 := N9_.out; have hnb182 := N14_.out; have hnc182 := N15_.out; have hnb183 := N22_.out; have hnc183 := N23_.out; have hnb184 := N32_.out; have hnc184 := N33_.out; have hcz185_0 : w179.cell? ⟨b200, 0, none⟩ = some (.int .i32 a1_0) := (bC BK200.out 0).trans rfl; have hcz185_1 : w179.cell? ⟨b200, 1, none⟩ = some (.int .i32 a1_1) := (bC BK200.out 1).trans rfl; have hcz185_2 : w179.cell? ⟨b200, 2, none⟩ = some (.int .i32 a1_2) := (bC BK200.out 2).trans rfl; have hcz185_3 : w179.cell? ⟨b200, 3, none⟩ = some (.int .i32 a1_3) := (bC BK200.out 3).trans rfl; have hfz185_0 := bF BK200.out 0; have hfz185_1 := bF BK200.out 1; have hfz185_2 := bF BK200.out 2; have hfz185_3 := bF BK200.out 3) | (go_at_call 13; (with_reducible refine (billiardref08_Empty.calls a1_0 a1_1 a1_2 a1_3 t238 _ A171.out).mono ?_); rintro e w186 ⟨rfl, hb⟩; have n_ := kB7 BK199 BK200 BK201 BK207 BK212 BK217 BK222 HB (by repeat first | exact lR _ _ | apply lN | apply lD | apply lA) hb; clear BK199 BK200 BK201 BK207 BK212 BK217 BK222 HB; obtain ⟨BK199, BK200, BK201, BK207, BK212, BK217, BK222, HB⟩ := n_; (try clear hb); (try clear hb2); (try clear hk); (try clear hi)))
            go_meet
            case rel => exact ⟨_, (t238), (by first | rfl | (simp; done) | (simp [*]; done)), H', ⟨by have := HJ9.out; have := HJ90.out; have := HJ138.out; first | omega | exact Nat.le_refl _⟩, ⟨by (with_reducible repeat first | apply bN | apply bD | apply bA); exact BK199.out⟩, ⟨by (with_reducible repeat first | apply bN | apply bD | apply bA); exact BK200.out⟩, ⟨by (with_reducible repeat first | apply bN | apply bD | apply bA); exact BK201.out⟩, ⟨by (with_reducible repeat first | apply bN | apply bD | apply bA); exact BK207.out⟩, ⟨by (with_reducible repeat first | apply bN | apply bD | apply bA); exact BK212.out⟩, ⟨by (with_reducible repeat first | apply bN | apply bD | apply bA); exact BK217.out⟩, ⟨by (with_reducible repeat first | apply bN | apply bD | apply bA); exact BK222.out⟩, ⟨by repeat (first | (with_reducible first | exact HB.out | apply lA | apply lN | apply lD | refine lS ?_ GE199.out | refine lS ?_ GE200.out | refine lS ?_ GE201.out | refine lS ?_ GE207.out | refine lS ?_ GE212.out | refine lS ?_ GE217.out | refine lS ?_ GE222.out) | exact HB.out)⟩⟩
          case rest =>
           clear HC160
           try clear c1
           try clear p2
           try clear c11
           try clear c12
           try clear c13
           try clear c14
           try clear c15
           try clear c16
           try clear c17
           try clear c18
           try clear c113
           try clear c138
           try clear c141
           try clear c142
           try clear c143
           try clear c144
           try clear c145
           try clear c146
           try clear c147
           try clear c151
           try clear c152
           try clear c153
           try clear c154
           try clear c155
           try clear c156
           try clear c159
           try clear c162
           try clear c163
           try clear c164
           try clear c165
           try clear c166
           try clear c167
           try clear c168
           try clear c172
           try clear c173
           try clear c174
           try clear c175
           try clear c176
           try clear c177
           try clear c180
           try clear c181
           try clear c182
           try clear c183
           try clear c184
           try clear hcz148_0
           try clear hcz148_1
           try clear hcz148_2
           try clear hcz148_3
           try clear hcz150_0
           try clear hcz150_1
           try clear hcz150_2
           try clear hcz150_3
           try clear hcz157_0
           try clear hcz157_1
           try clear hcz157_2
           try clear hcz157_3
           try clear hcz169_0
           try clear hcz169_1
           try clear hcz169_2
           try clear hcz169_3
           try clear hcz178_0
           try clear hcz178_1
           try clear hcz178_2
           try clear hcz178_3
           try clear hcz185_0
           try clear hcz185_1
           try clear hcz185_2
           try clear hcz185_3
           try clear hfz148_0
           try clear hfz148_1
           try clear hfz148_2
           try clear hfz148_3
           try clear hfz150_0
           try clear hfz150_1
           try clear hfz150_2
           try clear hfz150_3
           try clear hfz157_0
           try clear hfz157_1
           try clear hfz157_2
           try clear hfz157_3
           try clear hfz169_0
           try clear hfz169_1
           try clear hfz169_2
           try clear hfz169_3
           try clear hfz178_0
           try clear hfz178_1
           try clear hfz178_2
           try clear hfz178_3
           try clear hfz185_0
           try clear hfz185_1
           try clear hfz185_2
           try clear hfz185_3
           try clear p2
           obtain ⟨kq, x73_159, rfl, HA, HJ159, BK199, BK200, BK201, BK207, BK212, BK217, BK222, HB⟩ := hcut
           cases kq with
           | zero => exact absurd HA.out (by simp [billiardlaw08_BoxMeets.j3])
           | succ kj159 =>
            have H := HA.out
            clear HA
            simp only [billiardlaw08_BoxMeets.j3] at H
            by_cases c187 : x73_159 = true
            ·subst c187
             rw [if_pos rfl] at H
             replace H := Option.bind_eq_some_iff.mp H
             obtain ⟨t239, A1880, H⟩ := H
             try dsimp only at H
             have A188 := aM A1880
             clear A1880
             by_cases c189 : t239 = true
             ·subst c189
              rw [if_pos rfl] at H
              replace H := Option.bind_eq_some_iff.mp H
              obtain ⟨t240, A1900, H⟩ := H
              try dsimp only at H
              have A190 := aM A1900
              clear A1900
              by_cases c191 : t240 = true
              ·subst c191
               rw [if_pos rfl] at H
               replace H := Option.bind_eq_some_iff.mp H
               obtain ⟨t241, A1920, H⟩ := H
               try dsimp only at H
               have A192 := aM A1920
               clear A1920
               by_cases c193 : t241 = true
               ·subst c193
                rw [if_pos rfl] at H
                by_cases c194 : (t218 == 1 && (t219 == 0 && (t220 == 0 && (t221 == 0)))) = true
                ·rw [if_pos c194] at H
                 have c194b0 : (t218 == 1 && (t219 == 0 && (t220 == 0 && (t221 == 0)))) = true := c194
                 (try (have c194b1 : decide (t218 = 1 && (t219 == 0 && (t220 == 0 && (t221 == 0)))) = true := by simpa using c194))
                 (try (have c194b2 : (t218 == 1 && (t219 == 0 && (t220 == 0 && (t221 == 0)))) = true := by simpa using c194))
                 clear c194
                 replace H := Option.bind_eq_some_iff.mp H
                 obtain ⟨t242, A1950, H⟩ := H
                 try dsimp only at H
                 have A195 := aM A1950
                 clear A1950
                 by_cases c196 : t242 = true
                 ·subst c196
                  rw [if_pos rfl] at H
                  replace H := Option.bind_eq_some_iff.mp H
                  obtain ⟨t243, A1970, H⟩ := H
                  try dsimp only at H
                  have A197 := aM A1970
                  clear A1970
                  by_cases c198 : t243 = true
                  ·subst c198
                   rw [if_pos rfl] at H
                   obtain rfl := Option.some.inj H
                   have hnb199 := N21_.out
                   have hnc199 := N20_.out
                   have hnb200 := N23_.out
                   have hnc200 := N22_.out
                   have hnb201 := N25_.out
                   have hnc201 := N24_.out
                   have hnb202 := N27_.out
                   have hnc202 := N26_.out
                   have hnb203 := N29_.out
                   have hnc203 := N28_.out
                   have hnb204 := N40_.out
                   have hnc204 := N41_.out
                   have hcz205_0 : wc.cell? ⟨b217, 0, none⟩ = some (.int .i32 t213) := (bC BK217.out 0).trans rfl
                   have hcz205_1 : wc.cell? ⟨b217, 1, none⟩ = some (.int .i32 t214) := (bC BK217.out 1).trans rfl
                   have hcz205_2 : wc.cell? ⟨b217, 2, none⟩ = some (.int .i32 t215) := (bC BK217.out 2).trans rfl
                   have hcz205_3 : wc.cell? ⟨b217, 3, none⟩ = some (.int .i32 t216) := (bC BK217.out 3).trans rfl
                   have hfz205_0 := bF BK217.out 0
                   have hfz205_1 := bF BK217.out 1
                   have hfz205_2 := bF BK217.out 2
                   have hfz205_3 := bF BK217.out 3
                   go_wp2_with (first | ((with_reducible refine gate_callee (f := 12) rfl ?_); refine goesL_ (some 75) rfl rfl Tryd.func12 (by kernel_rfl) rfl #[.agg #[.int .i32 t213, .int .i32 t214, .int .i32 t215, .int .i32 t216]] rfl (by (try simp only [List.map_toArray, List.map_cons, List.map_nil]); first | done | rfl | (simp only [List.length_drop, List.length_take]; rfl)) ?_; (with_reducible refine (box_Empty.calls t213 t214 t215 t216 true _ A188.out).mono ?_); rintro e w206 ⟨rfl, hb⟩; refine ⟨_, rfl, ?_⟩; have n_ := kB7 BK199 BK200 BK201 BK207 BK212 BK217 BK222 HB (by repeat first | exact lR _ _ | apply lN | apply lD | apply lA) hb; clear BK199 BK200 BK201 BK207 BK212 BK217 BK222 HB; obtain ⟨BK199, BK200, BK201, BK207, BK212, BK217, BK222, HB⟩ := n_; (try clear hb); (try clear hb2); (try clear hk); (try clear hi); have hnb207 := N0_.out; have hnc207 := N1_.out; have hnb208 := N2_.out; have hnc208 := N3_.out; have hnb209 := N6_.out; have hnc209 := N7_.out; have hnb210 := N12_.out; have hnc210 := N13_.out; have hnb211 := N30_.out; have hnc211 := N31_.out; have hcz212_0 : w206.cell? ⟨b199, 0, none⟩ = some (.int .i32 a0_0) := (bC BK199.out 0).trans rfl; have hcz212_1 : w206.cell? ⟨b199, 1, none⟩ = some (.int .i32 a0_1) := (bC BK199.out 1).trans rfl; have hcz212_2 : w206.cell? ⟨b199, 2, none⟩ = some (.int .i32 a0_2) := (bC BK199.out 2).trans rfl; have hcz212_3 : w206.cell? ⟨b199, 3, none⟩ = some (.int .i32 a0_3) := (bC BK199.out 3).trans rfl; have hfz212_0 := bF BK199.out 0; have hfz212_1 := bF BK199.out 1; have hfz212_2 := bF BK199.out 2; have hfz212_3 := bF BK199.out 3; have hnb214x206 := N4_.out; have hnc214x206 := N5_.out; have hnb215x206 := N8_.out; have hnc215x206 := N9_.out; have hnb216x206 := N14_.out; have hnc216x206 := N15_.out; have hnb217x206 := N32_.out; have hnc217x206 := N33_.out; have hcz218_0x206 : w206.cell? ⟨b200, 0, none⟩ = some (.int .i32 a1_0) := (bC BK200.out 0).trans rfl; have hcz218_1x206 : w206.cell? ⟨b200, 1, none⟩ = some (.int .i32 a1_1) := (bC BK200.out 1).trans rfl; have hcz218_2x206 : w206.cell? ⟨b200, 2, none⟩ = some (.int .i32 a1_2) := (bC BK200.out 2).trans rfl; have hcz218_3x206 : w206.cell? ⟨b200, 3, none⟩ = some (.int .i32 a1_3) := (bC BK200.out 3).trans rfl; have hfz218_0x206 := bF BK200.out 0; have hfz218_1x206 := bF BK200.out 1; have hfz218_2x206 := bF BK200.out 2; have hfz218_3x206 := bF BK200.out 3; have hnb220x206 := N35_.out; have hnc220x206 := N34_.out; have hnb221x206 := N37_.out; have hnc221x206 := N36_.out; have hnb222x206 := N39_.out; have hnc222x206 := N38_.out; have hcz223_0x206 : w206.cell? ⟨b222, 0, none⟩ = some (.int .i32 t218) := (bC BK222.out 0).trans rfl; have hcz223_1x206 : w206.cell? ⟨b222, 1, none⟩ = some (.int .i32 t219) := (bC BK222.out 1).trans rfl; have hcz223_2x206 : w206.cell? ⟨b222, 2, none⟩ = some (.int .i32 t220) := (bC BK222.out 2).trans rfl; have hcz223_3x206 : w206.cell? ⟨b222, 3, none⟩ = some (.int .i32 t221) := (bC BK222.out 3).trans rfl; have hfz223_0x206 := bF BK222.out 0; have hfz223_1x206 := bF BK222.out 1; have hfz223_2x206 := bF BK222.out 2; have hfz223_3x206 := bF BK222.out 3) | (go_at_call 13; (with_reducible refine (billiardref08_Empty.calls a0_0 a0_1 a0_2 a0_3 true _ A190.out).mono ?_); rintro e w213 ⟨rfl, hb⟩; have n_ := kB7 BK199 BK200 BK201 BK207 BK212 BK217 BK222 HB (by repeat first | exact lR _ _ | apply lN | apply lD | apply lA) hb; clear BK199 BK200 BK201 BK207 BK212 BK217 BK222 HB; obtain ⟨BK199, BK200, BK201, BK207, BK212, BK217, BK222, HB⟩ := n_; (try clear hb); (try clear hb2); (try clear hk); (try clear hi); have hnb214 := N4_.out; have hnc214 := N5_.out; have hnb215 := N8_.out; have hnc215 := N9_.out; have hnb216 := N14_.out; have hnc216 := N15_.out; have hnb217 := N32_.out; have hnc217 := N33_.out; have hcz218_0 : w213.cell? ⟨b200, 0, none⟩ = some (.int .i32 a1_0) := (bC BK200.out 0).trans rfl; have hcz218_1 : w213.cell? ⟨b200, 1, none⟩ = some (.int .i32 a1_1) := (bC BK200.out 1).trans rfl; have hcz218_2 : w213.cell? ⟨b200, 2, none⟩ = some (.int .i32 a1_2) := (bC BK200.out 2).trans rfl; have hcz218_3 : w213.cell? ⟨b200, 3, none⟩ = some (.int .i32 a1_3) := (bC BK200.out 3).trans rfl; have hfz218_0 := bF BK200.out 0; have hfz218_1 := bF BK200.out 1; have hfz218_2 := bF BK200.out 2; have hfz218_3 := bF BK200.out 3; have hnb207x213 := N0_.out; have hnc207x213 := N1_.out; have hnb208x213 := N2_.out; have hnc208x213 := N3_.out; have hnb209x213 := N6_.out; have hnc209x213 := N7_.out; have hnb210x213 := N12_.out; have hnc210x213 := N13_.out; have hnb211x213 := N30_.out; have hnc211x213 := N31_.out; have hcz212_0x213 : w213.cell? ⟨b199, 0, none⟩ = some (.int .i32 a0_0) := (bC BK199.out 0).trans rfl; have hcz212_1x213 : w213.cell? ⟨b199, 1, none⟩ = some (.int .i32 a0_1) := (bC BK199.out 1).trans rfl; have hcz212_2x213 : w213.cell? ⟨b199, 2, none⟩ = some (.int .i32 a0_2) := (bC BK199.out 2).trans rfl; have hcz212_3x213 : w213.cell? ⟨b199, 3, none⟩ = some (.int .i32 a0_3) := (bC BK199.out 3).trans rfl; have hfz212_0x213 := bF BK199.out 0; have hfz212_1x213 := bF BK199.out 1; have hfz212_2x213 := bF BK199.out 2; have hfz212_3x213 := bF BK199.out 3; have hnb220x213 := N35_.out; have hnc220x213 := N34_.out; have hnb221x213 := N37_.out; have hnc221x213 := N36_.out; have hnb222x213 := N39_.out; have hnc222x213 := N38_.out; have hcz223_0x213 : w213.cell? ⟨b222, 0, none⟩ = some (.int .i32 t218) := (bC BK222.out 0).trans rfl; have hcz223_1x213 : w213.cell? ⟨b222, 1, none⟩ = some (.int .i32 t219) := (bC BK222.out 1).trans rfl; have hcz223_2x213 : w213.cell? ⟨b222, 2, none⟩ = some (.int .i32 t220) := (bC BK222.out 2).trans rfl; have hcz223_3x213 : w213.cell? ⟨b222, 3, none⟩ = some (.int .i32 t221) := (bC BK222.out 3).trans rfl; have hfz223_0x213 := bF BK222.out 0; have hfz223_1x213 := bF BK222.out 1; have hfz223_2x213 := bF BK222.out 2; have hfz223_3x213 := bF BK222.out 3) | (go_at_call 13; (with_reducible refine (billiardref08_Empty.calls a1_0 a1_1 a1_2 a1_3 true _ A192.out).mono ?_); rintro e w219 ⟨rfl, hb⟩; have n_ := kB7 BK199 BK200 BK201 BK207 BK212 BK217 BK222 HB (by repeat first | exact lR _ _ | apply lN | apply lD | apply lA) hb; clear BK199 BK200 BK201 BK207 BK212 BK217 BK222 HB; obtain ⟨BK199, BK200, BK201, BK207, BK212, BK217, BK222, HB⟩ := n_; (try clear hb); (try clear hb2); (try clear hk); (try clear hi); have hnb220 := N35_.out; have hnc220 := N34_.out; have hnb221 := N37_.out; have hnc221 := N36_.out; have hnb222 := N39_.out; have hnc222 := N38_.out; have hcz223_0 : w219.cell? ⟨b222, 0, none⟩ = some (.int .i32 t218) := (bC BK222.out 0).trans rfl; have hcz223_1 : w219.cell? ⟨b222, 1, none⟩ = some (.int .i32 t219) := (bC BK222.out 1).trans rfl; have hcz223_2 : w219.cell? ⟨b222, 2, none⟩ = some (.int .i32 t220) := (bC BK222.out 2).trans rfl; have hcz223_3 : w219.cell? ⟨b222, 3, none⟩ = some (.int .i32 t221) := (bC BK222.out 3).trans rfl; have hfz223_0 := bF BK222.out 0; have hfz223_1 := bF BK222.out 1; have hfz223_2 := bF BK222.out 2; have hfz223_3 := bF BK222.out 3; have hcz224_0 : w219.cell? ⟨b200, 0, none⟩ = some (.int .i32 a1_0) := (bC BK200.out 0).trans rfl; have hcz224_1 : w219.cell? ⟨b200, 1, none⟩ = some (.int .i32 a1_1) := (bC BK200.out 1).trans rfl; have hcz224_2 : w219.cell? ⟨b200, 2, none⟩ = some (.int .i32 a1_2) := (bC BK200.out 2).trans rfl; have hcz224_3 : w219.cell? ⟨b200, 3, none⟩ = some (.int .i32 a1_3) := (bC BK200.out 3).trans rfl; have hfz224_0 := bF BK200.out 0; have hfz224_1 := bF BK200.out 1; have hfz224_2 := bF BK200.out 2; have hfz224_3 := bF BK200.out 3; have hnb207x219 := N0_.out; have hnc207x219 := N1_.out; have hnb208x219 := N2_.out; have hnc208x219 := N3_.out; have hnb209x219 := N6_.out; have hnc209x219 := N7_.out; have hnb210x219 := N12_.out; have hnc210x219 := N13_.out; have hnb211x219 := N30_.out; have hnc211x219 := N31_.out; have hcz212_0x219 : w219.cell? ⟨b199, 0, none⟩ = some (.int .i32 a0_0) := (bC BK199.out 0).trans rfl; have hcz212_1x219 : w219.cell? ⟨b199, 1, none⟩ = some (.int .i32 a0_1) := (bC BK199.out 1).trans rfl; have hcz212_2x219 : w219.cell? ⟨b199, 2, none⟩ = some (.int .i32 a0_2) := (bC BK199.out 2).trans rfl; have hcz212_3x219 : w219.cell? ⟨b199, 3, none⟩ = some (.int .i32 a0_3) := (bC BK199.out 3).trans rfl; have hfz212_0x219 := bF BK199.out 0; have hfz212_1x219 := bF BK199.out 1; have hfz212_2x219 := bF BK199.out 2; have hfz212_3x219 := bF BK199.out 3; have hnb214x219 := N4_.out; have hnc214x219 := N5_.out; have hnb215x219 := N8_.out; have hnc215x219 := N9_.out; have hnb216x219 := N14_.out; have hnc216x219 := N15_.out; have hnb217x219 := N32_.out; have hnc217x219 := N33_.out) | (go_at_call 13; (with_reducible refine (billiardref08_Empty.calls a1_0 a1_1 a1_2 a1_3 true _ A195.out).mono ?_); rintro e w225 ⟨rfl, hb⟩; have n_ := kB7 BK199 BK200 BK201 BK207 BK212 BK217 BK222 HB (by repeat first | exact lR _ _ | apply lN | apply lD | apply lA) hb; clear BK199 BK200 BK201 BK207 BK212 BK217 BK222 HB; obtain ⟨BK199, BK200, BK201, BK207, BK212, BK217, BK222, HB⟩ := n_; (try clear hb); (try clear hb2); (try clear hk); (try clear hi); have hcz226_0 : w225.cell? ⟨b199, 0, none⟩ = some (.int .i32 a0_0) := (bC BK199.out 0).trans rfl; have hcz226_1 : w225.cell? ⟨b199, 1, none⟩ = some (.int .i32 a0_1) := (bC BK199.out 1).trans rfl; have hcz226_2 : w225.cell? ⟨b199, 2, none⟩ = some (.int .i32 a0_2) := (bC BK199.out 2).trans rfl; have hcz226_3 : w225.cell? ⟨b199, 3, none⟩ = some (.int .i32 a0_3) := (bC BK199.out 3).trans rfl; have hfz226_0 := bF BK199.out 0; have hfz226_1 := bF BK199.out 1; have hfz226_2 := bF BK199.out 2; have hfz226_3 := bF BK199.out 3; have hnb207x225 := N0_.out; have hnc207x225 := N1_.out; have hnb208x225 := N2_.out; have hnc208x225 := N3_.out; have hnb209x225 := N6_.out; have hnc209x225 := N7_.out; have hnb210x225 := N12_.out; have hnc210x225 := N13_.out; have hnb211x225 := N30_.out; have hnc211x225 := N31_.out; have hnb214x225 := N4_.out; have hnc214x225 := N5_.out; have hnb215x225 := N8_.out; have hnc215x225 := N9_.out; have hnb216x225 := N14_.out; have hnc216x225 := N15_.out; have hnb217x225 := N32_.out; have hnc217x225 := N33_.out; have hcz218_0x225 : w225.cell? ⟨b200, 0, none⟩ = some (.int .i32 a1_0) := (bC BK200.out 0).trans rfl; have hcz218_1x225 : w225.cell? ⟨b200, 1, none⟩ = some (.int .i32 a1_1) := (bC BK200.out 1).trans rfl; have hcz218_2x225 : w225.cell? ⟨b200, 2, none⟩ = some (.int .i32 a1_2) := (bC BK200.out 2).trans rfl; have hcz218_3x225 : w225.cell? ⟨b200, 3, none⟩ = some (.int .i32 a1_3) := (bC BK200.out 3).trans rfl; have hfz218_0x225 := bF BK200.out 0; have hfz218_1x225 := bF BK200.out 1; have hfz218_2x225 := bF BK200.out 2; have hfz218_3x225 := bF BK200.out 3; have hnb220x225 := N35_.out; have hnc220x225 := N34_.out; have hnb221x225 := N37_.out; have hnc221x225 := N36_.out; have hnb222x225 := N39_.out; have hnc222x225 := N38_.out; have hcz223_0x225 : w225.cell? ⟨b222, 0, none⟩ = some (.int .i32 t218) := (bC BK222.out 0).trans rfl; have hcz223_1x225 : w225.cell? ⟨b222, 1, none⟩ = some (.int .i32 t219) := (bC BK222.out 1).trans rfl; have hcz223_2x225 : w225.cell? ⟨b222, 2, none⟩ = some (.int .i32 t220) := (bC BK222.out 2).trans rfl; have hcz223_3x225 : w225.cell? ⟨b222, 3, none⟩ = some (.int .i32 t221) := (bC BK222.out 3).trans rfl; have hfz223_0x225 := bF BK222.out 0; have hfz223_1x225 := bF BK222.out 1; have hfz223_2x225 := bF BK222.out 2; have hfz223_3x225 := bF BK222.out 3) | (go_at_call 13; (with_reducible refine (billiardref08_Empty.calls a0_0 a0_1 a0_2 a0_3 true _ A197.out).mono ?_); rintro e w227 ⟨rfl, hb⟩; have n_ := kB7 BK199 BK200 BK201 BK207 BK212 BK217 BK222 HB (by repeat first | exact lR _ _ | apply lN | apply lD | apply lA) hb; clear BK199 BK200 BK201 BK207 BK212 BK217 BK222 HB; obtain ⟨BK199, BK200, BK201, BK207, BK212, BK217, BK222, HB⟩ := n_; (try clear hb); (try clear hb2); (try clear hk); (try clear hi); have hnb207x227 := N0_.out; have hnc207x227 := N1_.out; have hnb208x227 := N2_.out; have hnc208x227 := N3_.out; have hnb209x227 := N6_.out; have hnc209x227 := N7_.out; have hnb210x227 := N12_.out; have hnc210x227 := N13_.out; have hnb211x227 := N30_.out; have hnc211x227 := N31_.out; have hcz212_0x227 : w227.cell? ⟨b199, 0, none⟩ = some (.int .i32 a0_0) := (bC BK199.out 0).trans rfl; have hcz212_1x227 : w227.cell? ⟨b199, 1, none⟩ = some (.int .i32 a0_1) := (bC BK199.out 1).trans rfl; have hcz212_2x227 : w227.cell? ⟨b199, 2, none⟩ = some (.int .i32 a0_2) := (bC BK199.out 2).trans rfl; have hcz212_3x227 : w227.cell? ⟨b199, 3, none⟩ = some (.int .i32 a0_3) := (bC BK199.out 3).trans rfl; have hfz212_0x227 := bF BK199.out 0; have hfz212_1x227 := bF BK199.out 1; have hfz212_2x227 := bF BK199.out 2; have hfz212_3x227 := bF BK199.out 3; have hnb214x227 := N4_.out; have hnc214x227 := N5_.out; have hnb215x227 := N8_.out; have hnc215x227 := N9_.out; have hnb216x227 := N14_.out; have hnc216x227 := N15_.out; have hnb217x227 := N32_.out; have hnc217x227 := N33_.out; have hcz218_0x227 : w227.cell? ⟨b200, 0, none⟩ = some (.int .i32 a1_0) := (bC BK200.out 0).trans rfl; have hcz218_1x227 : w227.cell? ⟨b200, 1, none⟩ = some (.int .i32 a1_1) := (bC BK200.out 1).trans rfl; have hcz218_2x227 : w227.cell? ⟨b200, 2, none⟩ = some (.int .i32 a1_2) := (bC BK200.out 2).trans rfl; have hcz218_3x227 : w227.cell? ⟨b200, 3, none⟩ = some (.int .i32 a1_3) := (bC BK200.out 3).trans rfl; have hfz218_0x227 := bF BK200.out 0; have hfz218_1x227 := bF BK200.out 1; have hfz218_2x227 := bF BK200.out 2; have hfz218_3x227 := bF BK200.out 3; have hnb220x227 := N35_.out; have hnc220x227 := N34_.out; have hnb221x227 := N37_.out; have hnc221x227 := N36_.out; have hnb222x227 := N39_.out; have hnc222x227 := N38_.out; have hcz223_0x227 : w227.cell? ⟨b222, 0, none⟩ = some (.int .i32 t218) := (bC BK222.out 0).trans rfl; have hcz223_1x227 : w227.cell? ⟨b222, 1, none⟩ = some (.int .i32 t219) := (bC BK222.out 1).trans rfl; have hcz223_2x227 : w227.cell? ⟨b222, 2, none⟩ = some (.int .i32 t220) := (bC BK222.out 2).trans rfl; have hcz223_3x227 : w227.cell? ⟨b222, 3, none⟩ = some (.int .i32 t221) := (bC BK222.out 3).trans rfl; have hfz223_0x227 := bF BK222.out 0; have hfz223_1x227 := bF BK222.out 1; have hfz223_2x227 := bF BK222.out 2; have hfz223_3x227 := bF BK222.out 3))
                   go_ret
                   exact ⟨by first | rfl | (simp [errW_none, errW_some] <;> rfl) | (simp [*, errW_none, errW_some] <;> rfl), by repeat (first | (with_reducible first | exact HB.out | apply lA | apply lN | apply lD | refine lS ?_ GE199.out | refine lS ?_ GE200.out | refine lS ?_ GE201.out | refine lS ?_ GE207.out | refine lS ?_ GE212.out | refine lS ?_ GE217.out | refine lS ?_ GE222.out) | exact HB.out)⟩
                  ·replace c198 := Bool.eq_false_iff.mpr c198
                   subst c198
                   exact absurd (A197.out.symm.trans A190.out) (by simp)
                 ·replace c196 := Bool.eq_false_iff.mpr c196
                  subst c196
                  exact absurd (A195.out.symm.trans A192.out) (by simp)
                ·rw [if_neg c194] at H
                 have c194b0 : (t218 == 1 && (t219 == 0 && (t220 == 0 && (t221 == 0)))) = false := by simpa using c194
                 (try (have c194b1 : decide (t218 = 1 && (t219 == 0 && (t220 == 0 && (t221 == 0)))) = false := by simpa using c194))
                 (try (have c194b2 : (t218 == 1 && (t219 == 0 && (t220 == 0 && (t221 == 0)))) = false := by simpa using c194))
                 (try (have c194b3 : ¬ (t218 = 1 && (t219 == 0 && (t220 == 0 && (t221 == 0)))) := by simpa using c194))
                 clear c194
                 by_cases c288 : (t218 == t208 && (t219 == t209 && (t220 == t210 && (t221 == t211)))) = true
                 ·rw [if_pos c288] at H
                  have c288b0 : (t218 == t208 && (t219 == t209 && (t220 == t210 && (t221 == t211)))) = true := c288
                  (try (have c288b1 : decide (t218 = t208 && (t219 == t209 && (t220 == t210 && (t221 == t211)))) = true := by simpa using c288))
                  (try (have c288b2 : (t218 == t208 && (t219 == t209 && (t220 == t210 && (t221 == t211)))) = true := by simpa using c288))
                  clear c288
                  replace H := Option.bind_eq_some_iff.mp H
                  obtain ⟨t244, A2890, H⟩ := H
                  try dsimp only at H
                  have A289 := aM A2890
                  clear A2890
                  by_cases c290 : t244 = true
                  ·subst c290
                   rw [if_pos rfl] at H
                   replace H := Option.bind_eq_some_iff.mp H
                   obtain ⟨t245, A2910, H⟩ := H
                   try dsimp only at H
                   have A291 := aM A2910
                   clear A2910
                   by_cases c292 : t245 = true
                   ·subst c292
                    rw [if_pos rfl] at H
                    obtain rfl := Option.some.inj H
                    have hnb293 := N21_.out
                    have hnc293 := N20_.out
                    have hnb294 := N23_.out
                    have hnc294 := N22_.out
                    have hnb295 := N25_.out
                    have hnc295 := N24_.out
                    have hnb296 := N27_.out
                    have hnc296 := N26_.out
                    have hnb297 := N29_.out
                    have hnc297 := N28_.out
                    have hnb298 := N40_.out
                    have hnc298 := N41_.out
                    have hcz299_0 : wc.cell? ⟨b217, 0, none⟩ = some (.int .i32 t213) := (bC BK217.out 0).trans rfl
                    have hcz299_1 : wc.cell? ⟨b217, 1, none⟩ = some (.int .i32 t214) := (bC BK217.out 1).trans rfl
                    have hcz299_2 : wc.cell? ⟨b217, 2, none⟩ = some (.int .i32 t215) := (bC BK217.out 2).trans rfl
                    have hcz299_3 : wc.cell? ⟨b217, 3, none⟩ = some (.int .i32 t216) := (bC BK217.out 3).trans rfl
                    have hfz299_0 := bF BK217.out 0
                    have hfz299_1 := bF BK217.out 1
                    have hfz299_2 := bF BK217.out 2
                    have hfz299_3 := bF BK217.out 3
                    go_wp2_with (first | ((with_reducible refine gate_callee (f := 12) rfl ?_); refine goesL_ (some 75) rfl rfl Tryd.func12 (by kernel_rfl) rfl #[.agg #[.int .i32 t213, .int .i32 t214, .int .i32 t215, .int .i32 t216]] rfl (by (try simp only [List.map_toArray, List.map_cons, List.map_nil]); first | done | rfl | (simp only [List.length_drop, List.length_take]; rfl)) ?_; (with_reducible refine (box_Empty.calls t213 t214 t215 t216 true _ A188.out).mono ?_); rintro e w300 ⟨rfl, hb⟩; refine ⟨_, rfl, ?_⟩; have n_ := kB7 BK199 BK200 BK201 BK207 BK212 BK217 BK222 HB (by repeat first | exact lR _ _ | apply lN | apply lD | apply lA) hb; clear BK199 BK200 BK201 BK207 BK212 BK217 BK222 HB; obtain ⟨BK199, BK200, BK201, BK207, BK212, BK217, BK222, HB⟩ := n_; (try clear hb); (try clear hb2); (try clear hk); (try clear hi); have hnb301 := N0_.out; have hnc301 := N1_.out; have hnb302 := N2_.out; have hnc302 := N3_.out; have hnb303 := N6_.out; have hnc303 := N7_.out; have hnb304 := N12_.out; have hnc304 := N13_.out; have hnb305 := N30_.out; have hnc305 := N31_.out; have hcz306_0 : w300.cell? ⟨b199, 0, none⟩ = some (.int .i32 a0_0) := (bC BK199.out 0).trans rfl; have hcz306_1 : w300.cell? ⟨b199, 1, none⟩ = some (.int .i32 a0_1) := (bC BK199.out 1).trans rfl; have hcz306_2 : w300.cell? ⟨b199, 2, none⟩ = some (.int .i32 a0_2) := (bC BK199.out 2).trans rfl; have hcz306_3 : w300.cell? ⟨b199, 3, none⟩ = some (.int .i32 a0_3) := (bC BK199.out 3).trans rfl; have hfz306_0 := bF BK199.out 0; have hfz306_1 := bF BK199.out 1; have hfz306_2 := bF BK199.out 2; have hfz306_3 := bF BK199.out 3; have hnb308x300 := N4_.out; have hnc308x300 := N5_.out; have hnb309x300 := N8_.out; have hnc309x300 := N9_.out; have hnb310x300 := N14_.out; have hnc310x300 := N15_.out; have hnb311x300 := N32_.out; have hnc311x300 := N33_.out; have hcz312_0x300 : w300.cell? ⟨b200, 0, none⟩ = some (.int .i32 a1_0) := (bC BK200.out 0).trans rfl; have hcz312_1x300 : w300.cell? ⟨b200, 1, none⟩ = some (.int .i32 a1_1) := (bC BK200.out 1).trans rfl; have hcz312_2x300 : w300.cell? ⟨b200, 2, none⟩ = some (.int .i32 a1_2) := (bC BK200.out 2).trans rfl; have hcz312_3x300 : w300.cell? ⟨b200, 3, none⟩ = some (.int .i32 a1_3) := (bC BK200.out 3).trans rfl; have hfz312_0x300 := bF BK200.out 0; have hfz312_1x300 := bF BK200.out 1; have hfz312_2x300 := bF BK200.out 2; have hfz312_3x300 := bF BK200.out 3; have hnb314x300 := N35_.out; have hnc314x300 := N34_.out; have hnb315x300 := N37_.out; have hnc315x300 := N36_.out; have hnb316x300 := N39_.out; have hnc316x300 := N38_.out; have hcz317_0x300 : w300.cell? ⟨b222, 0, none⟩ = some (.int .i32 t218) := (bC BK222.out 0).trans rfl; have hcz317_1x300 : w300.cell? ⟨b222, 1, none⟩ = some (.int .i32 t219) := (bC BK222.out 1).trans rfl; have hcz317_2x300 : w300.cell? ⟨b222, 2, none⟩ = some (.int .i32 t220) := (bC BK222.out 2).trans rfl; have hcz317_3x300 : w300.cell? ⟨b222, 3, none⟩ = some (.int .i32 t221) := (bC BK222.out 3).trans rfl; have hfz317_0x300 := bF BK222.out 0; have hfz317_1x300 := bF BK222.out 1; have hfz317_2x300 := bF BK222.out 2; have hfz317_3x300 := bF BK222.out 3; have hnb318x300 := N17_.out; have hnc318x300 := N16_.out; have hnb319x300 := N19_.out; have hnc319x300 := N18_.out; have hcz320_0x300 : w300.cell? ⟨b212, 0, none⟩ = some (.int .i32 t208) := (bC BK212.out 0).trans rfl; have hcz320_1x300 : w300.cell? ⟨b212, 1, none⟩ = some (.int .i32 t209) := (bC BK212.out 1).trans rfl; have hcz320_2x300 : w300.cell? ⟨b212, 2, none⟩ = some (.int .i32 t210) := (bC BK212.out 2).trans rfl; have hcz320_3x300 : w300.cell? ⟨b212, 3, none⟩ = some (.int .i32 t211) := (bC BK212.out 3).trans rfl; have hfz320_0x300 := bF BK212.out 0; have hfz320_1x300 := bF BK212.out 1; have hfz320_2x300 := bF BK212.out 2; have hfz320_3x300 := bF BK212.out 3) | (go_at_call 13; (with_reducible refine (billiardref08_Empty.calls a0_0 a0_1 a0_2 a0_3 true _ A190.out).mono ?_); rintro e w307 ⟨rfl, hb⟩; have n_ := kB7 BK199 BK200 BK201 BK207 BK212 BK217 BK222 HB (by repeat first | exact lR _ _ | apply lN | apply lD | apply lA) hb; clear BK199 BK200 BK201 BK207 BK212 BK217 BK222 HB; obtain ⟨BK199, BK200, BK201, BK207, BK212, BK217, BK222, HB⟩ := n_; (try clear hb); (try clear hb2); (try clear hk); (try clear hi); have hnb308 := N4_.out; have hnc308 := N5_.out; have hnb309 := N8_.out; have hnc309 := N9_.out; have hnb310 := N14_.out; have hnc310 := N15_.out; have hnb311 := N32_.out; have hnc311 := N33_.out; have hcz312_0 : w307.cell? ⟨b200, 0, none⟩ = some (.int .i32 a1_0) := (bC BK200.out 0).trans rfl; have hcz312_1 : w307.cell? ⟨b200, 1, none⟩ = some (.int .i32 a1_1) := (bC BK200.out 1).trans rfl; have hcz312_2 : w307.cell? ⟨b200, 2, none⟩ = some (.int .i32 a1_2) := (bC BK200.out 2).trans rfl; have hcz312_3 : w307.cell? ⟨b200, 3, none⟩ = some (.int .i32 a1_3) := (bC BK200.out 3).trans rfl; have hfz312_0 := bF BK200.out 0; have hfz312_1 := bF BK200.out 1; have hfz312_2 := bF BK200.out 2; have hfz312_3 := bF BK200.out 3; have hnb301x307 := N0_.out; have hnc301x307 := N1_.out; have hnb302x307 := N2_.out; have hnc302x307 := N3_.out; have hnb303x307 := N6_.out; have hnc303x307 := N7_.out; have hnb304x307 := N12_.out; have hnc304x307 := N13_.out; have hnb305x307 := N30_.out; have hnc305x307 := N31_.out; have hcz306_0x307 : w307.cell? ⟨b199, 0, none⟩ = some (.int .i32 a0_0) := (bC BK199.out 0).trans rfl; have hcz306_1x307 : w307.cell? ⟨b199, 1, none⟩ = some (.int .i32 a0_1) := (bC BK199.out 1).trans rfl; have hcz306_2x307 : w307.cell? ⟨b199, 2, none⟩ = some (.int .i32 a0_2) := (bC BK199.out 2).trans rfl; have hcz306_3x307 : w307.cell? ⟨b199, 3, none⟩ = some (.int .i32 a0_3) := (bC BK199.out 3).trans rfl; have hfz306_0x307 := bF BK199.out 0; have hfz306_1x307 := bF BK199.out 1; have hfz306_2x307 := bF BK199.out 2; have hfz306_3x307 := bF BK199.out 3; have hnb314x307 := N35_.out; have hnc314x307 := N34_.out; have hnb315x307 := N37_.out; have hnc315x307 := N36_.out; have hnb316x307 := N39_.out; have hnc316x307 := N38_.out; have hcz317_0x307 : w307.cell? ⟨b222, 0, none⟩ = some (.int .i32 t218) := (bC BK222.out 0).trans rfl; have hcz317_1x307 : w307.cell? ⟨b222, 1, none⟩ = some (.int .i32 t219) := (bC BK222.out 1).trans rfl; have hcz317_2x307 : w307.cell? ⟨b222, 2, none⟩ = some (.int .i32 t220) := (bC BK222.out 2).trans rfl; have hcz317_3x307 : w307.cell? ⟨b222, 3, none⟩ = some (.int .i32 t221) := (bC BK222.out 3).trans rfl; have hfz317_0x307 := bF BK222.out 0; have hfz317_1x307 := bF BK222.out 1; have hfz317_2x307 := bF BK222.out 2; have hfz317_3x307 := bF BK222.out 3; have hnb318x307 := N17_.out; have hnc318x307 := N16_.out; have hnb319x307 := N19_.out; have hnc319x307 := N18_.out; have hcz320_0x307 : w307.cell? ⟨b212, 0, none⟩ = some (.int .i32 t208) := (bC BK212.out 0).trans rfl; have hcz320_1x307 : w307.cell? ⟨b212, 1, none⟩ = some (.int .i32 t209) := (bC BK212.out 1).trans rfl; have hcz320_2x307 : w307.cell? ⟨b212, 2, none⟩ = some (.int .i32 t210) := (bC BK212.out 2).trans rfl; have hcz320_3x307 : w307.cell? ⟨b212, 3, none⟩ = some (.int .i32 t211) := (bC BK212.out 3).trans rfl; have hfz320_0x307 := bF BK212.out 0; have hfz320_1x307 := bF BK212.out 1; have hfz320_2x307 := bF BK212.out 2; have hfz320_3x307 := bF BK212.out 3) | (go_at_call 13; (with_reducible refine (billiardref08_Empty.calls a1_0 a1_1 a1_2 a1_3 true _ A192.out).mono ?_); rintro e w313 ⟨rfl, hb⟩; have n_ := kB7 BK199 BK200 BK201 BK207 BK212 BK217 BK222 HB (by repeat first | exact lR _ _ | apply lN | apply lD | apply lA) hb; clear BK199 BK200 BK201 BK207 BK212 BK217 BK222 HB; obtain ⟨BK199, BK200, BK201, BK207, BK212, BK217, BK222, HB⟩ := n_; (try clear hb); (try clear hb2); (try clear hk); (try clear hi); have hnb314 := N35_.out; have hnc314 := N34_.out; have hnb315 := N37_.out; have hnc315 := N36_.out; have hnb316 := N39_.out; have hnc316 := N38_.out; have hcz317_0 : w313.cell? ⟨b222, 0, none⟩ = some (.int .i32 t218) := (bC BK222.out 0).trans rfl; have hcz317_1 : w313.cell? ⟨b222, 1, none⟩ = some (.int .i32 t219) := (bC BK222.out 1).trans rfl; have hcz317_2 : w313.cell? ⟨b222, 2, none⟩ = some (.int .i32 t220) := (bC BK222.out 2).trans rfl; have hcz317_3 : w313.cell? ⟨b222, 3, none⟩ = some (.int .i32 t221) := (bC BK222.out 3).trans rfl; have hfz317_0 := bF BK222.out 0; have hfz317_1 := bF BK222.out 1; have hfz317_2 := bF BK222.out 2; have hfz317_3 := bF BK222.out 3; have hnb318 := N17_.out; have hnc318 := N16_.out; have hnb319 := N19_.out; have hnc319 := N18_.out; have hcz320_0 : w313.cell? ⟨b212, 0, none⟩ = some (.int .i32 t208) := (bC BK212.out 0).trans rfl; have hcz320_1 : w313.cell? ⟨b212, 1, none⟩ = some (.int .i32 t209) := (bC BK212.out 1).trans rfl; have hcz320_2 : w313.cell? ⟨b212, 2, none⟩ = some (.int .i32 t210) := (bC BK212.out 2).trans rfl; have hcz320_3 : w313.cell? ⟨b212, 3, none⟩ = some (.int .i32 t211) := (bC BK212.out 3).trans rfl; have hfz320_0 := bF BK212.out 0; have hfz320_1 := bF BK212.out 1; have hfz320_2 := bF BK212.out 2; have hfz320_3 := bF BK212.out 3; have hcz321_0 : w313.cell? ⟨b200, 0, none⟩ = some (.int .i32 a1_0) := (bC BK200.out 0).trans rfl; have hcz321_1 : w313.cell? ⟨b200, 1, none⟩ = some (.int .i32 a1_1) := (bC BK200.out 1).trans rfl; have hcz321_2 : w313.cell? ⟨b200, 2, none⟩ = some (.int .i32 a1_2) := (bC BK200.out 2).trans rfl; have hcz321_3 : w313.cell? ⟨b200, 3, none⟩ = some (.int .i32 a1_3) := (bC BK200.out 3).trans rfl; have hfz321_0 := bF BK200.out 0; have hfz321_1 := bF BK200.out 1; have hfz321_2 := bF BK200.out 2; have hfz321_3 := bF BK200.out 3; have hnb301x313 := N0_.out; have hnc301x313 := N1_.out; have hnb302x313 := N2_.out; have hnc302x313 := N3_.out; have hnb303x313 := N6_.out; have hnc303x313 := N7_.out; have hnb304x313 := N12_.out; have hnc304x313 := N13_.out; have hnb305x313 := N30_.out; have hnc305x313 := N31_.out; have hcz306_0x313 : w313.cell? ⟨b199, 0, none⟩ = some (.int .i32 a0_0) := (bC BK199.out 0).trans rfl; have hcz306_1x313 : w313.cell? ⟨b199, 1, none⟩ = some (.int .i32 a0_1) := (bC BK199.out 1).trans rfl; have hcz306_2x313 : w313.cell? ⟨b199, 2, none⟩ = some (.int .i32 a0_2) := (bC BK199.out 2).trans rfl; have hcz306_3x313 : w313.cell? ⟨b199, 3, none⟩ = some (.int .i32 a0_3) := (bC BK199.out 3).trans rfl; have hfz306_0x313 := bF BK199.out 0; have hfz306_1x313 := bF BK199.out 1; have hfz306_2x313 := bF BK199.out 2; have hfz306_3x313 := bF BK199.out 3; have hnb308x313 := N4_.out; have hnc308x313 := N5_.out; have hnb309x313 := N8_.out; have hnc309x313 := N9_.out; have hnb310x313 := N14_.out; have hnc310x313 := N15_.out; have hnb311x313 := N32_.out; have hnc311x313 := N33_.out) | (go_at_call 13; (with_reducible refine (billiardref08_Empty.calls a1_0 a1_1 a1_2 a1_3 true _ A289.out).mono ?_); rintro e w322 ⟨rfl, hb⟩; have n_ := kB7 BK199 BK200 BK201 BK207 BK212 BK217 BK222 HB (by repeat first | exact lR _ _ | apply lN | apply lD | apply lA) hb; clear BK199 BK200 BK201 BK207 BK212 BK217 BK222 HB; obtain ⟨BK199, BK200, BK201, BK207, BK212, BK217, BK222, HB⟩ := n_; (try clear hb); (try clear hb2); (try clear hk); (try clear hi); have hcz323_0 : w322.cell? ⟨b199, 0, none⟩ = some (.int .i32 a0_0) := (bC BK199.out 0).trans rfl; have hcz323_1 : w322.cell? ⟨b199, 1, none⟩ = some (.int .i32 a0_1) := (bC BK199.out 1).trans rfl; have hcz323_2 : w322.cell? ⟨b199, 2, none⟩ = some (.int .i32 a0_2) := (bC BK199.out 2).trans rfl; have hcz323_3 : w322.cell? ⟨b199, 3, none⟩ = some (.int .i32 a0_3) := (bC BK199.out 3).trans rfl; have hfz323_0 := bF BK199.out 0; have hfz323_1 := bF BK199.out 1; have hfz323_2 := bF BK199.out 2; have hfz323_3 := bF BK199.out 3; have hnb301x322 := N0_.out; have hnc301x322 := N1_.out; have hnb302x322 := N2_.out; have hnc302x322 := N3_.out; have hnb303x322 := N6_.out; have hnc303x322 := N7_.out; have hnb304x322 := N12_.out; have hnc304x322 := N13_.out; have hnb305x322 := N30_.out; have hnc305x322 := N31_.out; have hnb308x322 := N4_.out; have hnc308x322 := N5_.out; have hnb309x322 := N8_.out; have hnc309x322 := N9_.out; have hnb310x322 := N14_.out; have hnc310x322 := N15_.out; have hnb311x322 := N32_.out; have hnc311x322 := N33_.out; have hcz312_0x322 : w322.cell? ⟨b200, 0, none⟩ = some (.int .i32 a1_0) := (bC BK200.out 0).trans rfl; have hcz312_1x322 : w322.cell? ⟨b200, 1, none⟩ = some (.int .i32 a1_1) := (bC BK200.out 1).trans rfl; have hcz312_2x322 : w322.cell? ⟨b200, 2, none⟩ = some (.int .i32 a1_2) := (bC BK200.out 2).trans rfl; have hcz312_3x322 : w322.cell? ⟨b200, 3, none⟩ = some (.int .i32 a1_3) := (bC BK200.out 3).trans rfl; have hfz312_0x322 := bF BK200.out 0; have hfz312_1x322 := bF BK200.out 1; have hfz312_2x322 := bF BK200.out 2; have hfz312_3x322 := bF BK200.out 3; have hnb314x322 := N35_.out; have hnc314x322 := N34_.out; have hnb315x322 := N37_.out; have hnc315x322 := N36_.out; have hnb316x322 := N39_.out; have hnc316x322 := N38_.out; have hcz317_0x322 : w322.cell? ⟨b222, 0, none⟩ = some (.int .i32 t218) := (bC BK222.out 0).trans rfl; have hcz317_1x322 : w322.cell? ⟨b222, 1, none⟩ = some (.int .i32 t219) := (bC BK222.out 1).trans rfl; have hcz317_2x322 : w322.cell? ⟨b222, 2, none⟩ = some (.int .i32 t220) := (bC BK222.out 2).trans rfl; have hcz317_3x322 : w322.cell? ⟨b222, 3, none⟩ = some (.int .i32 t221) := (bC BK222.out 3).trans rfl; have hfz317_0x322 := bF BK222.out 0; have hfz317_1x322 := bF BK222.out 1; have hfz317_2x322 := bF BK222.out 2; have hfz317_3x322 := bF BK222.out 3; have hnb318x322 := N17_.out; have hnc318x322 := N16_.out; have hnb319x322 := N19_.out; have hnc319x322 := N18_.out; have hcz320_0x322 : w322.cell? ⟨b212, 0, none⟩ = some (.int .i32 t208) := (bC BK212.out 0).trans rfl; have hcz320_1x322 : w322.cell? ⟨b212, 1, none⟩ = some (.int .i32 t209) := (bC BK212.out 1).trans rfl; have hcz320_2x322 : w322.cell? ⟨b212, 2, none⟩ = some (.int .i32 t210) := (bC BK212.out 2).trans rfl; have hcz320_3x322 : w322.cell? ⟨b212, 3, none⟩ = some (.int .i32 t211) := (bC BK212.out 3).trans rfl; have hfz320_0x322 := bF BK212.out 0; have hfz320_1x322 := bF BK212.out 1; have hfz320_2x322 := bF BK212.out 2; have hfz320_3x322 := bF BK212.out 3) | (go_at_call 13; (with_reducible refine (billiardref08_Empty.calls a0_0 a0_1 a0_2 a0_3 true _ A291.out).mono ?_); rintro e w324 ⟨rfl, hb⟩; have n_ := kB7 BK199 BK200 BK201 BK207 BK212 BK217 BK222 HB (by repeat first | exact lR _ _ | apply lN | apply lD | apply lA) hb; clear BK199 BK200 BK201 BK207 BK212 BK217 BK222 HB; obtain ⟨BK199, BK200, BK201, BK207, BK212, BK217, BK222, HB⟩ := n_; (try clear hb); (try clear hb2); (try clear hk); (try clear hi); have hnb301x324 := N0_.out; have hnc301x324 := N1_.out; have hnb302x324 := N2_.out; have hnc302x324 := N3_.out; have hnb303x324 := N6_.out; have hnc303x324 := N7_.out; have hnb304x324 := N12_.out; have hnc304x324 := N13_.out; have hnb305x324 := N30_.out; have hnc305x324 := N31_.out; have hcz306_0x324 : w324.cell? ⟨b199, 0, none⟩ = some (.int .i32 a0_0) := (bC BK199.out 0).trans rfl; have hcz306_1x324 : w324.cell? ⟨b199, 1, none⟩ = some (.int .i32 a0_1) := (bC BK199.out 1).trans rfl; have hcz306_2x324 : w324.cell? ⟨b199, 2, none⟩ = some (.int .i32 a0_2) := (bC BK199.out 2).trans rfl; have hcz306_3x324 : w324.cell? ⟨b199, 3, none⟩ = some (.int .i32 a0_3) := (bC BK199.out 3).trans rfl; have hfz306_0x324 := bF BK199.out 0; have hfz306_1x324 := bF BK199.out 1; have hfz306_2x324 := bF BK199.out 2; have hfz306_3x324 := bF BK199.out 3; have hnb308x324 := N4_.out; have hnc308x324 := N5_.out; have hnb309x324 := N8_.out; have hnc309x324 := N9_.out; have hnb310x324 := N14_.out; have hnc310x324 := N15_.out; have hnb311x324 := N32_.out; have hnc311x324 := N33_.out; have hcz312_0x324 : w324.cell? ⟨b200, 0, none⟩ = some (.int .i32 a1_0) := (bC BK200.out 0).trans rfl; have hcz312_1x324 : w324.cell? ⟨b200, 1, none⟩ = some (.int .i32 a1_1) := (bC BK200.out 1).trans rfl; have hcz312_2x324 : w324.cell? ⟨b200, 2, none⟩ = some (.int .i32 a1_2) := (bC BK200.out 2).trans rfl; have hcz312_3x324 : w324.cell? ⟨b200, 3, none⟩ = some (.int .i32 a1_3) := (bC BK200.out 3).trans rfl; have hfz312_0x324 := bF BK200.out 0; have hfz312_1x324 := bF BK200.out 1; have hfz312_2x324 := bF BK200.out 2; have hfz312_3x324 := bF BK200.out 3; have hnb314x324 := N35_.out; have hnc314x324 := N34_.out; have hnb315x324 := N37_.out; have hnc315x324 := N36_.out; have hnb316x324 := N39_.out; have hnc316x324 := N38_.out; have hcz317_0x324 : w324.cell? ⟨b222, 0, none⟩ = some (.int .i32 t218) := (bC BK222.out 0).trans rfl; have hcz317_1x324 : w324.cell? ⟨b222, 1, none⟩ = some (.int .i32 t219) := (bC BK222.out 1).trans rfl; have hcz317_2x324 : w324.cell? ⟨b222, 2, none⟩ = some (.int .i32 t220) := (bC BK222.out 2).trans rfl; have hcz317_3x324 : w324.cell? ⟨b222, 3, none⟩ = some (.int .i32 t221) := (bC BK222.out 3).trans rfl; have hfz317_0x324 := bF BK222.out 0; have hfz317_1x324 := bF BK222.out 1; have hfz317_2x324 := bF BK222.out 2; have hfz317_3x324 := bF BK222.out 3; have hnb318x324 := N17_.out; have hnc318x324 := N16_.out; have hnb319x324 := N19_.out; have hnc319x324 := N18_.out; have hcz320_0x324 : w324.cell? ⟨b212, 0, none⟩ = some (.int .i32 t208) := (bC BK212.out 0).trans rfl; have hcz320_1x324 : w324.cell? ⟨b212, 1, none⟩ = some (.int .i32 t209) := (bC BK212.out 1).trans rfl; have hcz320_2x324 : w324.cell? ⟨b212, 2, none⟩ = some (.int .i32 t210) := (bC BK212.out 2).trans rfl; have hcz320_3x324 : w324.cell? ⟨b212, 3, none⟩ = some (.int .i32 t211) := (bC BK212.out 3).trans rfl; have hfz320_0x324 := bF BK212.out 0; have hfz320_1x324 := bF BK212.out 1; have hfz320_2x324 := bF BK212.out 2; have hfz320_3x324 := bF BK212.out 3))
                    go_ret
                    exact ⟨by first | rfl | (simp [errW_none, errW_some] <;> rfl) | (simp [*, errW_none, errW_some] <;> rfl), by repeat (first | (with_reducible first | exact HB.out | apply lA | apply lN | apply lD | refine lS ?_ GE199.out | refine lS ?_ GE200.out | refine lS ?_ GE201.out | refine lS ?_ GE207.out | refine lS ?_ GE212.out | refine lS ?_ GE217.out | refine lS ?_ GE222.out) | exact HB.out)⟩
                   ·replace c292 := Bool.eq_false_iff.mpr c292
                    subst c292
                    exact absurd (A291.out.symm.trans A190.out) (by simp)
                  ·replace c290 := Bool.eq_false_iff.mpr c290
                   subst c290
                   exact absurd (A289.out.symm.trans A192.out) (by simp)
                 ·rw [if_neg c288] at H
                  have c288b0 : (t218 == t208 && (t219 == t209 && (t220 == t210 && (t221 == t211)))) = false := by simpa using c288
                  (try (have c288b1 : decide (t218 = t208 && (t219 == t209 && (t220 == t210 && (t221 == t211)))) = false := by simpa using c288))
                  (try (have c288b2 : (t218 == t208 && (t219 == t209 && (t220 == t210 && (t221 == t211)))) = false := by simpa using c288))
                  (try (have c288b3 : ¬ (t218 = t208 && (t219 == t209 && (t220 == t210 && (t221 == t211)))) := by simpa using c288))
                  clear c288
                  exact absurd ((Option.some.inj H).trans HR.out) (by decide)
               ·replace c193 := Bool.eq_false_iff.mpr c193
                subst c193
                rw [if_neg (show ¬ (false = true) by decide)] at H
                by_cases c390 : (t218 == t208 && (t219 == t209 && (t220 == t210 && (t221 == t211)))) = true
                ·rw [if_pos c390] at H
                 have c390b0 : (t218 == t208 && (t219 == t209 && (t220 == t210 && (t221 == t211)))) = true := c390
                 (try (have c390b1 : decide (t218 = t208 && (t219 == t209 && (t220 == t210 && (t221 == t211)))) = true := by simpa using c390))
                 (try (have c390b2 : (t218 == t208 && (t219 == t209 && (t220 == t210 && (t221 == t211)))) = true := by simpa using c390))
                 clear c390
                 replace H := Option.bind_eq_some_iff.mp H
                 obtain ⟨t246, A3910, H⟩ := H
                 try dsimp only at H
                 have A391 := aM A3910
                 clear A3910
                 by_cases c392 : t246 = true
                 ·subst c392
                  exact absurd (A391.out.symm.trans A192.out) (by simp)
                 ·replace c392 := Bool.eq_false_iff.mpr c392
                  subst c392
                  rw [if_neg (show ¬ (false = true) by decide)] at H
                  obtain rfl := Option.some.inj H
                  have hnb462 := N21_.out
                  have hnc462 := N20_.out
                  have hnb463 := N23_.out
                  have hnc463 := N22_.out
                  have hnb464 := N25_.out
                  have hnc464 := N24_.out
                  have hnb465 := N27_.out
                  have hnc465 := N26_.out
                  have hnb466 := N29_.out
                  have hnc466 := N28_.out
                  have hnb467 := N40_.out
                  have hnc467 := N41_.out
                  have hcz468_0 : wc.cell? ⟨b217, 0, none⟩ = some (.int .i32 t213) := (bC BK217.out 0).trans rfl
                  have hcz468_1 : wc.cell? ⟨b217, 1, none⟩ = some (.int .i32 t214) := (bC BK217.out 1).trans rfl
                  have hcz468_2 : wc.cell? ⟨b217, 2, none⟩ = some (.int .i32 t215) := (bC BK217.out 2).trans rfl
                  have hcz468_3 : wc.cell? ⟨b217, 3, none⟩ = some (.int .i32 t216) := (bC BK217.out 3).trans rfl
                  have hfz468_0 := bF BK217.out 0
                  have hfz468_1 := bF BK217.out 1
                  have hfz468_2 := bF BK217.out 2
                  have hfz468_3 := bF BK217.out 3
                  go_wp2_with (first | ((with_reducible refine gate_callee (f := 12) rfl ?_); refine goesL_ (some 75) rfl rfl Tryd.func12 (by kernel_rfl) rfl #[.agg #[.int .i32 t213, .int .i32 t214, .int .i32 t215, .int .i32 t216]] rfl (by (try simp only [List.map_toArray, List.map_cons, List.map_nil]); first | done | rfl | (simp only [List.length_drop, List.length_take]; rfl)) ?_; (with_reducible refine (box_Empty.calls t213 t214 t215 t216 true _ A188.out).mono ?_); rintro e w469 ⟨rfl, hb⟩; refine ⟨_, rfl, ?_⟩; have n_ := kB7 BK199 BK200 BK201 BK207 BK212 BK217 BK222 HB (by repeat first | exact lR _ _ | apply lN | apply lD | apply lA) hb; clear BK199 BK200 BK201 BK207 BK212 BK217 BK222 HB; obtain ⟨BK199, BK200, BK201, BK207, BK212, BK217, BK222, HB⟩ := n_; (try clear hb); (try clear hb2); (try clear hk); (try clear hi); have hnb470 := N0_.out; have hnc470 := N1_.out; have hnb471 := N2_.out; have hnc471 := N3_.out; have hnb472 := N6_.out; have hnc472 := N7_.out; have hnb473 := N12_.out; have hnc473 := N13_.out; have hnb474 := N30_.out; have hnc474 := N31_.out; have hcz475_0 : w469.cell? ⟨b199, 0, none⟩ = some (.int .i32 a0_0) := (bC BK199.out 0).trans rfl; have hcz475_1 : w469.cell? ⟨b199, 1, none⟩ = some (.int .i32 a0_1) := (bC BK199.out 1).trans rfl; have hcz475_2 : w469.cell? ⟨b199, 2, none⟩ = some (.int .i32 a0_2) := (bC BK199.out 2).trans rfl; have hcz475_3 : w469.cell? ⟨b199, 3, none⟩ = some (.int .i32 a0_3) := (bC BK199.out 3).trans rfl; have hfz475_0 := bF BK199.out 0; have hfz475_1 := bF BK199.out 1; have hfz475_2 := bF BK199.out 2; have hfz475_3 := bF BK199.out 3; have hnb477x469 := N4_.out; have hnc477x469 := N5_.out; have hnb478x469 := N8_.out; have hnc478x469 := N9_.out; have hnb479x469 := N14_.out; have hnc479x469 := N15_.out; have hnb480x469 := N32_.out; have hnc480x469 := N33_.out; have hcz481_0x469 : w469.cell? ⟨b200, 0, none⟩ = some (.int .i32 a1_0) := (bC BK200.out 0).trans rfl; have hcz481_1x469 : w469.cell? ⟨b200, 1, none⟩ = some (.int .i32 a1_1) := (bC BK200.out 1).trans rfl; have hcz481_2x469 : w469.cell? ⟨b200, 2, none⟩ = some (.int .i32 a1_2) := (bC BK200.out 2).trans rfl; have hcz481_3x469 : w469.cell? ⟨b200, 3, none⟩ = some (.int .i32 a1_3) := (bC BK200.out 3).trans rfl; have hfz481_0x469 := bF BK200.out 0; have hfz481_1x469 := bF BK200.out 1; have hfz481_2x469 := bF BK200.out 2; have hfz481_3x469 := bF BK200.out 3; have hnb483x469 := N35_.out; have hnc483x469 := N34_.out; have hnb484x469 := N37_.out; have hnc484x469 := N36_.out; have hnb485x469 := N39_.out; have hnc485x469 := N38_.out; have hcz486_0x469 : w469.cell? ⟨b222, 0, none⟩ = some (.int .i32 t218) := (bC BK222.out 0).trans rfl; have hcz486_1x469 : w469.cell? ⟨b222, 1, none⟩ = some (.int .i32 t219) := (bC BK222.out 1).trans rfl; have hcz486_2x469 : w469.cell? ⟨b222, 2, none⟩ = some (.int .i32 t220) := (bC BK222.out 2).trans rfl; have hcz486_3x469 : w469.cell? ⟨b222, 3, none⟩ = some (.int .i32 t221) := (bC BK222.out 3).trans rfl; have hfz486_0x469 := bF BK222.out 0; have hfz486_1x469 := bF BK222.out 1; have hfz486_2x469 := bF BK222.out 2; have hfz486_3x469 := bF BK222.out 3; have hnb487x469 := N17_.out; have hnc487x469 := N16_.out; have hnb488x469 := N19_.out; have hnc488x469 := N18_.out; have hcz489_0x469 : w469.cell? ⟨b212, 0, none⟩ = some (.int .i32 t208) := (bC BK212.out 0).trans rfl; have hcz489_1x469 : w469.cell? ⟨b212, 1, none⟩ = some (.int .i32 t209) := (bC BK212.out 1).trans rfl; have hcz489_2x469 : w469.cell? ⟨b212, 2, none⟩ = some (.int .i32 t210) := (bC BK212.out 2).trans rfl; have hcz489_3x469 : w469.cell? ⟨b212, 3, none⟩ = some (.int .i32 t211) := (bC BK212.out 3).trans rfl; have hfz489_0x469 := bF BK212.out 0; have hfz489_1x469 := bF BK212.out 1; have hfz489_2x469 := bF BK212.out 2; have hfz489_3x469 := bF BK212.out 3) | (go_at_call 13; (with_reducible refine (billiardref08_Empty.calls a0_0 a0_1 a0_2 a0_3 true _ A190.out).mono ?_); rintro e w476 ⟨rfl, hb⟩; have n_ := kB7 BK199 BK200 BK201 BK207 BK212 BK217 BK222 HB (by repeat first | exact lR _ _ | apply lN | apply lD | apply lA) hb; clear BK199 BK200 BK201 BK207 BK212 BK217 BK222 HB; obtain ⟨BK199, BK200, BK201, BK207, BK212, BK217, BK222, HB⟩ := n_; (try clear hb); (try clear hb2); (try clear hk); (try clear hi); have hnb477 := N4_.out; have hnc477 := N5_.out; have hnb478 := N8_.out; have hnc478 := N9_.out; have hnb479 := N14_.out; have hnc479 := N15_.out; have hnb480 := N32_.out; have hnc480 := N33_.out; have hcz481_0 : w476.cell? ⟨b200, 0, none⟩ = some (.int .i32 a1_0) := (bC BK200.out 0).trans rfl; have hcz481_1 : w476.cell? ⟨b200, 1, none⟩ = some (.int .i32 a1_1) := (bC BK200.out 1).trans rfl; have hcz481_2 : w476.cell? ⟨b200, 2, none⟩ = some (.int .i32 a1_2) := (bC BK200.out 2).trans rfl; have hcz481_3 : w476.cell? ⟨b200, 3, none⟩ = some (.int .i32 a1_3) := (bC BK200.out 3).trans rfl; have hfz481_0 := bF BK200.out 0; have hfz481_1 := bF BK200.out 1; have hfz481_2 := bF BK200.out 2; have hfz481_3 := bF BK200.out 3; have hnb470x476 := N0_.out; have hnc470x476 := N1_.out; have hnb471x476 := N2_.out; have hnc471x476 := N3_.out; have hnb472x476 := N6_.out; have hnc472x476 := N7_.out; have hnb473x476 := N12_.out; have hnc473x476 := N13_.out; have hnb474x476 := N30_.out; have hnc474x476 := N31_.out; have hcz475_0x476 : w476.cell? ⟨b199, 0, none⟩ = some (.int .i32 a0_0) := (bC BK199.out 0).trans rfl; have hcz475_1x476 : w476.cell? ⟨b199, 1, none⟩ = some (.int .i32 a0_1) := (bC BK199.out 1).trans rfl; have hcz475_2x476 : w476.cell? ⟨b199, 2, none⟩ = some (.int .i32 a0_2) := (bC BK199.out 2).trans rfl; have hcz475_3x476 : w476.cell? ⟨b199, 3, none⟩ = some (.int .i32 a0_3) := (bC BK199.out 3).trans rfl; have hfz475_0x476 := bF BK199.out 0; have hfz475_1x476 := bF BK199.out 1; have hfz475_2x476 := bF BK199.out 2; have hfz475_3x476 := bF BK199.out 3; have hnb483x476 := N35_.out; have hnc483x476 := N34_.out; have hnb484x476 := N37_.out; have hnc484x476 := N36_.out; have hnb485x476 := N39_.out; have hnc485x476 := N38_.out; have hcz486_0x476 : w476.cell? ⟨b222, 0, none⟩ = some (.int .i32 t218) := (bC BK222.out 0).trans rfl; have hcz486_1x476 : w476.cell? ⟨b222, 1, none⟩ = some (.int .i32 t219) := (bC BK222.out 1).trans rfl; have hcz486_2x476 : w476.cell? ⟨b222, 2, none⟩ = some (.int .i32 t220) := (bC BK222.out 2).trans rfl; have hcz486_3x476 : w476.cell? ⟨b222, 3, none⟩ = some (.int .i32 t221) := (bC BK222.out 3).trans rfl; have hfz486_0x476 := bF BK222.out 0; have hfz486_1x476 := bF BK222.out 1; have hfz486_2x476 := bF BK222.out 2; have hfz486_3x476 := bF BK222.out 3; have hnb487x476 := N17_.out; have hnc487x476 := N16_.out; have hnb488x476 := N19_.out; have hnc488x476 := N18_.out; have hcz489_0x476 : w476.cell? ⟨b212, 0, none⟩ = some (.int .i32 t208) := (bC BK212.out 0).trans rfl; have hcz489_1x476 : w476.cell? ⟨b212, 1, none⟩ = some (.int .i32 t209) := (bC BK212.out 1).trans rfl; have hcz489_2x476 : w476.cell? ⟨b212, 2, none⟩ = some (.int .i32 t210) := (bC BK212.out 2).trans rfl; have hcz489_3x476 : w476.cell? ⟨b212, 3, none⟩ = some (.int .i32 t211) := (bC BK212.out 3).trans rfl; have hfz489_0x476 := bF BK212.out 0; have hfz489_1x476 := bF BK212.out 1; have hfz489_2x476 := bF BK212.out 2; have hfz489_3x476 := bF BK212.out 3) | (go_at_call 13; (with_reducible refine (billiardref08_Empty.calls a1_0 a1_1 a1_2 a1_3 false _ A192.out).mono ?_); rintro e w482 ⟨rfl, hb⟩; have n_ := kB7 BK199 BK200 BK201 BK207 BK212 BK217 BK222 HB (by repeat first | exact lR _ _ | apply lN | apply lD | apply lA) hb; clear BK199 BK200 BK201 BK207 BK212 BK217 BK222 HB; obtain ⟨BK199, BK200, BK201, BK207, BK212, BK217, BK222, HB⟩ := n_; (try clear hb); (try clear hb2); (try clear hk); (try clear hi); have hnb483 := N35_.out; have hnc483 := N34_.out; have hnb484 := N37_.out; have hnc484 := N36_.out; have hnb485 := N39_.out; have hnc485 := N38_.out; have hcz486_0 : w482.cell? ⟨b222, 0, none⟩ = some (.int .i32 t218) := (bC BK222.out 0).trans rfl; have hcz486_1 : w482.cell? ⟨b222, 1, none⟩ = some (.int .i32 t219) := (bC BK222.out 1).trans rfl; have hcz486_2 : w482.cell? ⟨b222, 2, none⟩ = some (.int .i32 t220) := (bC BK222.out 2).trans rfl; have hcz486_3 : w482.cell? ⟨b222, 3, none⟩ = some (.int .i32 t221) := (bC BK222.out 3).trans rfl; have hfz486_0 := bF BK222.out 0; have hfz486_1 := bF BK222.out 1; have hfz486_2 := bF BK222.out 2; have hfz486_3 := bF BK222.out 3; have hnb487 := N17_.out; have hnc487 := N16_.out; have hnb488 := N19_.out; have hnc488 := N18_.out; have hcz489_0 : w482.cell? ⟨b212, 0, none⟩ = some (.int .i32 t208) := (bC BK212.out 0).trans rfl; have hcz489_1 : w482.cell? ⟨b212, 1, none⟩ = some (.int .i32 t209) := (bC BK212.out 1).trans rfl; have hcz489_2 : w482.cell? ⟨b212, 2, none⟩ = some (.int .i32 t210) := (bC BK212.out 2).trans rfl; have hcz489_3 : w482.cell? ⟨b212, 3, none⟩ = some (.int .i32 t211) := (bC BK212.out 3).trans rfl; have hfz489_0 := bF BK212.out 0; have hfz489_1 := bF BK212.out 1; have hfz489_2 := bF BK212.out 2; have hfz489_3 := bF BK212.out 3; have hcz490_0 : w482.cell? ⟨b200, 0, none⟩ = some (.int .i32 a1_0) := (bC BK200.out 0).trans rfl; have hcz490_1 : w482.cell? ⟨b200, 1, none⟩ = some (.int .i32 a1_1) := (bC BK200.out 1).trans rfl; have hcz490_2 : w482.cell? ⟨b200, 2, none⟩ = some (.int .i32 a1_2) := (bC BK200.out 2).trans rfl; have hcz490_3 : w482.cell? ⟨b200, 3, none⟩ = some (.int .i32 a1_3) := (bC BK200.out 3).trans rfl; have hfz490_0 := bF BK200.out 0; have hfz490_1 := bF BK200.out 1; have hfz490_2 := bF BK200.out 2; have hfz490_3 := bF BK200.out 3; have hnb470x482 := N0_.out; have hnc470x482 := N1_.out; have hnb471x482 := N2_.out; have hnc471x482 := N3_.out; have hnb472x482 := N6_.out; have hnc472x482 := N7_.out; have hnb473x482 := N12_.out; have hnc473x482 := N13_.out; have hnb474x482 := N30_.out; have hnc474x482 := N31_.out; have hcz475_0x482 : w482.cell? ⟨b199, 0, none⟩ = some (.int .i32 a0_0) := (bC BK199.out 0).trans rfl; have hcz475_1x482 : w482.cell? ⟨b199, 1, none⟩ = some (.int .i32 a0_1) := (bC BK199.out 1).trans rfl; have hcz475_2x482 : w482.cell? ⟨b199, 2, none⟩ = some (.int .i32 a0_2) := (bC BK199.out 2).trans rfl; have hcz475_3x482 : w482.cell? ⟨b199, 3, none⟩ = some (.int .i32 a0_3) := (bC BK199.out 3).trans rfl; have hfz475_0x482 := bF BK199.out 0; have hfz475_1x482 := bF BK199.out 1; have hfz475_2x482 := bF BK199.out 2; have hfz475_3x482 := bF BK199.out 3; have hnb477x482 := N4_.out; have hnc477x482 := N5_.out; have hnb478x482 := N8_.out; have hnc478x482 := N9_.out; have hnb479x482 := N14_.out; have hnc479x482 := N15_.out; have hnb480x482 := N32_.out; have hnc480x482 := N33_.out) | (go_at_call 13; (with_reducible refine (billiardref08_Empty.calls a1_0 a1_1 a1_2 a1_3 false _ A391.out).mono ?_); rintro e w491 ⟨rfl, hb⟩; have n_ := kB7 BK199 BK200 BK201 BK207 BK212 BK217 BK222 HB (by repeat first | exact lR _ _ | apply lN | apply lD | apply lA) hb; clear BK199 BK200 BK201 BK207 BK212 BK217 BK222 HB; obtain ⟨BK199, BK200, BK201, BK207, BK212, BK217, BK222, HB⟩ := n_; (try clear hb); (try clear hb2); (try clear hk); (try clear hi); have hnb470x491 := N0_.out; have hnc470x491 := N1_.out; have hnb471x491 := N2_.out; have hnc471x491 := N3_.out; have hnb472x491 := N6_.out; have hnc472x491 := N7_.out; have hnb473x491 := N12_.out; have hnc473x491 := N13_.out; have hnb474x491 := N30_.out; have hnc474x491 := N31_.out; have hcz475_0x491 : w491.cell? ⟨b199, 0, none⟩ = some (.int .i32 a0_0) := (bC BK199.out 0).trans rfl; have hcz475_1x491 : w491.cell? ⟨b199, 1, none⟩ = some (.int .i32 a0_1) := (bC BK199.out 1).trans rfl; have hcz475_2x491 : w491.cell? ⟨b199, 2, none⟩ = some (.int .i32 a0_2) := (bC BK199.out 2).trans rfl; have hcz475_3x491 : w491.cell? ⟨b199, 3, none⟩ = some (.int .i32 a0_3) := (bC BK199.out 3).trans rfl; have hfz475_0x491 := bF BK199.out 0; have hfz475_1x491 := bF BK199.out 1; have hfz475_2x491 := bF BK199.out 2; have hfz475_3x491 := bF BK199.out 3; have hnb477x491 := N4_.out; have hnc477x491 := N5_.out; have hnb478x491 := N8_.out; have hnc478x491 := N9_.out; have hnb479x491 := N14_.out; have hnc479x491 := N15_.out; have hnb480x491 := N32_.out; have hnc480x491 := N33_.out; have hcz481_0x491 : w491.cell? ⟨b200, 0, none⟩ = some (.int .i32 a1_0) := (bC BK200.out 0).trans rfl; have hcz481_1x491 : w491.cell? ⟨b200, 1, none⟩ = some (.int .i32 a1_1) := (bC BK200.out 1).trans rfl; have hcz481_2x491 : w491.cell? ⟨b200, 2, none⟩ = some (.int .i32 a1_2) := (bC BK200.out 2).trans rfl; have hcz481_3x491 : w491.cell? ⟨b200, 3, none⟩ = some (.int .i32 a1_3) := (bC BK200.out 3).trans rfl; have hfz481_0x491 := bF BK200.out 0; have hfz481_1x491 := bF BK200.out 1; have hfz481_2x491 := bF BK200.out 2; have hfz481_3x491 := bF BK200.out 3; have hnb483x491 := N35_.out; have hnc483x491 := N34_.out; have hnb484x491 := N37_.out; have hnc484x491 := N36_.out; have hnb485x491 := N39_.out; have hnc485x491 := N38_.out; have hcz486_0x491 : w491.cell? ⟨b222, 0, none⟩ = some (.int .i32 t218) := (bC BK222.out 0).trans rfl; have hcz486_1x491 : w491.cell? ⟨b222, 1, none⟩ = some (.int .i32 t219) := (bC BK222.out 1).trans rfl; have hcz486_2x491 : w491.cell? ⟨b222, 2, none⟩ = some (.int .i32 t220) := (bC BK222.out 2).trans rfl; have hcz486_3x491 : w491.cell? ⟨b222, 3, none⟩ = some (.int .i32 t221) := (bC BK222.out 3).trans rfl; have hfz486_0x491 := bF BK222.out 0; have hfz486_1x491 := bF BK222.out 1; have hfz486_2x491 := bF BK222.out 2; have hfz486_3x491 := bF BK222.out 3; have hnb487x491 := N17_.out; have hnc487x491 := N16_.out; have hnb488x491 := N19_.out; have hnc488x491 := N18_.out; have hcz489_0x491 : w491.cell? ⟨b212, 0, none⟩ = some (.int .i32 t208) := (bC BK212.out 0).trans rfl; have hcz489_1x491 : w491.cell? ⟨b212, 1, none⟩ = some (.int .i32 t209) := (bC BK212.out 1).trans rfl; have hcz489_2x491 : w491.cell? ⟨b212, 2, none⟩ = some (.int .i32 t210) := (bC BK212.out 2).trans rfl; have hcz489_3x491 : w491.cell? ⟨b212, 3, none⟩ = some (.int .i32 t211) := (bC BK212.out 3).trans rfl; have hfz489_0x491 := bF BK212.out 0; have hfz489_1x491 := bF BK212.out 1; have hfz489_2x491 := bF BK212.out 2; have hfz489_3x491 := bF BK212.out 3))
                  go_ret
                  exact ⟨by first | rfl | (simp [errW_none, errW_some] <;> rfl) | (simp [*, errW_none, errW_some] <;> rfl), by repeat (first | (with_reducible first | exact HB.out | apply lA | apply lN | apply lD | refine lS ?_ GE199.out | refine lS ?_ GE200.out | refine lS ?_ GE201.out | refine lS ?_ GE207.out | refine lS ?_ GE212.out | refine lS ?_ GE217.out | refine lS ?_ GE222.out) | exact HB.out)⟩
                ·rw [if_neg c390] at H
                 have c390b0 : (t218 == t208 && (t219 == t209 && (t220 == t210 && (t221 == t211)))) = false := by simpa using c390
                 (try (have c390b1 : decide (t218 = t208 && (t219 == t209 && (t220 == t210 && (t221 == t211)))) = false := by simpa using c390))
                 (try (have c390b2 : (t218 == t208 && (t219 == t209 && (t220 == t210 && (t221 == t211)))) = false := by simpa using c390))
                 (try (have c390b3 : ¬ (t218 = t208 && (t219 == t209 && (t220 == t210 && (t221 == t211)))) := by simpa using c390))
                 clear c390
                 exact absurd ((Option.some.inj H).trans HR.out) (by decide)
              ·replace c191 := Bool.eq_false_iff.mpr c191
               subst c191
               rw [if_neg (show ¬ (false = true) by decide)] at H
               replace H := Option.bind_eq_some_iff.mp H
               obtain ⟨t248, A4920, H⟩ := H
               try dsimp only at H
               have A492 := aM A4920
               clear A4920
               by_cases c493 : t248 = true
               ·subst c493
                rw [if_pos rfl] at H
                replace H := Option.bind_eq_some_iff.mp H
                obtain ⟨t249, A4940, H⟩ := H
                try dsimp only at H
                have A494 := aM A4940
                clear A4940
                by_cases c495 : t249 = true
                ·subst c495
                 exact absurd (A494.out.symm.trans A190.out) (by simp)
                ·replace c495 := Bool.eq_false_iff.mpr c495
                 subst c495
                 rw [if_neg (show ¬ (false = true) by decide)] at H
                 obtain rfl := Option.some.inj H
                 have hnb519 := N21_.out
                 have hnc519 := N20_.out
                 have hnb520 := N23_.out
                 have hnc520 := N22_.out
                 have hnb521 := N25_.out
                 have hnc521 := N24_.out
                 have hnb522 := N27_.out
                 have hnc522 := N26_.out
                 have hnb523 := N29_.out
                 have hnc523 := N28_.out
                 have hnb524 := N40_.out
                 have hnc524 := N41_.out
                 have hcz525_0 : wc.cell? ⟨b217, 0, none⟩ = some (.int .i32 t213) := (bC BK217.out 0).trans rfl
                 have hcz525_1 : wc.cell? ⟨b217, 1, none⟩ = some (.int .i32 t214) := (bC BK217.out 1).trans rfl
                 have hcz525_2 : wc.cell? ⟨b217, 2, none⟩ = some (.int .i32 t215) := (bC BK217.out 2).trans rfl
                 have hcz525_3 : wc.cell? ⟨b217, 3, none⟩ = some (.int .i32 t216) := (bC BK217.out 3).trans rfl
                 have hfz525_0 := bF BK217.out 0
                 have hfz525_1 := bF BK217.out 1
                 have hfz525_2 := bF BK217.out 2
                 have hfz525_3 := bF BK217.out 3
                 go_wp2_with (first | ((with_reducible refine gate_callee (f := 12) rfl ?_); refine goesL_ (some 75) rfl rfl Tryd.func12 (by kernel_rfl) rfl #[.agg #[.int .i32 t213, .int .i32 t214, .int .i32 t215, .int .i32 t216]] rfl (by (try simp only [List.map_toArray, List.map_cons, List.map_nil]); first | done | rfl | (simp only [List.length_drop, List.length_take]; rfl)) ?_; (with_reducible refine (box_Empty.calls t213 t214 t215 t216 true _ A188.out).mono ?_); rintro e w526 ⟨rfl, hb⟩; refine ⟨_, rfl, ?_⟩; have n_ := kB7 BK199 BK200 BK201 BK207 BK212 BK217 BK222 HB (by repeat first | exact lR _ _ | apply lN | apply lD | apply lA) hb; clear BK199 BK200 BK201 BK207 BK212 BK217 BK222 HB; obtain ⟨BK199, BK200, BK201, BK207, BK212, BK217, BK222, HB⟩ := n_; (try clear hb); (try clear hb2); (try clear hk); (try clear hi); have hnb527 := N0_.out; have hnc527 := N1_.out; have hnb528 := N2_.out; have hnc528 := N3_.out; have hnb529 := N6_.out; have hnc529 := N7_.out; have hnb530 := N12_.out; have hnc530 := N13_.out; have hnb531 := N30_.out; have hnc531 := N31_.out; have hcz532_0 : w526.cell? ⟨b199, 0, none⟩ = some (.int .i32 a0_0) := (bC BK199.out 0).trans rfl; have hcz532_1 : w526.cell? ⟨b199, 1, none⟩ = some (.int .i32 a0_1) := (bC BK199.out 1).trans rfl; have hcz532_2 : w526.cell? ⟨b199, 2, none⟩ = some (.int .i32 a0_2) := (bC BK199.out 2).trans rfl; have hcz532_3 : w526.cell? ⟨b199, 3, none⟩ = some (.int .i32 a0_3) := (bC BK199.out 3).trans rfl; have hfz532_0 := bF BK199.out 0; have hfz532_1 := bF BK199.out 1; have hfz532_2 := bF BK199.out 2; have hfz532_3 := bF BK199.out 3; have hnb534x526 := N4_.out; have hnc534x526 := N5_.out; have hnb535x526 := N8_.out; have hnc535x526 := N9_.out; have hnb536x526 := N14_.out; have hnc536x526 := N15_.out; have hnb537x526 := N32_.out; have hnc537x526 := N33_.out; have hcz538_0x526 : w526.cell? ⟨b200, 0, none⟩ = some (.int .i32 a1_0) := (bC BK200.out 0).trans rfl; have hcz538_1x526 : w526.cell? ⟨b200, 1, none⟩ = some (.int .i32 a1_1) := (bC BK200.out 1).trans rfl; have hcz538_2x526 : w526.cell? ⟨b200, 2, none⟩ = some (.int .i32 a1_2) := (bC BK200.out 2).trans rfl; have hcz538_3x526 : w526.cell? ⟨b200, 3, none⟩ = some (.int .i32 a1_3) := (bC BK200.out 3).trans rfl; have hfz538_0x526 := bF BK200.out 0; have hfz538_1x526 := bF BK200.out 1; have hfz538_2x526 := bF BK200.out 2; have hfz538_3x526 := bF BK200.out 3; have hnb542x526 := N35_.out; have hnc542x526 := N34_.out; have hnb543x526 := N37_.out; have hnc543x526 := N36_.out; have hnb544x526 := N39_.out; have hnc544x526 := N38_.out; have hcz545_0x526 : w526.cell? ⟨b222, 0, none⟩ = some (.int .i32 t218) := (bC BK222.out 0).trans rfl; have hcz545_1x526 : w526.cell? ⟨b222, 1, none⟩ = some (.int .i32 t219) := (bC BK222.out 1).trans rfl; have hcz545_2x526 : w526.cell? ⟨b222, 2, none⟩ = some (.int .i32 t220) := (bC BK222.out 2).trans rfl; have hcz545_3x526 : w526.cell? ⟨b222, 3, none⟩ = some (.int .i32 t221) := (bC BK222.out 3).trans rfl; have hfz545_0x526 := bF BK222.out 0; have hfz545_1x526 := bF BK222.out 1; have hfz545_2x526 := bF BK222.out 2; have hfz545_3x526 := bF BK222.out 3; have hnb546x526 := N11_.out; have hnc546x526 := N10_.out; have hnb547x526 := N18_.out; have hnc547x526 := N19_.out; have hcz548_0x526 : w526.cell? ⟨b207, 0, none⟩ = some (.int .i32 t203) := (bC BK207.out 0).trans rfl; have hcz548_1x526 : w526.cell? ⟨b207, 1, none⟩ = some (.int .i32 t204) := (bC BK207.out 1).trans rfl; have hcz548_2x526 : w526.cell? ⟨b207, 2, none⟩ = some (.int .i32 t205) := (bC BK207.out 2).trans rfl; have hcz548_3x526 : w526.cell? ⟨b207, 3, none⟩ = some (.int .i32 t206) := (bC BK207.out 3).trans rfl; have hfz548_0x526 := bF BK207.out 0; have hfz548_1x526 := bF BK207.out 1; have hfz548_2x526 := bF BK207.out 2; have hfz548_3x526 := bF BK207.out 3) | (go_at_call 13; (with_reducible refine (billiardref08_Empty.calls a0_0 a0_1 a0_2 a0_3 false _ A190.out).mono ?_); rintro e w533 ⟨rfl, hb⟩; have n_ := kB7 BK199 BK200 BK201 BK207 BK212 BK217 BK222 HB (by repeat first | exact lR _ _ | apply lN | apply lD | apply lA) hb; clear BK199 BK200 BK201 BK207 BK212 BK217 BK222 HB; obtain ⟨BK199, BK200, BK201, BK207, BK212, BK217, BK222, HB⟩ := n_; (try clear hb); (try clear hb2); (try clear hk); (try clear hi); have hnb534 := N4_.out; have hnc534 := N5_.out; have hnb535 := N8_.out; have hnc535 := N9_.out; have hnb536 := N14_.out; have hnc536 := N15_.out; have hnb537 := N32_.out; have hnc537 := N33_.out; have hcz538_0 : w533.cell? ⟨b200, 0, none⟩ = some (.int .i32 a1_0) := (bC BK200.out 0).trans rfl; have hcz538_1 : w533.cell? ⟨b200, 1, none⟩ = some (.int .i32 a1_1) := (bC BK200.out 1).trans rfl; have hcz538_2 : w533.cell? ⟨b200, 2, none⟩ = some (.int .i32 a1_2) := (bC BK200.out 2).trans rfl; have hcz538_3 : w533.cell? ⟨b200, 3, none⟩ = some (.int .i32 a1_3) := (bC BK200.out 3).trans rfl; have hfz538_0 := bF BK200.out 0; have hfz538_1 := bF BK200.out 1; have hfz538_2 := bF BK200.out 2; have hfz538_3 := bF BK200.out 3; have hnb527x533 := N0_.out; have hnc527x533 := N1_.out; have hnb528x533 := N2_.out; have hnc528x533 := N3_.out; have hnb529x533 := N6_.out; have hnc529x533 := N7_.out; have hnb530x533 := N12_.out; have hnc530x533 := N13_.out; have hnb531x533 := N30_.out; have hnc531x533 := N31_.out; have hcz532_0x533 : w533.cell? ⟨b199, 0, none⟩ = some (.int .i32 a0_0) := (bC BK199.out 0).trans rfl; have hcz532_1x533 : w533.cell? ⟨b199, 1, none⟩ = some (.int .i32 a0_1) := (bC BK199.out 1).trans rfl; have hcz532_2x533 : w533.cell? ⟨b199, 2, none⟩ = some (.int .i32 a0_2) := (bC BK199.out 2).trans rfl; have hcz532_3x533 : w533.cell? ⟨b199, 3, none⟩ = some (.int .i32 a0_3) := (bC BK199.out 3).trans rfl; have hfz532_0x533 := bF BK199.out 0; have hfz532_1x533 := bF BK199.out 1; have hfz532_2x533 := bF BK199.out 2; have hfz532_3x533 := bF BK199.out 3; have hnb542x533 := N35_.out; have hnc542x533 := N34_.out; have hnb543x533 := N37_.out; have hnc543x533 := N36_.out; have hnb544x533 := N39_.out; have hnc544x533 := N38_.out; have hcz545_0x533 : w533.cell? ⟨b222, 0, none⟩ = some (.int .i32 t218) := (bC BK222.out 0).trans rfl; have hcz545_1x533 : w533.cell? ⟨b222, 1, none⟩ = some (.int .i32 t219) := (bC BK222.out 1).trans rfl; have hcz545_2x533 : w533.cell? ⟨b222, 2, none⟩ = some (.int .i32 t220) := (bC BK222.out 2).trans rfl; have hcz545_3x533 : w533.cell? ⟨b222, 3, none⟩ = some (.int .i32 t221) := (bC BK222.out 3).trans rfl; have hfz545_0x533 := bF BK222.out 0; have hfz545_1x533 := bF BK222.out 1; have hfz545_2x533 := bF BK222.out 2; have hfz545_3x533 := bF BK222.out 3; have hnb546x533 := N11_.out; have hnc546x533 := N10_.out; have hnb547x533 := N18_.out; have hnc547x533 := N19_.out; have hcz548_0x533 : w533.cell? ⟨b207, 0, none⟩ = some (.int .i32 t203) := (bC BK207.out 0).trans rfl; have hcz548_1x533 : w533.cell? ⟨b207, 1, none⟩ = some (.int .i32 t204) := (bC BK207.out 1).trans rfl; have hcz548_2x533 : w533.cell? ⟨b207, 2, none⟩ = some (.int .i32 t205) := (bC BK207.out 2).trans rfl; have hcz548_3x533 : w533.cell? ⟨b207, 3, none⟩ = some (.int .i32 t206) := (bC BK207.out 3).trans rfl; have hfz548_0x533 := bF BK207.out 0; have hfz548_1x533 := bF BK207.out 1; have hfz548_2x533 := bF BK207.out 2; have hfz548_3x533 := bF BK207.out 3) | (go_at_call 13; (with_reducible refine (billiardref08_Empty.calls a1_0 a1_1 a1_2 a1_3 true _ A492.out).mono ?_); rintro e w539 ⟨rfl, hb⟩; have n_ := kB7 BK199 BK200 BK201 BK207 BK212 BK217 BK222 HB (by repeat first | exact lR _ _ | apply lN | apply lD | apply lA) hb; clear BK199 BK200 BK201 BK207 BK212 BK217 BK222 HB; obtain ⟨BK199, BK200, BK201, BK207, BK212, BK217, BK222, HB⟩ := n_; (try clear hb); (try clear hb2); (try clear hk); (try clear hi); have hcz540_0 : w539.cell? ⟨b199, 0, none⟩ = some (.int .i32 a0_0) := (bC BK199.out 0).trans rfl; have hcz540_1 : w539.cell? ⟨b199, 1, none⟩ = some (.int .i32 a0_1) := (bC BK199.out 1).trans rfl; have hcz540_2 : w539.cell? ⟨b199, 2, none⟩ = some (.int .i32 a0_2) := (bC BK199.out 2).trans rfl; have hcz540_3 : w539.cell? ⟨b199, 3, none⟩ = some (.int .i32 a0_3) := (bC BK199.out 3).trans rfl; have hfz540_0 := bF BK199.out 0; have hfz540_1 := bF BK199.out 1; have hfz540_2 := bF BK199.out 2; have hfz540_3 := bF BK199.out 3; have hnb527x539 := N0_.out; have hnc527x539 := N1_.out; have hnb528x539 := N2_.out; have hnc528x539 := N3_.out; have hnb529x539 := N6_.out; have hnc529x539 := N7_.out; have hnb530x539 := N12_.out; have hnc530x539 := N13_.out; have hnb531x539 := N30_.out; have hnc531x539 := N31_.out; have hnb534x539 := N4_.out; have hnc534x539 := N5_.out; have hnb535x539 := N8_.out; have hnc535x539 := N9_.out; have hnb536x539 := N14_.out; have hnc536x539 := N15_.out; have hnb537x539 := N32_.out; have hnc537x539 := N33_.out; have hcz538_0x539 : w539.cell? ⟨b200, 0, none⟩ = some (.int .i32 a1_0) := (bC BK200.out 0).trans rfl; have hcz538_1x539 : w539.cell? ⟨b200, 1, none⟩ = some (.int .i32 a1_1) := (bC BK200.out 1).trans rfl; have hcz538_2x539 : w539.cell? ⟨b200, 2, none⟩ = some (.int .i32 a1_2) := (bC BK200.out 2).trans rfl; have hcz538_3x539 : w539.cell? ⟨b200, 3, none⟩ = some (.int .i32 a1_3) := (bC BK200.out 3).trans rfl; have hfz538_0x539 := bF BK200.out 0; have hfz538_1x539 := bF BK200.out 1; have hfz538_2x539 := bF BK200.out 2; have hfz538_3x539 := bF BK200.out 3; have hnb542x539 := N35_.out; have hnc542x539 := N34_.out; have hnb543x539 := N37_.out; have hnc543x539 := N36_.out; have hnb544x539 := N39_.out; have hnc544x539 := N38_.out; have hcz545_0x539 : w539.cell? ⟨b222, 0, none⟩ = some (.int .i32 t218) := (bC BK222.out 0).trans rfl; have hcz545_1x539 : w539.cell? ⟨b222, 1, none⟩ = some (.int .i32 t219) := (bC BK222.out 1).trans rfl; have hcz545_2x539 : w539.cell? ⟨b222, 2, none⟩ = some (.int .i32 t220) := (bC BK222.out 2).trans rfl; have hcz545_3x539 : w539.cell? ⟨b222, 3, none⟩ = some (.int .i32 t221) := (bC BK222.out 3).trans rfl; have hfz545_0x539 := bF BK222.out 0; have hfz545_1x539 := bF BK222.out 1; have hfz545_2x539 := bF BK222.out 2; have hfz545_3x539 := bF BK222.out 3; have hnb546x539 := N11_.out; have hnc546x539 := N10_.out; have hnb547x539 := N18_.out; have hnc547x539 := N19_.out; have hcz548_0x539 : w539.cell? ⟨b207, 0, none⟩ = some (.int .i32 t203) := (bC BK207.out 0).trans rfl; have hcz548_1x539 : w539.cell? ⟨b207, 1, none⟩ = some (.int .i32 t204) := (bC BK207.out 1).trans rfl; have hcz548_2x539 : w539.cell? ⟨b207, 2, none⟩ = some (.int .i32 t205) := (bC BK207.out 2).trans rfl; have hcz548_3x539 : w539.cell? ⟨b207, 3, none⟩ = some (.int .i32 t206) := (bC BK207.out 3).trans rfl; have hfz548_0x539 := bF BK207.out 0; have hfz548_1x539 := bF BK207.out 1; have hfz548_2x539 := bF BK207.out 2; have hfz548_3x539 := bF BK207.out 3) | (go_at_call 13; (with_reducible refine (billiardref08_Empty.calls a0_0 a0_1 a0_2 a0_3 false _ A494.out).mono ?_); rintro e w541 ⟨rfl, hb⟩; have n_ := kB7 BK199 BK200 BK201 BK207 BK212 BK217 BK222 HB (by repeat first | exact lR _ _ | apply lN | apply lD | apply lA) hb; clear BK199 BK200 BK201 BK207 BK212 BK217 BK222 HB; obtain ⟨BK199, BK200, BK201, BK207, BK212, BK217, BK222, HB⟩ := n_; (try clear hb); (try clear hb2); (try clear hk); (try clear hi); have hnb542 := N35_.out; have hnc542 := N34_.out; have hnb543 := N37_.out; have hnc543 := N36_.out; have hnb544 := N39_.out; have hnc544 := N38_.out; have hcz545_0 : w541.cell? ⟨b222, 0, none⟩ = some (.int .i32 t218) := (bC BK222.out 0).trans rfl; have hcz545_1 : w541.cell? ⟨b222, 1, none⟩ = some (.int .i32 t219) := (bC BK222.out 1).trans rfl; have hcz545_2 : w541.cell? ⟨b222, 2, none⟩ = some (.int .i32 t220) := (bC BK222.out 2).trans rfl; have hcz545_3 : w541.cell? ⟨b222, 3, none⟩ = some (.int .i32 t221) := (bC BK222.out 3).trans rfl; have hfz545_0 := bF BK222.out 0; have hfz545_1 := bF BK222.out 1; have hfz545_2 := bF BK222.out 2; have hfz545_3 := bF BK222.out 3; have hnb546 := N11_.out; have hnc546 := N10_.out; have hnb547 := N18_.out; have hnc547 := N19_.out; have hcz548_0 : w541.cell? ⟨b207, 0, none⟩ = some (.int .i32 t203) := (bC BK207.out 0).trans rfl; have hcz548_1 : w541.cell? ⟨b207, 1, none⟩ = some (.int .i32 t204) := (bC BK207.out 1).trans rfl; have hcz548_2 : w541.cell? ⟨b207, 2, none⟩ = some (.int .i32 t205) := (bC BK207.out 2).trans rfl; have hcz548_3 : w541.cell? ⟨b207, 3, none⟩ = some (.int .i32 t206) := (bC BK207.out 3).trans rfl; have hfz548_0 := bF BK207.out 0; have hfz548_1 := bF BK207.out 1; have hfz548_2 := bF BK207.out 2; have hfz548_3 := bF BK207.out 3; have hnb527x541 := N0_.out; have hnc527x541 := N1_.out; have hnb528x541 := N2_.out; have hnc528x541 := N3_.out; have hnb529x541 := N6_.out; have hnc529x541 := N7_.out; have hnb530x541 := N12_.out; have hnc530x541 := N13_.out; have hnb531x541 := N30_.out; have hnc531x541 := N31_.out; have hcz532_0x541 : w541.cell? ⟨b199, 0, none⟩ = some (.int .i32 a0_0) := (bC BK199.out 0).trans rfl; have hcz532_1x541 : w541.cell? ⟨b199, 1, none⟩ = some (.int .i32 a0_1) := (bC BK199.out 1).trans rfl; have hcz532_2x541 : w541.cell? ⟨b199, 2, none⟩ = some (.int .i32 a0_2) := (bC BK199.out 2).trans rfl; have hcz532_3x541 : w541.cell? ⟨b199, 3, none⟩ = some (.int .i32 a0_3) := (bC BK199.out 3).trans rfl; have hfz532_0x541 := bF BK199.out 0; have hfz532_1x541 := bF BK199.out 1; have hfz532_2x541 := bF BK199.out 2; have hfz532_3x541 := bF BK199.out 3; have hnb534x541 := N4_.out; have hnc534x541 := N5_.out; have hnb535x541 := N8_.out; have hnc535x541 := N9_.out; have hnb536x541 := N14_.out; have hnc536x541 := N15_.out; have hnb537x541 := N32_.out; have hnc537x541 := N33_.out; have hcz538_0x541 : w541.cell? ⟨b200, 0, none⟩ = some (.int .i32 a1_0) := (bC BK200.out 0).trans rfl; have hcz538_1x541 : w541.cell? ⟨b200, 1, none⟩ = some (.int .i32 a1_1) := (bC BK200.out 1).trans rfl; have hcz538_2x541 : w541.cell? ⟨b200, 2, none⟩ = some (.int .i32 a1_2) := (bC BK200.out 2).trans rfl; have hcz538_3x541 : w541.cell? ⟨b200, 3, none⟩ = some (.int .i32 a1_3) := (bC BK200.out 3).trans rfl; have hfz538_0x541 := bF BK200.out 0; have hfz538_1x541 := bF BK200.out 1; have hfz538_2x541 := bF BK200.out 2; have hfz538_3x541 := bF BK200.out 3))
                 go_ret
                 exact ⟨by first | rfl | (simp [errW_none, errW_some] <;> rfl) | (simp [*, errW_none, errW_some] <;> rfl), by repeat (first | (with_reducible first | exact HB.out | apply lA | apply lN | apply lD | refine lS ?_ GE199.out | refine lS ?_ GE200.out | refine lS ?_ GE201.out | refine lS ?_ GE207.out | refine lS ?_ GE212.out | refine lS ?_ GE217.out | refine lS ?_ GE222.out) | exact HB.out)⟩
               ·replace c493 := Bool.eq_false_iff.mpr c493
                subst c493
                rw [if_neg (show ¬ (false = true) by decide)] at H
                obtain rfl := Option.some.inj H
                have hnb549 := N21_.out
                have hnc549 := N20_.out
                have hnb550 := N23_.out
                have hnc550 := N22_.out
                have hnb551 := N25_.out
                have hnc551 := N24_.out
                have hnb552 := N27_.out
                have hnc552 := N26_.out
                have hnb553 := N29_.out
                have hnc553 := N28_.out
                have hnb554 := N40_.out
                have hnc554 := N41_.out
                have hcz555_0 : wc.cell? ⟨b217, 0, none⟩ = some (.int .i32 t213) := (bC BK217.out 0).trans rfl
                have hcz555_1 : wc.cell? ⟨b217, 1, none⟩ = some (.int .i32 t214) := (bC BK217.out 1).trans rfl
                have hcz555_2 : wc.cell? ⟨b217, 2, none⟩ = some (.int .i32 t215) := (bC BK217.out 2).trans rfl
                have hcz555_3 : wc.cell? ⟨b217, 3, none⟩ = some (.int .i32 t216) := (bC BK217.out 3).trans rfl
                have hfz555_0 := bF BK217.out 0
                have hfz555_1 := bF BK217.out 1
                have hfz555_2 := bF BK217.out 2
                have hfz555_3 := bF BK217.out 3
                go_wp2_with (first | ((with_reducible refine gate_callee (f := 12) rfl ?_); refine goesL_ (some 75) rfl rfl Tryd.func12 (by kernel_rfl) rfl #[.agg #[.int .i32 t213, .int .i32 t214, .int .i32 t215, .int .i32 t216]] rfl (by (try simp only [List.map_toArray, List.map_cons, List.map_nil]); first | done | rfl | (simp only [List.length_drop, List.length_take]; rfl)) ?_; (with_reducible refine (box_Empty.calls t213 t214 t215 t216 true _ A188.out).mono ?_); rintro e w556 ⟨rfl, hb⟩; refine ⟨_, rfl, ?_⟩; have n_ := kB7 BK199 BK200 BK201 BK207 BK212 BK217 BK222 HB (by repeat first | exact lR _ _ | apply lN | apply lD | apply lA) hb; clear BK199 BK200 BK201 BK207 BK212 BK217 BK222 HB; obtain ⟨BK199, BK200, BK201, BK207, BK212, BK217, BK222, HB⟩ := n_; (try clear hb); (try clear hb2); (try clear hk); (try clear hi); have hnb557 := N0_.out; have hnc557 := N1_.out; have hnb558 := N2_.out; have hnc558 := N3_.out; have hnb559 := N6_.out; have hnc559 := N7_.out; have hnb560 := N12_.out; have hnc560 := N13_.out; have hnb561 := N30_.out; have hnc561 := N31_.out; have hcz562_0 : w556.cell? ⟨b199, 0, none⟩ = some (.int .i32 a0_0) := (bC BK199.out 0).trans rfl; have hcz562_1 : w556.cell? ⟨b199, 1, none⟩ = some (.int .i32 a0_1) := (bC BK199.out 1).trans rfl; have hcz562_2 : w556.cell? ⟨b199, 2, none⟩ = some (.int .i32 a0_2) := (bC BK199.out 2).trans rfl; have hcz562_3 : w556.cell? ⟨b199, 3, none⟩ = some (.int .i32 a0_3) := (bC BK199.out 3).trans rfl; have hfz562_0 := bF BK199.out 0; have hfz562_1 := bF BK199.out 1; have hfz562_2 := bF BK199.out 2; have hfz562_3 := bF BK199.out 3) | (go_at_call 13; (with_reducible refine (billiardref08_Empty.calls a0_0 a0_1 a0_2 a0_3 false _ A190.out).mono ?_); rintro e w563 ⟨rfl, hb⟩; have n_ := kB7 BK199 BK200 BK201 BK207 BK212 BK217 BK222 HB (by repeat first | exact lR _ _ | apply lN | apply lD | apply lA) hb; clear BK199 BK200 BK201 BK207 BK212 BK217 BK222 HB; obtain ⟨BK199, BK200, BK201, BK207, BK212, BK217, BK222, HB⟩ := n_; (try clear hb); (try clear hb2); (try clear hk); (try clear hi); have hnb564 := N4_.out; have hnc564 := N5_.out; have hnb565 := N8_.out; have hnc565 := N9_.out; have hnb566 := N14_.out; have hnc566 := N15_.out; have hnb567 := N32_.out; have hnc567 := N33_.out; have hcz568_0 : w563.cell? ⟨b200, 0, none⟩ = some (.int .i32 a1_0) := (bC BK200.out 0).trans rfl; have hcz568_1 : w563.cell? ⟨b200, 1, none⟩ = some (.int .i32 a1_1) := (bC BK200.out 1).trans rfl; have hcz568_2 : w563.cell? ⟨b200, 2, none⟩ = some (.int .i32 a1_2) := (bC BK200.out 2).trans rfl; have hcz568_3 : w563.cell? ⟨b200, 3, none⟩ = some (.int .i32 a1_3) := (bC BK200.out 3).trans rfl; have hfz568_0 := bF BK200.out 0; have hfz568_1 := bF BK200.out 1; have hfz568_2 := bF BK200.out 2; have hfz568_3 := bF BK200.out 3) | (go_at_call 13; (with_reducible refine (billiardref08_Empty.calls a1_0 a1_1 a1_2 a1_3 false _ A492.out).mono ?_); rintro e w569 ⟨rfl, hb⟩; have n_ := kB7 BK199 BK200 BK201 BK207 BK212 BK217 BK222 HB (by repeat first | exact lR _ _ | apply lN | apply lD | apply lA) hb; clear BK199 BK200 BK201 BK207 BK212 BK217 BK222 HB; obtain ⟨BK199, BK200, BK201, BK207, BK212, BK217, BK222, HB⟩ := n_; (try clear hb); (try clear hb2); (try clear hk); (try clear hi)))
                go_ret
                exact ⟨by first | rfl | (simp [errW_none, errW_some] <;> rfl) | (simp [*, errW_none, errW_some] <;> rfl), by repeat (first | (with_reducible first | exact HB.out | apply lA | apply lN | apply lD | refine lS ?_ GE199.out | refine lS ?_ GE200.out | refine lS ?_ GE201.out | refine lS ?_ GE207.out | refine lS ?_ GE212.out | refine lS ?_ GE217.out | refine lS ?_ GE222.out) | exact HB.out)⟩
             ·replace c189 := Bool.eq_false_iff.mpr c189
              subst c189
              rw [if_neg (show ¬ (false = true) by decide)] at H
              exact absurd ((Option.some.inj H).trans HR.out) (by decide)
            ·replace c187 := Bool.eq_false_iff.mpr c187
             subst c187
             rw [if_neg (show ¬ (false = true) by decide)] at H
             obtain ⟨ji570, hji570⟩ : ∃ j_ : Int, (mn a0_0 a1_0) = j_ := ⟨_, rfl⟩
             replace H : (if t218 = (ji570) then (if t219 = (mn a0_1 a1_1) then (if t220 = (mx a0_2 a1_2) then (some (t221 == (mx a0_3 a1_3))) else (some false)) else (some false)) else (some false)) = some r := by first | (rw [hji570] at H; exact H) | (simp only [hji570] at H ⊢; exact H)
             have hji570_ : (if a1_0 < a0_0 then a1_0 else a0_0) = ji570 := hji570
             by_cases c571 : t218 = (ji570)
             ·rw [if_pos c571] at H
              have c571b0 : (t218 == (ji570)) = true := beq_iff_eq.mpr c571
              have c571b1 : (t218 != (ji570)) = false := bne_eq_false_iff_eq.mpr c571
              clear c571
              obtain ⟨ji572, hji572⟩ : ∃ j_ : Int, (mn a0_1 a1_1) = j_ := ⟨_, rfl⟩
              replace H : (if t219 = (ji572) then (if t220 = (mx a0_2 a1_2) then (some (t221 == (mx a0_3 a1_3))) else (some false)) else (some false)) = some r := by first | (rw [hji572] at H; exact H) | (simp only [hji572] at H ⊢; exact H)
              have hji572_ : (if a1_1 < a0_1 then a1_1 else a0_1) = ji572 := hji572
              by_cases c573 : t219 = (ji572)
              ·rw [if_pos c573] at H
               have c573b0 : (t219 == (ji572)) = true := beq_iff_eq.mpr c573
               have c573b1 : (t219 != (ji572)) = false := bne_eq_false_iff_eq.mpr c573
               clear c573
               obtain ⟨ji574, hji574⟩ : ∃ j_ : Int, (mx a0_2 a1_2) = j_ := ⟨_, rfl⟩
               replace H : (if t220 = (ji574) then (some (t221 == (mx a0_3 a1_3))) else (some false)) = some r := by first | (rw [hji574] at H; exact H) | (simp only [hji574] at H ⊢; exact H)
               have hji574_ : (if a0_2 < a1_2 then a1_2 else a0_2) = ji574 := hji574
               by_cases c575 : t220 = (ji574)
               ·rw [if_pos c575] at H
                have c575b0 : (t220 == (ji574)) = true := beq_iff_eq.mpr c575
                have c575b1 : (t220 != (ji574)) = false := bne_eq_false_iff_eq.mpr c575
                clear c575
                obtain ⟨ji576, hji576⟩ : ∃ j_ : Int, (mx a0_3 a1_3) = j_ := ⟨_, rfl⟩
                replace H : (some (t221 == (ji576))) = some r := by first | (rw [hji576] at H; exact H) | (simp only [hji576] at H ⊢; exact H)
                have hji576_ : (if a0_3 < a1_3 then a1_3 else a0_3) = ji576 := hji576
                obtain rfl := Option.some.inj H
                have hnb577 := N31_.out
                have hnc577 := N30_.out
                have hnb578 := N33_.out
                have hnc578 := N32_.out
                have hnb579 := N35_.out
                have hnc579 := N34_.out
                have hnb580 := N37_.out
                have hnc580 := N36_.out
                have hnb581 := N39_.out
                have hnc581 := N38_.out
                have hnb582 := N41_.out
                have hnc582 := N40_.out
                have hcz583_0 : wc.cell? ⟨b222, 0, none⟩ = some (.int .i32 t218) := (bC BK222.out 0).trans rfl
                have hcz583_1 : wc.cell? ⟨b222, 1, none⟩ = some (.int .i32 t219) := (bC BK222.out 1).trans rfl
                have hcz583_2 : wc.cell? ⟨b222, 2, none⟩ = some (.int .i32 t220) := (bC BK222.out 2).trans rfl
                have hcz583_3 : wc.cell? ⟨b222, 3, none⟩ = some (.int .i32 t221) := (bC BK222.out 3).trans rfl
                have hfz583_0 := bF BK222.out 0
                have hfz583_1 := bF BK222.out 1
                have hfz583_2 := bF BK222.out 2
                have hfz583_3 := bF BK222.out 3
                have hnb584 := N0_.out
                have hnc584 := N1_.out
                have hnb585 := N2_.out
                have hnc585 := N3_.out
                have hnb586 := N6_.out
                have hnc586 := N7_.out
                have hnb587 := N12_.out
                have hnc587 := N13_.out
                have hnb588 := N20_.out
                have hnc588 := N21_.out
                have hcz589_0 : wc.cell? ⟨b199, 0, none⟩ = some (.int .i32 a0_0) := (bC BK199.out 0).trans rfl
                have hcz589_1 : wc.cell? ⟨b199, 1, none⟩ = some (.int .i32 a0_1) := (bC BK199.out 1).trans rfl
                have hcz589_2 : wc.cell? ⟨b199, 2, none⟩ = some (.int .i32 a0_2) := (bC BK199.out 2).trans rfl
                have hcz589_3 : wc.cell? ⟨b199, 3, none⟩ = some (.int .i32 a0_3) := (bC BK199.out 3).trans rfl
                have hfz589_0 := bF BK199.out 0
                have hfz589_1 := bF BK199.out 1
                have hfz589_2 := bF BK199.out 2
                have hfz589_3 := bF BK199.out 3
                have hnb590 := N4_.out
                have hnc590 := N5_.out
                have hnb591 := N8_.out
                have hnc591 := N9_.out
                have hnb592 := N14_.out
                have hnc592 := N15_.out
                have hnb593 := N22_.out
                have hnc593 := N23_.out
                have hcz594_0 : wc.cell? ⟨b200, 0, none⟩ = some (.int .i32 a1_0) := (bC BK200.out 0).trans rfl
                have hcz594_1 : wc.cell? ⟨b200, 1, none⟩ = some (.int .i32 a1_1) := (bC BK200.out 1).trans rfl
                have hcz594_2 : wc.cell? ⟨b200, 2, none⟩ = some (.int .i32 a1_2) := (bC BK200.out 2).trans rfl
                have hcz594_3 : wc.cell? ⟨b200, 3, none⟩ = some (.int .i32 a1_3) := (bC BK200.out 3).trans rfl
                have hfz594_0 := bF BK200.out 0
                have hfz594_1 := bF BK200.out 1
                have hfz594_2 := bF BK200.out 2
                have hfz594_3 := bF BK200.out 3
                go_wp2
                go_ret
                exact ⟨by first | rfl | (simp [errW_none, errW_some] <;> rfl) | (simp only [← hji570, ← hji572, ← hji574, ← hji576]; first | rfl | (simp [errW_none, errW_some] <;> rfl)) | (simp [*, errW_none, errW_some] <;> rfl), by repeat (first | (with_reducible first | exact HB.out | apply lA | apply lN | apply lD | refine lS ?_ GE199.out | refine lS ?_ GE200.out | refine lS ?_ GE201.out | refine lS ?_ GE207.out | refine lS ?_ GE212.out | refine lS ?_ GE217.out | refine lS ?_ GE222.out) | exact HB.out)⟩
               ·rw [if_neg c575] at H
                have c575b0 : (t220 == (ji574)) = false := beq_eq_false_iff_ne.mpr c575
                have c575b1 : (t220 != (ji574)) = true := bne_iff_ne.mpr c575
                exact absurd ((Option.some.inj H).trans HR.out) (by decide)
              ·rw [if_neg c573] at H
               have c573b0 : (t219 == (ji572)) = false := beq_eq_false_iff_ne.mpr c573
               have c573b1 : (t219 != (ji572)) = true := bne_iff_ne.mpr c573
               exact absurd ((Option.some.inj H).trans HR.out) (by decide)
             ·rw [if_neg c571] at H
              have c571b0 : (t218 == (ji570)) = false := beq_eq_false_iff_ne.mpr c571
              have c571b1 : (t218 != (ji570)) = true := bne_iff_ne.mpr c571
              exact absurd ((Option.some.inj H).trans HR.out) (by decide)
 ·replace c5 := Bool.eq_false_iff.mpr c5
  subst c5
  exact absurd (billiardlaw08_awake.only A4.out) (by decide)

/-- THE ONE PURE STATEMENT of billiardlaw08_BoxMeets: yours. -/
def billiardlaw08_BoxMeets.Pure : Prop := ∀ (a0_0 : Int) (a0_1 : Int) (a0_2 : Int) (a0_3 : Int) (a1_0 : Int) (a1_1 : Int) (a1_2 : Int) (a1_3 : Int) (a2_0 : Int) (a2_1 : Int), (Lit.int .i32 a0_0).wf = true → (Lit.int .i32 a0_1).wf = true → (Lit.int .i32 a0_2).wf = true → (Lit.int .i32 a0_3).wf = true → (Lit.int .i32 a1_0).wf = true → (Lit.int .i32 a1_1).wf = true → (Lit.int .i32 a1_2).wf = true → (Lit.int .i32 a1_3).wf = true → (Lit.int .i32 a2_0).wf = true → (Lit.int .i32 a2_1).wf = true → ∃ k, billiardlaw08_BoxMeets.f k a0_0 a0_1 a0_2 a0_3 a1_0 a1_1 a1_2 a1_3 a2_0 a2_1 = some true
theorem billiardlaw08_BoxMeets.walk (P : billiardlaw08_BoxMeets.Pure) (a0_0 : Int) (a0_1 : Int) (a0_2 : Int) (a0_3 : Int) (a1_0 : Int) (a1_1 : Int) (a1_2 : Int) (a1_3 : Int) (a2_0 : Int) (a2_1 : Int) (w : World) (w0_0 : (Lit.int .i32 a0_0).wf = true) (w0_1 : (Lit.int .i32 a0_1).wf = true) (w0_2 : (Lit.int .i32 a0_2).wf = true) (w0_3 : (Lit.int .i32 a0_3).wf = true) (w1_0 : (Lit.int .i32 a1_0).wf = true) (w1_1 : (Lit.int .i32 a1_1).wf = true) (w1_2 : (Lit.int .i32 a1_2).wf = true) (w1_3 : (Lit.int .i32 a1_3).wf = true) (w2_0 : (Lit.int .i32 a2_0).wf = true) (w2_1 : (Lit.int .i32 a2_1).wf = true) (HGN0 : GlobN w) :
  Calls Tryd.prog 4 #[.agg #[.int .i32 a0_0, .int .i32 a0_1, .int .i32 a0_2, .int .i32 a0_3], .agg #[.int .i32 a1_0, .int .i32 a1_1, .int .i32 a1_2, .int .i32 a1_3], .agg #[.int .i32 a2_0, .int .i32 a2_1]] w fun e w' => e = .returned (.bool true) ∧ Below w.heap.size w w' := by
 obtain ⟨k, h⟩ := P a0_0 a0_1 a0_2 a0_3 a1_0 a1_1 a1_2 a1_3 a2_0 a2_1 w0_0 w0_1 w0_2 w0_3 w1_0 w1_1 w1_2 w1_3 w2_0 w2_1
 refine (billiardlaw08_BoxMeets.calls k a0_0 a0_1 a0_2 a0_3 a1_0 a1_1 a1_2 a1_3 a2_0 a2_1 true w h rfl HGN0).mono ?_
 rintro e w' ⟨rfl, hd⟩
 exact ⟨rfl, hd⟩

end Go.Proofs.YtniiffbcdjoelaaDoor.Q
