-- PRINTED by print.py (a twelfth state) out of the translation. Not trusted: Lean checks it.
import Derived.Test.YtahbfafnodeimaaQ0
import Derived.Test.YtahbfafnodeimaaQE0
import Derived.Test.YtahbfafnodeimaaQE1
import Derived.Test.YtahbfafnodeimaaQbilliardlaw14
import Derived.Test.YtahbfafnodeimaaQbilliardref14
import Derived.Test.YtahbfafnodeimaaQcontacty1
import Derived.Test.YtahbfafnodeimaaMspec
namespace Go.Proofs.Ytahbfafnodeimaa.Q
open Go.RowKit Go.Proofs.YtahbfafnodeimaaW.PrintWords Go.Proofs.YtahbfafnodeimaaW.PrintLast Go.Proofs.YtahbfafnodeimaaW.PrintMore
open Go.Proofs.YtahbfafnodeimaaW.PrintWords renaming blk_drewN → bN, blk_drew → bD, blk_alloc → bA, blk_below → bB, blk_cell → bC, blk_frozen → bF, blk_far → bR, blk_lt → bL, blk_put → bP, cell_far → cF, below_alloc → lA, pw_below_drewN → lN, below_drew1 → lD, below_set → lS, below_step → lT, below_size → lZ, Aside0.mk → aM
open List renaming setIfInBounds_toArray → sA, set_cons_zero → sB, set_cons_succ → sC
open Bool renaming true → T, false → F
attribute [local go_sem] max2_int min2_int max_two min_two max_three min_three max_four min_four   -- for this text's walks alone
set_option linter.unusedVariables false
set_option linter.unusedSimpArgs false

attribute [local go_sem high] eqA24 eqA32
/-! ### billiardlaw14_ContactSymmetric: function 5 -/
-- IMPORT Derived.Test.YtahbfafnodeimaaMstore
mutual
def billiardlaw14_ContactSymmetric.j0 : Nat → Bool → Int → Int → Int → Int → Int → Int → Int → Int → Int → Int → Int → Int → Int → Int → Int → Int → Int → Int → Int → Int → Option (Bool)
 | 0, _, _, _, _, _, _, _, _, _, _, _, _, _, _, _, _, _, _, _, _, _ => none
 | k + 1, x20, x453000, x453001, x453002, x453003, x453004, x453005, x453006, x453007, x453008, x453009, x454000, x454001, x454002, x454003, x454004, x454005, x454006, x454007, x454008, x454009 => if x20 = true then ((billiardlaw14_awake.f k).bind fun t456 => (some t456)) else ((contact_Of.f k x453000 x453001 x453002 x453003 x453004 x453005 x453006 x453007 x453008 x453009 x454000 x454001 x454002 x454003 x454004 x454005 x454006 x454007 x454008 x454009).bind fun bt457 => ((contact_Of.f k x454000 x454001 x454002 x454003 x454004 x454005 x454006 x454007 x454008 x454009 x453000 x453001 x453002 x453003 x453004 x453005 x453006 x453007 x453008 x453009).bind fun bt464 => (if ((!(bt457.1 == bt464.1) || (!(bt457.2.1 == bt464.2.1))) || ((!(bt457.2.2.1 == bt464.2.2.1) || (!(bt457.2.2.2.1 == bt464.2.2.2.1))) || (!(bt457.2.2.2.2.1 == bt464.2.2.2.2.1)))) = true then (billiardlaw14_ContactSymmetric.j1 k bt457.2.2.2.2.2 true x453000 x453001 x453002 x453003 x453004 x453005 x453006 x453007 x453008 x453009 x454000 x454001 x454002 x454003 x454004 x454005 x454006 x454007 x454008 x454009 bt457.1 bt457.2.1 bt457.2.2.1 bt457.2.2.2.1 bt457.2.2.2.2.1) else (if (bt457.2.2.2.2.2 != bt464.2.2.2.2.2) = true then (billiardlaw14_ContactSymmetric.j1 k bt457.2.2.2.2.2 true x453000 x453001 x453002 x453003 x453004 x453005 x453006 x453007 x453008 x453009 x454000 x454001 x454002 x454003 x454004 x454005 x454006 x454007 x454008 x454009 bt457.1 bt457.2.1 bt457.2.2.1 bt457.2.2.2.1 bt457.2.2.2.2.1) else ((contact_Gap.f k x453000 x453001 x453002 x453003 x453004 x453005 x453006 x453007 x453008 x453009 x454000 x454001 x454002 x454003 x454004 x454005 x454006 x454007 x454008 x454009).bind fun t471 => ((contact_Gap.f k x454000 x454001 x454002 x454003 x454004 x454005 x454006 x454007 x454008 x454009 x453000 x453001 x453002 x453003 x453004 x453005 x453006 x453007 x453008 x453009).bind fun t472 => (billiardlaw14_ContactSymmetric.j1 k bt457.2.2.2.2.2 (t471 != t472) x453000 x453001 x453002 x453003 x453004 x453005 x453006 x453007 x453008 x453009 x454000 x454001 x454002 x454003 x454004 x454005 x454006 x454007 x454008 x454009 bt457.1 bt457.2.1 bt457.2.2.1 bt457.2.2.2.1 bt457.2.2.2.2.1)))))))
def billiardlaw14_ContactSymmetric.j1 : Nat → Bool → Bool → Int → Int → Int → Int → Int → Int → Int → Int → Int → Int → Int → Int → Int → Int → Int → Int → Int → Int → Int → Int → Int → Int → Int → Int → Int → Option (Bool)
 | 0, _, _, _, _, _, _, _, _, _, _, _, _, _, _, _, _, _, _, _, _, _, _, _, _, _, _, _ => none
 | k + 1, x6, x50, x453000, x453001, x453002, x453003, x453004, x453005, x453006, x453007, x453008, x453009, x454000, x454001, x454002, x454003, x454004, x454005, x454006, x454007, x454008, x454009, x464000, x464001, x464002, x464003, x464004 => if x50 = true then (some false) else (if (!(x453002 == 0) || (!(x453003 == 0))) = true then (billiardlaw14_ContactSymmetric.j2 k true x453000 x453001 x453002 x453003 x453004 x453005 x453006 x453007 x453008 x453009 x454000 x454001 x454002 x454003 x454004 x454005 x454006 x454007 x454008 x454009 x464000 x464001 x464002 x464003 x464004) else (if (!(x454002 == 0) || (!(x454003 == 0))) = true then (billiardlaw14_ContactSymmetric.j2 k true x453000 x453001 x453002 x453003 x453004 x453005 x453006 x453007 x453008 x453009 x454000 x454001 x454002 x454003 x454004 x454005 x454006 x454007 x454008 x454009 x464000 x464001 x464002 x464003 x464004) else (if x6 = true then (billiardlaw14_ContactSymmetric.j2 k (x453006 == x454006 && (x453007 == x454007)) x453000 x453001 x453002 x453003 x453004 x453005 x453006 x453007 x453008 x453009 x454000 x454001 x454002 x454003 x454004 x454005 x454006 x454007 x454008 x454009 x464000 x464001 x464002 x464003 x464004) else (billiardlaw14_ContactSymmetric.j2 k true x453000 x453001 x453002 x453003 x453004 x453005 x453006 x453007 x453008 x453009 x454000 x454001 x454002 x454003 x454004 x454005 x454006 x454007 x454008 x454009 x464000 x464001 x464002 x464003 x464004))))
def billiardlaw14_ContactSymmetric.j2 : Nat → Bool → Int → Int → Int → Int → Int → Int → Int → Int → Int → Int → Int → Int → Int → Int → Int → Int → Int → Int → Int → Int → Int → Int → Int → Int → Int → Option (Bool)
 | 0, _, _, _, _, _, _, _, _, _, _, _, _, _, _, _, _, _, _, _, _, _, _, _, _, _, _ => none
 | k + 1, x71, x453000, x453001, x453002, x453003, x453004, x453005, x453006, x453007, x453008, x453009, x454000, x454001, x454002, x454003, x454004, x454005, x454006, x454007, x454008, x454009, x464000, x464001, x464002, x464003, x464004 => if x71 = true then (some true) else ((contact_Of.f k x454000 x453001 x453002 x453003 x453004 x453005 x453006 x453007 x453008 x453009 x453000 x454001 x454002 x454003 x454004 x454005 x454006 x454007 x454008 x454009).bind fun bt475 => (if bt475.2.2.2.2.2 = true then (if bt475.2.2.2.2.1 = x464004 then (if (wrap32 (bt475.2.2.1 + x464002)) ≥ (-1) then (if (wrap32 (bt475.2.2.1 + x464002)) ≤ 0 then (if (wrap32 (bt475.2.2.2.1 + x464003)) ≥ (-1) then (some (decide ((wrap32 (bt475.2.2.2.1 + x464003)) ≤ 0))) else (some false)) else (some false)) else (some false)) else (some false)) else (some false)))
end
def billiardlaw14_ContactSymmetric.f (k : Nat) (a0_0 : Int) (a0_1 : Int) (a0_2 : Int) (a0_3 : Int) (a0_4 : Int) (a0_5 : Int) (a0_6 : Int) (a0_7 : Int) (a0_8 : Int) (a0_9 : Int) (a1_0 : Int) (a1_1 : Int) (a1_2 : Int) (a1_3 : Int) (a1_4 : Int) (a1_5 : Int) (a1_6 : Int) (a1_7 : Int) (a1_8 : Int) (a1_9 : Int) : Option (Bool) := (billiardlaw14_awake.f k).bind fun t454 => (if t454 = true then ((billiardref14_Right.f k a0_0 a0_1 a0_2 a0_3 a0_4 a0_5 a0_6 a0_7 a0_8 a0_9 a1_0 a1_1 a1_2 a1_3 a1_4 a1_5 a1_6 a1_7 a1_8 a1_9).bind fun t455 => (billiardlaw14_ContactSymmetric.j0 k (!t455) a0_0 a0_1 a0_2 a0_3 a0_4 a0_5 a0_6 a0_7 a0_8 a0_9 a1_0 a1_1 a1_2 a1_3 a1_4 a1_5 a1_6 a1_7 a1_8 a1_9)) else (billiardlaw14_ContactSymmetric.j0 k true a0_0 a0_1 a0_2 a0_3 a0_4 a0_5 a0_6 a0_7 a0_8 a0_9 a1_0 a1_1 a1_2 a1_3 a1_4 a1_5 a1_6 a1_7 a1_8 a1_9))
theorem billiardlaw14_ContactSymmetric.mono_l : ∀ k, (∀ y0 y1 y2 y3 y4 y5 y6 y7 y8 y9 y10 y11 y12 y13 y14 y15 y16 y17 y18 y19 y20, LeO (billiardlaw14_ContactSymmetric.j0 k y0 y1 y2 y3 y4 y5 y6 y7 y8 y9 y10 y11 y12 y13 y14 y15 y16 y17 y18 y19 y20) (billiardlaw14_ContactSymmetric.j0 (k + 1) y0 y1 y2 y3 y4 y5 y6 y7 y8 y9 y10 y11 y12 y13 y14 y15 y16 y17 y18 y19 y20)) ∧ (∀ y0 y1 y2 y3 y4 y5 y6 y7 y8 y9 y10 y11 y12 y13 y14 y15 y16 y17 y18 y19 y20 y21 y22 y23 y24 y25 y26, LeO (billiardlaw14_ContactSymmetric.j1 k y0 y1 y2 y3 y4 y5 y6 y7 y8 y9 y10 y11 y12 y13 y14 y15 y16 y17 y18 y19 y20 y21 y22 y23 y24 y25 y26) (billiardlaw14_ContactSymmetric.j1 (k + 1) y0 y1 y2 y3 y4 y5 y6 y7 y8 y9 y10 y11 y12 y13 y14 y15 y16 y17 y18 y19 y20 y21 y22 y23 y24 y25 y26)) ∧ (∀ y0 y1 y2 y3 y4 y5 y6 y7 y8 y9 y10 y11 y12 y13 y14 y15 y16 y17 y18 y19 y20 y21 y22 y23 y24 y25, LeO (billiardlaw14_ContactSymmetric.j2 k y0 y1 y2 y3 y4 y5 y6 y7 y8 y9 y10 y11 y12 y13 y14 y15 y16 y17 y18 y19 y20 y21 y22 y23 y24 y25) (billiardlaw14_ContactSymmetric.j2 (k + 1) y0 y1 y2 y3 y4 y5 y6 y7 y8 y9 y10 y11 y12 y13 y14 y15 y16 y17 y18 y19 y20 y21 y22 y23 y24 y25))
 | 0 => ⟨fun _ _ _ _ _ _ _ _ _ _ _ _ _ _ _ _ _ _ _ _ _ r h => by simp [billiardlaw14_ContactSymmetric.j0] at h, fun _ _ _ _ _ _ _ _ _ _ _ _ _ _ _ _ _ _ _ _ _ _ _ _ _ _ _ r h => by simp [billiardlaw14_ContactSymmetric.j1] at h, fun _ _ _ _ _ _ _ _ _ _ _ _ _ _ _ _ _ _ _ _ _ _ _ _ _ _ r h => by simp [billiardlaw14_ContactSymmetric.j2] at h⟩
 | k + 1 => by
  obtain ⟨ih0, ih1, ih2⟩ := billiardlaw14_ContactSymmetric.mono_l k
  refine ⟨?_, ?_, ?_⟩
  ·intro y0 y1 y2 y3 y4 y5 y6 y7 y8 y9 y10 y11 y12 y13 y14 y15 y16 y17 y18 y19 y20
   unfold billiardlaw14_ContactSymmetric.j0
   repeat' first
   | (with_reducible exact ih0 _ _ _ _ _ _ _ _ _ _ _ _ _ _ _ _ _ _ _ _ _)
   | (with_reducible exact ih1 _ _ _ _ _ _ _ _ _ _ _ _ _ _ _ _ _ _ _ _ _ _ _ _ _ _ _)
   | (with_reducible exact ih2 _ _ _ _ _ _ _ _ _ _ _ _ _ _ _ _ _ _ _ _ _ _ _ _ _ _)
   | (with_reducible exact billiardlaw14_awake.mono _)
   | (with_reducible exact billiardref14_Right.mono _ _ _ _ _ _ _ _ _ _ _ _ _ _ _ _ _ _ _ _ _)
   | (with_reducible exact contact_Gap.mono _ _ _ _ _ _ _ _ _ _ _ _ _ _ _ _ _ _ _ _ _)
   | (with_reducible exact contact_Of.mono _ _ _ _ _ _ _ _ _ _ _ _ _ _ _ _ _ _ _ _ _)
   | (with_reducible exact LeO.refl _)
   | (with_reducible exact LeO.none _)
   | (with_reducible refine LeO.ite ?_ ?_)
   | (with_reducible refine LeO.bind ?_ (fun _ => ?_))
   | exact ih0 _ _ _ _ _ _ _ _ _ _ _ _ _ _ _ _ _ _ _ _ _
   | exact ih1 _ _ _ _ _ _ _ _ _ _ _ _ _ _ _ _ _ _ _ _ _ _ _ _ _ _ _
   | exact ih2 _ _ _ _ _ _ _ _ _ _ _ _ _ _ _ _ _ _ _ _ _ _ _ _ _ _
   | exact billiardlaw14_awake.mono _
   | exact billiardref14_Right.mono _ _ _ _ _ _ _ _ _ _ _ _ _ _ _ _ _ _ _ _ _
   | exact contact_Gap.mono _ _ _ _ _ _ _ _ _ _ _ _ _ _ _ _ _ _ _ _ _
   | exact contact_Of.mono _ _ _ _ _ _ _ _ _ _ _ _ _ _ _ _ _ _ _ _ _
   | exact LeO.none _
   | refine LeO.ite ?_ ?_
   | refine LeO.bind ?_ (fun _ => ?_)
  ·intro y0 y1 y2 y3 y4 y5 y6 y7 y8 y9 y10 y11 y12 y13 y14 y15 y16 y17 y18 y19 y20 y21 y22 y23 y24 y25 y26
   unfold billiardlaw14_ContactSymmetric.j1
   repeat' first
   | (with_reducible exact ih0 _ _ _ _ _ _ _ _ _ _ _ _ _ _ _ _ _ _ _ _ _)
   | (with_reducible exact ih1 _ _ _ _ _ _ _ _ _ _ _ _ _ _ _ _ _ _ _ _ _ _ _ _ _ _ _)
   | (with_reducible exact ih2 _ _ _ _ _ _ _ _ _ _ _ _ _ _ _ _ _ _ _ _ _ _ _ _ _ _)
   | (with_reducible exact billiardlaw14_awake.mono _)
   | (with_reducible exact billiardref14_Right.mono _ _ _ _ _ _ _ _ _ _ _ _ _ _ _ _ _ _ _ _ _)
   | (with_reducible exact contact_Gap.mono _ _ _ _ _ _ _ _ _ _ _ _ _ _ _ _ _ _ _ _ _)
   | (with_reducible exact contact_Of.mono _ _ _ _ _ _ _ _ _ _ _ _ _ _ _ _ _ _ _ _ _)
   | (with_reducible exact LeO.refl _)
   | (with_reducible exact LeO.none _)
   | (with_reducible refine LeO.ite ?_ ?_)
   | (with_reducible refine LeO.bind ?_ (fun _ => ?_))
   | exact ih0 _ _ _ _ _ _ _ _ _ _ _ _ _ _ _ _ _ _ _ _ _
   | exact ih1 _ _ _ _ _ _ _ _ _ _ _ _ _ _ _ _ _ _ _ _ _ _ _ _ _ _ _
   | exact ih2 _ _ _ _ _ _ _ _ _ _ _ _ _ _ _ _ _ _ _ _ _ _ _ _ _ _
   | exact billiardlaw14_awake.mono _
   | exact billiardref14_Right.mono _ _ _ _ _ _ _ _ _ _ _ _ _ _ _ _ _ _ _ _ _
   | exact contact_Gap.mono _ _ _ _ _ _ _ _ _ _ _ _ _ _ _ _ _ _ _ _ _
   | exact contact_Of.mono _ _ _ _ _ _ _ _ _ _ _ _ _ _ _ _ _ _ _ _ _
   | exact LeO.none _
   | refine LeO.ite ?_ ?_
   | refine LeO.bind ?_ (fun _ => ?_)
  ·intro y0 y1 y2 y3 y4 y5 y6 y7 y8 y9 y10 y11 y12 y13 y14 y15 y16 y17 y18 y19 y20 y21 y22 y23 y24 y25
   unfold billiardlaw14_ContactSymmetric.j2
   repeat' first
   | (with_reducible exact ih0 _ _ _ _ _ _ _ _ _ _ _ _ _ _ _ _ _ _ _ _ _)
   | (with_reducible exact ih1 _ _ _ _ _ _ _ _ _ _ _ _ _ _ _ _ _ _ _ _ _ _ _ _ _ _ _)
   | (with_reducible exact ih2 _ _ _ _ _ _ _ _ _ _ _ _ _ _ _ _ _ _ _ _ _ _ _ _ _ _)
   | (with_reducible exact billiardlaw14_awake.mono _)
   | (with_reducible exact billiardref14_Right.mono _ _ _ _ _ _ _ _ _ _ _ _ _ _ _ _ _ _ _ _ _)
   | (with_reducible exact contact_Gap.mono _ _ _ _ _ _ _ _ _ _ _ _ _ _ _ _ _ _ _ _ _)
   | (with_reducible exact contact_Of.mono _ _ _ _ _ _ _ _ _ _ _ _ _ _ _ _ _ _ _ _ _)
   | (with_reducible exact LeO.refl _)
   | (with_reducible exact LeO.none _)
   | (with_reducible refine LeO.ite ?_ ?_)
   | (with_reducible refine LeO.bind ?_ (fun _ => ?_))
   | exact ih0 _ _ _ _ _ _ _ _ _ _ _ _ _ _ _ _ _ _ _ _ _
   | exact ih1 _ _ _ _ _ _ _ _ _ _ _ _ _ _ _ _ _ _ _ _ _ _ _ _ _ _ _
   | exact ih2 _ _ _ _ _ _ _ _ _ _ _ _ _ _ _ _ _ _ _ _ _ _ _ _ _ _
   | exact billiardlaw14_awake.mono _
   | exact billiardref14_Right.mono _ _ _ _ _ _ _ _ _ _ _ _ _ _ _ _ _ _ _ _ _
   | exact contact_Gap.mono _ _ _ _ _ _ _ _ _ _ _ _ _ _ _ _ _ _ _ _ _
   | exact contact_Of.mono _ _ _ _ _ _ _ _ _ _ _ _ _ _ _ _ _ _ _ _ _
   | exact LeO.none _
   | refine LeO.ite ?_ ?_
   | refine LeO.bind ?_ (fun _ => ?_)
theorem billiardlaw14_ContactSymmetric.mono : ∀ a0 a1 a2 a3 a4 a5 a6 a7 a8 a9 a10 a11 a12 a13 a14 a15 a16 a17 a18 a19 k, LeO (billiardlaw14_ContactSymmetric.f k a0 a1 a2 a3 a4 a5 a6 a7 a8 a9 a10 a11 a12 a13 a14 a15 a16 a17 a18 a19) (billiardlaw14_ContactSymmetric.f (k + 1) a0 a1 a2 a3 a4 a5 a6 a7 a8 a9 a10 a11 a12 a13 a14 a15 a16 a17 a18 a19) := by
 intro a0 a1 a2 a3 a4 a5 a6 a7 a8 a9 a10 a11 a12 a13 a14 a15 a16 a17 a18 a19 k
 obtain ⟨ih0, ih1, ih2⟩ := billiardlaw14_ContactSymmetric.mono_l k
 unfold billiardlaw14_ContactSymmetric.f
 repeat' first
   | (with_reducible exact ih0 _ _ _ _ _ _ _ _ _ _ _ _ _ _ _ _ _ _ _ _ _)
   | (with_reducible exact ih1 _ _ _ _ _ _ _ _ _ _ _ _ _ _ _ _ _ _ _ _ _ _ _ _ _ _ _)
   | (with_reducible exact ih2 _ _ _ _ _ _ _ _ _ _ _ _ _ _ _ _ _ _ _ _ _ _ _ _ _ _)
   | (with_reducible exact billiardlaw14_awake.mono _)
   | (with_reducible exact billiardref14_Right.mono _ _ _ _ _ _ _ _ _ _ _ _ _ _ _ _ _ _ _ _ _)
   | (with_reducible exact contact_Gap.mono _ _ _ _ _ _ _ _ _ _ _ _ _ _ _ _ _ _ _ _ _)
   | (with_reducible exact contact_Of.mono _ _ _ _ _ _ _ _ _ _ _ _ _ _ _ _ _ _ _ _ _)
   | (with_reducible exact LeO.refl _)
   | (with_reducible exact LeO.none _)
   | (with_reducible refine LeO.ite ?_ ?_)
   | (with_reducible refine LeO.bind ?_ (fun _ => ?_))
   | exact ih0 _ _ _ _ _ _ _ _ _ _ _ _ _ _ _ _ _ _ _ _ _
   | exact ih1 _ _ _ _ _ _ _ _ _ _ _ _ _ _ _ _ _ _ _ _ _ _ _ _ _ _ _
   | exact ih2 _ _ _ _ _ _ _ _ _ _ _ _ _ _ _ _ _ _ _ _ _ _ _ _ _ _
   | exact billiardlaw14_awake.mono _
   | exact billiardref14_Right.mono _ _ _ _ _ _ _ _ _ _ _ _ _ _ _ _ _ _ _ _ _
   | exact contact_Gap.mono _ _ _ _ _ _ _ _ _ _ _ _ _ _ _ _ _ _ _ _ _
   | exact contact_Of.mono _ _ _ _ _ _ _ _ _ _ _ _ _ _ _ _ _ _ _ _ _
   | exact LeO.none _
   | refine LeO.ite ?_ ?_
   | refine LeO.bind ?_ (fun _ => ?_)
def billiardlaw14_ContactSymmetric.T5 : Bool × List (List Nat × List Nat) := (true, [([], []), ([], []), ([0, 1], [0, 1]), ([2], [2]), ([3], [3]), ([3], [3]), ([4, 5, 3], [3, 4, 5]), ([3, 6], [3, 6]), ([7, 3], [7]), ([8], [8]), ([8], [8]), ([9, 10, 8, 8], [8, 9, 10]), ([8], [8]), ([8], [8]), ([12, 13, 11, 8], [8, 12, 13]), ([11, 14, 8], [8, 11, 14]), ([8, 15], [8, 15])])
def billiardlaw14_ContactSymmetric.B5 : List Nat := [0, 0, 3, 7, 15, 15, 63, 127, 255, 511, 511, 2047, 511, 511, 16383, 32767, 65535]
theorem billiardlaw14_ContactSymmetric.tab5 : rtab .any (opsOf Try.f5 5) = billiardlaw14_ContactSymmetric.T5 := by kernel_rfl
theorem billiardlaw14_ContactSymmetric.bits5 : waitsOk billiardlaw14_ContactSymmetric.T5.2 billiardlaw14_ContactSymmetric.B5 = true := by kernel_rfl
def billiardlaw14_ContactSymmetric.T10 : Bool × List (List Nat × List Nat) := (true, [([], []), ([0], [0]), ([], []), ([2], [2]), ([0, 1], []), ([4, 1, 0, 1], [1, 4]), ([0, 1, 2, 3, 4, 5], []), ([6, 3, 5, 0, 1, 2, 3, 4, 5], [3, 6])])
def billiardlaw14_ContactSymmetric.B10 : List Nat := [0, 1, 0, 4, 3, 19, 63, 127]
theorem billiardlaw14_ContactSymmetric.tab10 : rtab .any (opsOf Try.f5 10) = billiardlaw14_ContactSymmetric.T10 := by kernel_rfl
theorem billiardlaw14_ContactSymmetric.bits10 : waitsOk billiardlaw14_ContactSymmetric.T10.2 billiardlaw14_ContactSymmetric.B10 = true := by kernel_rfl
set_option maxHeartbeats 8000000 in
set_option maxRecDepth 100000 in
theorem billiardlaw14_ContactSymmetric.calls (k : Nat) (a0_0 : Int) (a0_1 : Int) (a0_2 : Int) (a0_3 : Int) (a0_4 : Int) (a0_5 : Int) (a0_6 : Int) (a0_7 : Int) (a0_8 : Int) (a0_9 : Int) (a1_0 : Int) (a1_1 : Int) (a1_2 : Int) (a1_3 : Int) (a1_4 : Int) (a1_5 : Int) (a1_6 : Int) (a1_7 : Int) (a1_8 : Int) (a1_9 : Int) (r : Bool) (w : World) (h : billiardlaw14_ContactSymmetric.f k a0_0 a0_1 a0_2 a0_3 a0_4 a0_5 a0_6 a0_7 a0_8 a0_9 a1_0 a1_1 a1_2 a1_3 a1_4 a1_5 a1_6 a1_7 a1_8 a1_9 = some r) (hr : r = true) :
  Calls Try.prog 5 #[.agg #[.int .u32 a0_0, .int .i32 a0_1, .int .i32 a0_2, .int .i32 a0_3, .int .i32 a0_4, .int .i32 a0_5, .int .i32 a0_6, .int .i32 a0_7, .int .i32 a0_8, .int .i32 a0_9], .agg #[.int .u32 a1_0, .int .i32 a1_1, .int .i32 a1_2, .int .i32 a1_3, .int .i32 a1_4, .int .i32 a1_5, .int .i32 a1_6, .int .i32 a1_7, .int .i32 a1_8, .int .i32 a1_9]] w fun e w' => e = .returned (.bool r) ∧ Below w.heap.size w w' := by
 have HR := aM hr
 clear hr
 have hu26 := Try.underlying26
 have hu32 := Try.underlying32
 have hu24 := Try.underlying24
 have HB := aM (Below.refl w.heap.size w)
 have H : ((billiardlaw14_awake.f k).bind fun t454 => (if t454 = true then ((billiardref14_Right.f k a0_0 a0_1 a0_2 a0_3 a0_4 a0_5 a0_6 a0_7 a0_8 a0_9 a1_0 a1_1 a1_2 a1_3 a1_4 a1_5 a1_6 a1_7 a1_8 a1_9).bind fun t455 => (billiardlaw14_ContactSymmetric.j0 k (!t455) a0_0 a0_1 a0_2 a0_3 a0_4 a0_5 a0_6 a0_7 a0_8 a0_9 a1_0 a1_1 a1_2 a1_3 a1_4 a1_5 a1_6 a1_7 a1_8 a1_9)) else (billiardlaw14_ContactSymmetric.j0 k true a0_0 a0_1 a0_2 a0_3 a0_4 a0_5 a0_6 a0_7 a0_8 a0_9 a1_0 a1_1 a1_2 a1_3 a1_4 a1_5 a1_6 a1_7 a1_8 a1_9))) = some r := h
 clear h
 have HC3 := aM H
 clear H
 go_enter Try.func5, Try.ntmps5
 go_upto_region 1 with (first | ((with_reducible refine gate_dst (N := 2) rfl ?_); refine box_event ?hg (N := 2) ?hd (cs := #[.int .u32 a0_0, .int .i32 a0_1, .int .i32 a0_2, .int .i32 a0_3, .int .i32 a0_4, .int .i32 a0_5, .int .i32 a0_6, .int .i32 a0_7, .int .i32 a0_8, .int .i32 a0_9]) (t := 26) ?hr ?_; (case hd => rfl); (case hg => rfl); (case hr => first | (go_simp; done) | (go_simp; rfl)); intro b452 hg w4 hbox hb; have n0_ := aM (lT (by repeat (first | (with_reducible first | exact HB.out | apply lA | apply lN | apply lD) | exact HB.out)) hb); have n1_ := aM (hbox); have n2_ := aM ((by rw [hg]; exact (lZ (by repeat (first | (with_reducible first | exact HB.out | apply lA | apply lN | apply lD) | exact HB.out))) : w.heap.size ≤ b452)); have n3_ := aM ((by rw [hg]; exact (lZ (by repeat (first | (with_reducible first | exact HB.out | apply lA | apply lN | apply lD) | exact HB.out))) : w.heap.size ≤ b452)); clear HB; have HB := n0_; have BK452 := n1_; have GW452 := n2_; have GE452 := n3_; clear n0_ n1_ n2_ n3_; clear hb hbox hg) | ((with_reducible refine gate_dst (N := 3) rfl ?_); refine box_event ?hg (N := 3) ?hd (cs := #[.int .u32 a1_0, .int .i32 a1_1, .int .i32 a1_2, .int .i32 a1_3, .int .i32 a1_4, .int .i32 a1_5, .int .i32 a1_6, .int .i32 a1_7, .int .i32 a1_8, .int .i32 a1_9]) (t := 26) ?hr ?_; (case hd => rfl); (case hg => rfl); (case hr => first | (go_simp; done) | (go_simp; rfl)); intro b453 hg w5 hbox hb; have n0_ := aM (bB (by (with_reducible repeat first | apply bN | apply bD | apply bA); exact BK452.out) hb); have n1_ := aM (lT (by repeat (first | (with_reducible first | exact HB.out | apply lA | apply lN | apply lD | refine lS ?_ GE452.out) | exact HB.out)) hb); have n2_ := aM (hbox); have n3_ := aM ((by rw [hg]; exact (lZ (by repeat (first | (with_reducible first | exact HB.out | apply lA | apply lN | apply lD | refine lS ?_ GE452.out) | exact HB.out))) : w.heap.size ≤ b453)); have n4_ := aM ((by rw [hg]; exact (lZ (by repeat (first | (with_reducible first | exact HB.out | apply lA | apply lN | apply lD | refine lS ?_ GE452.out) | exact HB.out))) : w.heap.size ≤ b453)); have n5_ := aM ((by rw [hg]; exact Nat.ne_of_lt (bL (g := b452) (by (with_reducible repeat first | apply bN | apply bD | apply bA); exact BK452.out)) : b452 ≠ b453)); have n6_ := aM ((by rw [hg]; exact Nat.ne_of_gt (bL (g := b452) (by (with_reducible repeat first | apply bN | apply bD | apply bA); exact BK452.out)) : b453 ≠ b452)); clear BK452; clear HB; have BK452 := n0_; have HB := n1_; have BK453 := n2_; have GW453 := n3_; have GE453 := n4_; have N0_ := n5_; have N1_ := n6_; clear n0_ n1_ n2_ n3_ n4_ n5_ n6_; clear hb hbox hg))
 (try simp only [Act.put, sA, sB, sC])
 go_cut [20] (fun v20 wc => ∃ (kq : Nat) (x20_2 : Bool), v20 = .bool x20_2 ∧ Aside0 (billiardlaw14_ContactSymmetric.j0 kq x20_2 a0_0 a0_1 a0_2 a0_3 a0_4 a0_5 a0_6 a0_7 a0_8 a0_9 a1_0 a1_1 a1_2 a1_3 a1_4 a1_5 a1_6 a1_7 a1_8 a1_9 = some r) ∧ Aside0 (kq ≤ k) ∧ Aside0 (wc.heap[b452]? = some (.cells #[.int .u32 a0_0, .int .i32 a0_1, .int .i32 a0_2, .int .i32 a0_3, .int .i32 a0_4, .int .i32 a0_5, .int .i32 a0_6, .int .i32 a0_7, .int .i32 a0_8, .int .i32 a0_9] 26 (0, 0))) ∧ Aside0 (wc.heap[b453]? = some (.cells #[.int .u32 a1_0, .int .i32 a1_1, .int .i32 a1_2, .int .i32 a1_3, .int .i32 a1_4, .int .i32 a1_5, .int .i32 a1_6, .int .i32 a1_7, .int .i32 a1_8, .int .i32 a1_9] 26 (0, 0))) ∧ Aside0 (Below w.heap.size w wc))
 case first =>
  have H := HC3.out
  clear HC3
  replace H := Option.bind_eq_some_iff.mp H
  obtain ⟨t454, A60, H⟩ := H
  replace H : (if t454 = true then ((billiardref14_Right.f k a0_0 a0_1 a0_2 a0_3 a0_4 a0_5 a0_6 a0_7 a0_8 a0_9 a1_0 a1_1 a1_2 a1_3 a1_4 a1_5 a1_6 a1_7 a1_8 a1_9).bind fun t455 => (billiardlaw14_ContactSymmetric.j0 k (!t455) a0_0 a0_1 a0_2 a0_3 a0_4 a0_5 a0_6 a0_7 a0_8 a0_9 a1_0 a1_1 a1_2 a1_3 a1_4 a1_5 a1_6 a1_7 a1_8 a1_9)) else (billiardlaw14_ContactSymmetric.j0 k true a0_0 a0_1 a0_2 a0_3 a0_4 a0_5 a0_6 a0_7 a0_8 a0_9 a1_0 a1_1 a1_2 a1_3 a1_4 a1_5 a1_6 a1_7 a1_8 a1_9)) = some r := H
  have A6 := aM A60
  clear A60
  by_cases c7 : t454 = true
  ·subst c7
   have H1 : ((billiardref14_Right.f k a0_0 a0_1 a0_2 a0_3 a0_4 a0_5 a0_6 a0_7 a0_8 a0_9 a1_0 a1_1 a1_2 a1_3 a1_4 a1_5 a1_6 a1_7 a1_8 a1_9).bind fun t455 => (billiardlaw14_ContactSymmetric.j0 k (!t455) a0_0 a0_1 a0_2 a0_3 a0_4 a0_5 a0_6 a0_7 a0_8 a0_9 a1_0 a1_1 a1_2 a1_3 a1_4 a1_5 a1_6 a1_7 a1_8 a1_9)) = some r := by rw [if_pos rfl] at H; exact H
   clear H
   have H := H1
   clear H1
   replace H := Option.bind_eq_some_iff.mp H
   obtain ⟨t455, A80, H⟩ := H
   replace H : (billiardlaw14_ContactSymmetric.j0 k (!t455) a0_0 a0_1 a0_2 a0_3 a0_4 a0_5 a0_6 a0_7 a0_8 a0_9 a1_0 a1_1 a1_2 a1_3 a1_4 a1_5 a1_6 a1_7 a1_8 a1_9) = some r := H
   have A8 := aM A80
   clear A80
   have H' := aM H
   clear H
   go_wp2_with (first | ((with_reducible refine gate_callee (f := 8) rfl ?_); refine goesL_ (some 13) rfl rfl Try.func8 (by kernel_rfl) rfl #[] rfl (by (try simp only [List.map_toArray, List.map_cons, List.map_nil]); first | done | rfl | (simp only [List.length_drop, List.length_take]; rfl)) ?_; (with_reducible refine (billiardlaw14_awake.calls k  true _ A6.out).mono ?_); rintro e w9 ⟨rfl, hb⟩; refine ⟨_, rfl, ?_⟩; have n0_ := aM (bB (by (with_reducible repeat first | apply bN | apply bD | apply bA); exact BK452.out) hb); have n1_ := aM (bB (by (with_reducible repeat first | apply bN | apply bD | apply bA); exact BK453.out) hb); have n2_ := aM (lT (by repeat (first | (with_reducible first | exact HB.out | apply lA | apply lN | apply lD | refine lS ?_ GE452.out | refine lS ?_ GE453.out) | exact HB.out)) hb); clear BK452; clear BK453; clear HB; have BK452 := n0_; have BK453 := n1_; have HB := n2_; clear n0_ n1_ n2_; (try clear hb); (try clear hb2); (try clear hk); (try clear hi); have hnb10 := N0_.out; have hnc10 := N1_.out; have hcz11_0 : w9.cell? ⟨b452, 0, none⟩ = some (.int .u32 a0_0) := (bC BK452.out 0).trans rfl; have hcz11_1 : w9.cell? ⟨b452, 1, none⟩ = some (.int .i32 a0_1) := (bC BK452.out 1).trans rfl; have hcz11_2 : w9.cell? ⟨b452, 2, none⟩ = some (.int .i32 a0_2) := (bC BK452.out 2).trans rfl; have hcz11_3 : w9.cell? ⟨b452, 3, none⟩ = some (.int .i32 a0_3) := (bC BK452.out 3).trans rfl; have hcz11_4 : w9.cell? ⟨b452, 4, none⟩ = some (.int .i32 a0_4) := (bC BK452.out 4).trans rfl; have hcz11_5 : w9.cell? ⟨b452, 5, none⟩ = some (.int .i32 a0_5) := (bC BK452.out 5).trans rfl; have hcz11_6 : w9.cell? ⟨b452, 6, none⟩ = some (.int .i32 a0_6) := (bC BK452.out 6).trans rfl; have hcz11_7 : w9.cell? ⟨b452, 7, none⟩ = some (.int .i32 a0_7) := (bC BK452.out 7).trans rfl; have hcz11_8 : w9.cell? ⟨b452, 8, none⟩ = some (.int .i32 a0_8) := (bC BK452.out 8).trans rfl; have hcz11_9 : w9.cell? ⟨b452, 9, none⟩ = some (.int .i32 a0_9) := (bC BK452.out 9).trans rfl; have hfz11_0 := bF BK452.out 0; have hfz11_1 := bF BK452.out 1; have hfz11_2 := bF BK452.out 2; have hfz11_3 := bF BK452.out 3; have hfz11_4 := bF BK452.out 4; have hfz11_5 := bF BK452.out 5; have hfz11_6 := bF BK452.out 6; have hfz11_7 := bF BK452.out 7; have hfz11_8 := bF BK452.out 8; have hfz11_9 := bF BK452.out 9; have hcz12_0 : w9.cell? ⟨b453, 0, none⟩ = some (.int .u32 a1_0) := (bC BK453.out 0).trans rfl; have hcz12_1 : w9.cell? ⟨b453, 1, none⟩ = some (.int .i32 a1_1) := (bC BK453.out 1).trans rfl; have hcz12_2 : w9.cell? ⟨b453, 2, none⟩ = some (.int .i32 a1_2) := (bC BK453.out 2).trans rfl; have hcz12_3 : w9.cell? ⟨b453, 3, none⟩ = some (.int .i32 a1_3) := (bC BK453.out 3).trans rfl; have hcz12_4 : w9.cell? ⟨b453, 4, none⟩ = some (.int .i32 a1_4) := (bC BK453.out 4).trans rfl; have hcz12_5 : w9.cell? ⟨b453, 5, none⟩ = some (.int .i32 a1_5) := (bC BK453.out 5).trans rfl; have hcz12_6 : w9.cell? ⟨b453, 6, none⟩ = some (.int .i32 a1_6) := (bC BK453.out 6).trans rfl; have hcz12_7 : w9.cell? ⟨b453, 7, none⟩ = some (.int .i32 a1_7) := (bC BK453.out 7).trans rfl; have hcz12_8 : w9.cell? ⟨b453, 8, none⟩ = some (.int .i32 a1_8) := (bC BK453.out 8).trans rfl; have hcz12_9 : w9.cell? ⟨b453, 9, none⟩ = some (.int .i32 a1_9) := (bC BK453.out 9).trans rfl; have hfz12_0 := bF BK453.out 0; have hfz12_1 := bF BK453.out 1; have hfz12_2 := bF BK453.out 2; have hfz12_3 := bF BK453.out 3; have hfz12_4 := bF BK453.out 4; have hfz12_5 := bF BK453.out 5; have hfz12_6 := bF BK453.out 6; have hfz12_7 := bF BK453.out 7; have hfz12_8 := bF BK453.out 8; have hfz12_9 := bF BK453.out 9) | (go_at_call 9; (with_reducible refine (billiardref14_Right.calls k a0_0 a0_1 a0_2 a0_3 a0_4 a0_5 a0_6 a0_7 a0_8 a0_9 a1_0 a1_1 a1_2 a1_3 a1_4 a1_5 a1_6 a1_7 a1_8 a1_9 t455 _ A8.out).mono ?_); rintro e w13 ⟨rfl, hb⟩; have n0_ := aM (bB (by (with_reducible repeat first | apply bN | apply bD | apply bA); exact BK452.out) hb); have n1_ := aM (bB (by (with_reducible repeat first | apply bN | apply bD | apply bA); exact BK453.out) hb); have n2_ := aM (lT (by repeat (first | (with_reducible first | exact HB.out | apply lA | apply lN | apply lD | refine lS ?_ GE452.out | refine lS ?_ GE453.out) | exact HB.out)) hb); clear BK452; clear BK453; clear HB; have BK452 := n0_; have BK453 := n1_; have HB := n2_; clear n0_ n1_ n2_; (try clear hb); (try clear hb2); (try clear hk); (try clear hi)))
   go_meet
   case rel => exact ⟨_, (!t455), (by first | rfl | (simp; done) | (simp [*]; done)), H', ⟨by first | omega | exact Nat.le_refl _⟩, ⟨by (with_reducible repeat first | apply bN | apply bD | apply bA); exact BK452.out⟩, ⟨by (with_reducible repeat first | apply bN | apply bD | apply bA); exact BK453.out⟩, ⟨by repeat (first | (with_reducible first | exact HB.out | apply lA | apply lN | apply lD | refine lS ?_ GE452.out | refine lS ?_ GE453.out) | exact HB.out)⟩⟩
  ·replace c7 := Bool.eq_false_iff.mpr c7
   subst c7
   exact absurd (billiardlaw14_awake.only A6.out) (by decide)
 case rest =>
  clear HC3
  try clear c1
  try clear p2
  try clear c5
  try clear c7
  try clear c8
  try clear c10
  try clear hcz11_0
  try clear hcz11_1
  try clear hcz11_2
  try clear hcz11_3
  try clear hcz11_4
  try clear hcz11_5
  try clear hcz11_6
  try clear hcz11_7
  try clear hcz11_8
  try clear hcz11_9
  try clear hcz12_0
  try clear hcz12_1
  try clear hcz12_2
  try clear hcz12_3
  try clear hcz12_4
  try clear hcz12_5
  try clear hcz12_6
  try clear hcz12_7
  try clear hcz12_8
  try clear hcz12_9
  try clear hfz11_0
  try clear hfz11_1
  try clear hfz11_2
  try clear hfz11_3
  try clear hfz11_4
  try clear hfz11_5
  try clear hfz11_6
  try clear hfz11_7
  try clear hfz11_8
  try clear hfz11_9
  try clear hfz12_0
  try clear hfz12_1
  try clear hfz12_2
  try clear hfz12_3
  try clear hfz12_4
  try clear hfz12_5
  try clear hfz12_6
  try clear hfz12_7
  try clear hfz12_8
  try clear hfz12_9
  obtain ⟨kq, x20_2, rfl, HA, HJ2, BK452, BK453, HB⟩ := hcut
  cases kq with
  | zero => exact absurd HA.out (by simp [billiardlaw14_ContactSymmetric.j0])
  | succ kj2 =>
   have H := HA.out
   clear HA
   simp only [billiardlaw14_ContactSymmetric.j0] at H
   by_cases c14 : x20_2 = true
   ·subst c14
    have H1 : ((billiardlaw14_awake.f kj2).bind fun t456 => (some t456)) = some r := by rw [if_pos rfl] at H; exact H
    clear H
    have H := H1
    clear H1
    replace H := Option.bind_eq_some_iff.mp H
    obtain ⟨t456, A150, H⟩ := H
    replace H : (some t456) = some r := H
    have A15 := aM A150
    clear A150
    obtain rfl := Option.some.inj H
    go_wp2_with (first | ((with_reducible refine gate_callee (f := 8) rfl ?_); refine goesL_ (some 21) rfl rfl Try.func8 (by kernel_rfl) rfl #[] rfl (by (try simp only [List.map_toArray, List.map_cons, List.map_nil]); first | done | rfl | (simp only [List.length_drop, List.length_take]; rfl)) ?_; (with_reducible refine (billiardlaw14_awake.calls kj2  t456 _ A15.out).mono ?_); rintro e w16 ⟨rfl, hb⟩; refine ⟨_, rfl, ?_⟩; have n0_ := aM (bB (by (with_reducible repeat first | apply bN | apply bD | apply bA); exact BK452.out) hb); have n1_ := aM (bB (by (with_reducible repeat first | apply bN | apply bD | apply bA); exact BK453.out) hb); have n2_ := aM (lT (by repeat (first | (with_reducible first | exact HB.out | apply lA | apply lN | apply lD | refine lS ?_ GE452.out | refine lS ?_ GE453.out) | exact HB.out)) hb); clear BK452; clear BK453; clear HB; have BK452 := n0_; have BK453 := n1_; have HB := n2_; clear n0_ n1_ n2_; (try clear hb); (try clear hb2); (try clear hk); (try clear hi)))
    go_ret
    exact ⟨by first | rfl | (simp [errW_none, errW_some] <;> rfl) | (simp [*, errW_none, errW_some] <;> rfl), by repeat (first | (with_reducible first | exact HB.out | apply lA | apply lN | apply lD | refine lS ?_ GE452.out | refine lS ?_ GE453.out) | exact HB.out)⟩
   ·replace c14 := Bool.eq_false_iff.mpr c14
    subst c14
    have H1 : ((contact_Of.f kj2 a0_0 a0_1 a0_2 a0_3 a0_4 a0_5 a0_6 a0_7 a0_8 a0_9 a1_0 a1_1 a1_2 a1_3 a1_4 a1_5 a1_6 a1_7 a1_8 a1_9).bind fun bt457 => ((contact_Of.f kj2 a1_0 a1_1 a1_2 a1_3 a1_4 a1_5 a1_6 a1_7 a1_8 a1_9 a0_0 a0_1 a0_2 a0_3 a0_4 a0_5 a0_6 a0_7 a0_8 a0_9).bind fun bt464 => (if ((!(bt457.1 == bt464.1) || (!(bt457.2.1 == bt464.2.1))) || ((!(bt457.2.2.1 == bt464.2.2.1) || (!(bt457.2.2.2.1 == bt464.2.2.2.1))) || (!(bt457.2.2.2.2.1 == bt464.2.2.2.2.1)))) = true then (billiardlaw14_ContactSymmetric.j1 kj2 bt457.2.2.2.2.2 true a0_0 a0_1 a0_2 a0_3 a0_4 a0_5 a0_6 a0_7 a0_8 a0_9 a1_0 a1_1 a1_2 a1_3 a1_4 a1_5 a1_6 a1_7 a1_8 a1_9 bt457.1 bt457.2.1 bt457.2.2.1 bt457.2.2.2.1 bt457.2.2.2.2.1) else (if (bt457.2.2.2.2.2 != bt464.2.2.2.2.2) = true then (billiardlaw14_ContactSymmetric.j1 kj2 bt457.2.2.2.2.2 true a0_0 a0_1 a0_2 a0_3 a0_4 a0_5 a0_6 a0_7 a0_8 a0_9 a1_0 a1_1 a1_2 a1_3 a1_4 a1_5 a1_6 a1_7 a1_8 a1_9 bt457.1 bt457.2.1 bt457.2.2.1 bt457.2.2.2.1 bt457.2.2.2.2.1) else ((contact_Gap.f kj2 a0_0 a0_1 a0_2 a0_3 a0_4 a0_5 a0_6 a0_7 a0_8 a0_9 a1_0 a1_1 a1_2 a1_3 a1_4 a1_5 a1_6 a1_7 a1_8 a1_9).bind fun t471 => ((contact_Gap.f kj2 a1_0 a1_1 a1_2 a1_3 a1_4 a1_5 a1_6 a1_7 a1_8 a1_9 a0_0 a0_1 a0_2 a0_3 a0_4 a0_5 a0_6 a0_7 a0_8 a0_9).bind fun t472 => (billiardlaw14_ContactSymmetric.j1 kj2 bt457.2.2.2.2.2 (t471 != t472) a0_0 a0_1 a0_2 a0_3 a0_4 a0_5 a0_6 a0_7 a0_8 a0_9 a1_0 a1_1 a1_2 a1_3 a1_4 a1_5 a1_6 a1_7 a1_8 a1_9 bt457.1 bt457.2.1 bt457.2.2.1 bt457.2.2.2.1 bt457.2.2.2.2.1))))))) = some r := by rw [if_neg (show ¬ (false = true) by decide)] at H; exact H
    clear H
    have H := H1
    clear H1
    replace H := Option.bind_eq_some_iff.mp H
    obtain ⟨⟨t457, t458, t459, t460, t461, t462⟩, A170, H⟩ := H
    replace H : ((contact_Of.f kj2 a1_0 a1_1 a1_2 a1_3 a1_4 a1_5 a1_6 a1_7 a1_8 a1_9 a0_0 a0_1 a0_2 a0_3 a0_4 a0_5 a0_6 a0_7 a0_8 a0_9).bind fun bt464 => (if ((!(t457 == bt464.1) || (!(t458 == bt464.2.1))) || ((!(t459 == bt464.2.2.1) || (!(t460 == bt464.2.2.2.1))) || (!(t461 == bt464.2.2.2.2.1)))) = true then (billiardlaw14_ContactSymmetric.j1 kj2 t462 true a0_0 a0_1 a0_2 a0_3 a0_4 a0_5 a0_6 a0_7 a0_8 a0_9 a1_0 a1_1 a1_2 a1_3 a1_4 a1_5 a1_6 a1_7 a1_8 a1_9 t457 t458 t459 t460 t461) else (if (t462 != bt464.2.2.2.2.2) = true then (billiardlaw14_ContactSymmetric.j1 kj2 t462 true a0_0 a0_1 a0_2 a0_3 a0_4 a0_5 a0_6 a0_7 a0_8 a0_9 a1_0 a1_1 a1_2 a1_3 a1_4 a1_5 a1_6 a1_7 a1_8 a1_9 t457 t458 t459 t460 t461) else ((contact_Gap.f kj2 a0_0 a0_1 a0_2 a0_3 a0_4 a0_5 a0_6 a0_7 a0_8 a0_9 a1_0 a1_1 a1_2 a1_3 a1_4 a1_5 a1_6 a1_7 a1_8 a1_9).bind fun t471 => ((contact_Gap.f kj2 a1_0 a1_1 a1_2 a1_3 a1_4 a1_5 a1_6 a1_7 a1_8 a1_9 a0_0 a0_1 a0_2 a0_3 a0_4 a0_5 a0_6 a0_7 a0_8 a0_9).bind fun t472 => (billiardlaw14_ContactSymmetric.j1 kj2 t462 (t471 != t472) a0_0 a0_1 a0_2 a0_3 a0_4 a0_5 a0_6 a0_7 a0_8 a0_9 a1_0 a1_1 a1_2 a1_3 a1_4 a1_5 a1_6 a1_7 a1_8 a1_9 t457 t458 t459 t460 t461)))))) = some r := H
    have A17 := aM A170
    clear A170
    replace H := Option.bind_eq_some_iff.mp H
    obtain ⟨⟨t464, t465, t466, t467, t468, t469⟩, A180, H⟩ := H
    replace H : (if ((!(t457 == t464) || (!(t458 == t465))) || ((!(t459 == t466) || (!(t460 == t467))) || (!(t461 == t468)))) = true then (billiardlaw14_ContactSymmetric.j1 kj2 t462 true a0_0 a0_1 a0_2 a0_3 a0_4 a0_5 a0_6 a0_7 a0_8 a0_9 a1_0 a1_1 a1_2 a1_3 a1_4 a1_5 a1_6 a1_7 a1_8 a1_9 t457 t458 t459 t460 t461) else (if (t462 != t469) = true then (billiardlaw14_ContactSymmetric.j1 kj2 t462 true a0_0 a0_1 a0_2 a0_3 a0_4 a0_5 a0_6 a0_7 a0_8 a0_9 a1_0 a1_1 a1_2 a1_3 a1_4 a1_5 a1_6 a1_7 a1_8 a1_9 t457 t458 t459 t460 t461) else ((contact_Gap.f kj2 a0_0 a0_1 a0_2 a0_3 a0_4 a0_5 a0_6 a0_7 a0_8 a0_9 a1_0 a1_1 a1_2 a1_3 a1_4 a1_5 a1_6 a1_7 a1_8 a1_9).bind fun t471 => ((contact_Gap.f kj2 a1_0 a1_1 a1_2 a1_3 a1_4 a1_5 a1_6 a1_7 a1_8 a1_9 a0_0 a0_1 a0_2 a0_3 a0_4 a0_5 a0_6 a0_7 a0_8 a0_9).bind fun t472 => (billiardlaw14_ContactSymmetric.j1 kj2 t462 (t471 != t472) a0_0 a0_1 a0_2 a0_3 a0_4 a0_5 a0_6 a0_7 a0_8 a0_9 a1_0 a1_1 a1_2 a1_3 a1_4 a1_5 a1_6 a1_7 a1_8 a1_9 t457 t458 t459 t460 t461))))) = some r := H
    have A18 := aM A180
    clear A180
    have HC19 := aM H
    clear H
    have hnb20 := N0_.out
    have hnc20 := N1_.out
    have hcz21_0 : wc.cell? ⟨b452, 0, none⟩ = some (.int .u32 a0_0) := (bC BK452.out 0).trans rfl
    have hcz21_1 : wc.cell? ⟨b452, 1, none⟩ = some (.int .i32 a0_1) := (bC BK452.out 1).trans rfl
    have hcz21_2 : wc.cell? ⟨b452, 2, none⟩ = some (.int .i32 a0_2) := (bC BK452.out 2).trans rfl
    have hcz21_3 : wc.cell? ⟨b452, 3, none⟩ = some (.int .i32 a0_3) := (bC BK452.out 3).trans rfl
    have hcz21_4 : wc.cell? ⟨b452, 4, none⟩ = some (.int .i32 a0_4) := (bC BK452.out 4).trans rfl
    have hcz21_5 : wc.cell? ⟨b452, 5, none⟩ = some (.int .i32 a0_5) := (bC BK452.out 5).trans rfl
    have hcz21_6 : wc.cell? ⟨b452, 6, none⟩ = some (.int .i32 a0_6) := (bC BK452.out 6).trans rfl
    have hcz21_7 : wc.cell? ⟨b452, 7, none⟩ = some (.int .i32 a0_7) := (bC BK452.out 7).trans rfl
    have hcz21_8 : wc.cell? ⟨b452, 8, none⟩ = some (.int .i32 a0_8) := (bC BK452.out 8).trans rfl
    have hcz21_9 : wc.cell? ⟨b452, 9, none⟩ = some (.int .i32 a0_9) := (bC BK452.out 9).trans rfl
    have hfz21_0 := bF BK452.out 0
    have hfz21_1 := bF BK452.out 1
    have hfz21_2 := bF BK452.out 2
    have hfz21_3 := bF BK452.out 3
    have hfz21_4 := bF BK452.out 4
    have hfz21_5 := bF BK452.out 5
    have hfz21_6 := bF BK452.out 6
    have hfz21_7 := bF BK452.out 7
    have hfz21_8 := bF BK452.out 8
    have hfz21_9 := bF BK452.out 9
    have hcz22_0 : wc.cell? ⟨b453, 0, none⟩ = some (.int .u32 a1_0) := (bC BK453.out 0).trans rfl
    have hcz22_1 : wc.cell? ⟨b453, 1, none⟩ = some (.int .i32 a1_1) := (bC BK453.out 1).trans rfl
    have hcz22_2 : wc.cell? ⟨b453, 2, none⟩ = some (.int .i32 a1_2) := (bC BK453.out 2).trans rfl
    have hcz22_3 : wc.cell? ⟨b453, 3, none⟩ = some (.int .i32 a1_3) := (bC BK453.out 3).trans rfl
    have hcz22_4 : wc.cell? ⟨b453, 4, none⟩ = some (.int .i32 a1_4) := (bC BK453.out 4).trans rfl
    have hcz22_5 : wc.cell? ⟨b453, 5, none⟩ = some (.int .i32 a1_5) := (bC BK453.out 5).trans rfl
    have hcz22_6 : wc.cell? ⟨b453, 6, none⟩ = some (.int .i32 a1_6) := (bC BK453.out 6).trans rfl
    have hcz22_7 : wc.cell? ⟨b453, 7, none⟩ = some (.int .i32 a1_7) := (bC BK453.out 7).trans rfl
    have hcz22_8 : wc.cell? ⟨b453, 8, none⟩ = some (.int .i32 a1_8) := (bC BK453.out 8).trans rfl
    have hcz22_9 : wc.cell? ⟨b453, 9, none⟩ = some (.int .i32 a1_9) := (bC BK453.out 9).trans rfl
    have hfz22_0 := bF BK453.out 0
    have hfz22_1 := bF BK453.out 1
    have hfz22_2 := bF BK453.out 2
    have hfz22_3 := bF BK453.out 3
    have hfz22_4 := bF BK453.out 4
    have hfz22_5 := bF BK453.out 5
    have hfz22_6 := bF BK453.out 6
    have hfz22_7 := bF BK453.out 7
    have hfz22_8 := bF BK453.out 8
    have hfz22_9 := bF BK453.out 9
    go_upto_region 5 with (first | ((with_reducible refine gate_callee (f := 10) rfl ?_); refine goesL_ (some 25) rfl rfl Try.func10 (by kernel_rfl) rfl #[.agg #[.int .u32 a0_0, .int .i32 a0_1, .int .i32 a0_2, .int .i32 a0_3, .int .i32 a0_4, .int .i32 a0_5, .int .i32 a0_6, .int .i32 a0_7, .int .i32 a0_8, .int .i32 a0_9], .agg #[.int .u32 a1_0, .int .i32 a1_1, .int .i32 a1_2, .int .i32 a1_3, .int .i32 a1_4, .int .i32 a1_5, .int .i32 a1_6, .int .i32 a1_7, .int .i32 a1_8, .int .i32 a1_9]] rfl (by (try simp only [List.map_toArray, List.map_cons, List.map_nil]); first | done | rfl | (simp only [List.length_drop, List.length_take]; rfl)) ?_; (with_reducible refine (contact_Of.calls kj2 a0_0 a0_1 a0_2 a0_3 a0_4 a0_5 a0_6 a0_7 a0_8 a0_9 a1_0 a1_1 a1_2 a1_3 a1_4 a1_5 a1_6 a1_7 a1_8 a1_9 t457 t458 t459 t460 t461 t462 _ A17.out).mono ?_); rintro e w23 ⟨rfl, hb⟩; refine ⟨_, rfl, ?_⟩; have n0_ := aM (bB (by (with_reducible repeat first | apply bN | apply bD | apply bA); exact BK452.out) hb); have n1_ := aM (bB (by (with_reducible repeat first | apply bN | apply bD | apply bA); exact BK453.out) hb); have n2_ := aM (lT (by repeat (first | (with_reducible first | exact HB.out | apply lA | apply lN | apply lD | refine lS ?_ GE452.out | refine lS ?_ GE453.out) | exact HB.out)) hb); clear BK452; clear BK453; clear HB; have BK452 := n0_; have BK453 := n1_; have HB := n2_; clear n0_ n1_ n2_; (try clear hb); (try clear hb2); (try clear hk); (try clear hi)) | ((with_reducible refine gate_dst (N := 5) rfl ?_); refine box_event ?hg (N := 5) ?hd (cs := #[.int .u32 0, .int .u32 0, .int .i32 0, .int .i32 0, .int .i32 0]) (t := 32) ?hr ?_; (case hd => rfl); (case hg => rfl); (case hr => first | (go_simp; done) | (go_simp; rfl)); intro b463 hg w24 hbox hb; have n0_ := aM (bB (by (with_reducible repeat first | apply bN | apply bD | apply bA); exact BK452.out) hb); have n1_ := aM (bB (by (with_reducible repeat first | apply bN | apply bD | apply bA); exact BK453.out) hb); have n2_ := aM (lT (by repeat (first | (with_reducible first | exact HB.out | apply lA | apply lN | apply lD | refine lS ?_ GE452.out | refine lS ?_ GE453.out) | exact HB.out)) hb); have n3_ := aM (hbox); have n4_ := aM ((by rw [hg]; exact (lZ (by repeat (first | (with_reducible first | exact HB.out | apply lA | apply lN | apply lD | refine lS ?_ GE452.out | refine lS ?_ GE453.out) | exact HB.out))) : w.heap.size ≤ b463)); have n5_ := aM ((by rw [hg]; exact (lZ (by repeat (first | (with_reducible first | exact HB.out | apply lA | apply lN | apply lD | refine lS ?_ GE452.out | refine lS ?_ GE453.out) | exact HB.out))) : w.heap.size ≤ b463)); have n6_ := aM ((by rw [hg]; exact Nat.ne_of_lt (bL (g := b452) (by (with_reducible repeat first | apply bN | apply bD | apply bA); exact BK452.out)) : b452 ≠ b463)); have n7_ := aM ((by rw [hg]; exact Nat.ne_of_gt (bL (g := b452) (by (with_reducible repeat first | apply bN | apply bD | apply bA); exact BK452.out)) : b463 ≠ b452)); have n8_ := aM ((by rw [hg]; exact Nat.ne_of_lt (bL (g := b453) (by (with_reducible repeat first | apply bN | apply bD | apply bA); exact BK453.out)) : b453 ≠ b463)); have n9_ := aM ((by rw [hg]; exact Nat.ne_of_gt (bL (g := b453) (by (with_reducible repeat first | apply bN | apply bD | apply bA); exact BK453.out)) : b463 ≠ b453)); clear BK452; clear BK453; clear HB; have BK452 := n0_; have BK453 := n1_; have HB := n2_; have BK463 := n3_; have GW463 := n4_; have GE463 := n5_; have N2_ := n6_; have N3_ := n7_; have N4_ := n8_; have N5_ := n9_; clear n0_ n1_ n2_ n3_ n4_ n5_ n6_ n7_ n8_ n9_; clear hb hbox hg; have hnb25 := N3_.out; have hnc25 := N2_.out; have hnb26 := N5_.out; have hnc26 := N4_.out; have hcz27_0 : w24.cell? ⟨b463, 0, none⟩ = some (.int .u32 0) := (bC BK463.out 0).trans rfl; have hcz27_1 : w24.cell? ⟨b463, 1, none⟩ = some (.int .u32 0) := (bC BK463.out 1).trans rfl; have hcz27_2 : w24.cell? ⟨b463, 2, none⟩ = some (.int .i32 0) := (bC BK463.out 2).trans rfl; have hcz27_3 : w24.cell? ⟨b463, 3, none⟩ = some (.int .i32 0) := (bC BK463.out 3).trans rfl; have hcz27_4 : w24.cell? ⟨b463, 4, none⟩ = some (.int .i32 0) := (bC BK463.out 4).trans rfl; have hfz27_0 := bF BK463.out 0; have hfz27_1 := bF BK463.out 1; have hfz27_2 := bF BK463.out 2; have hfz27_3 := bF BK463.out 3; have hfz27_4 := bF BK463.out 4; have hcz28_0 : w24.cell? ⟨b453, 0, none⟩ = some (.int .u32 a1_0) := (bC BK453.out 0).trans rfl; have hcz28_1 : w24.cell? ⟨b453, 1, none⟩ = some (.int .i32 a1_1) := (bC BK453.out 1).trans rfl; have hcz28_2 : w24.cell? ⟨b453, 2, none⟩ = some (.int .i32 a1_2) := (bC BK453.out 2).trans rfl; have hcz28_3 : w24.cell? ⟨b453, 3, none⟩ = some (.int .i32 a1_3) := (bC BK453.out 3).trans rfl; have hcz28_4 : w24.cell? ⟨b453, 4, none⟩ = some (.int .i32 a1_4) := (bC BK453.out 4).trans rfl; have hcz28_5 : w24.cell? ⟨b453, 5, none⟩ = some (.int .i32 a1_5) := (bC BK453.out 5).trans rfl; have hcz28_6 : w24.cell? ⟨b453, 6, none⟩ = some (.int .i32 a1_6) := (bC BK453.out 6).trans rfl; have hcz28_7 : w24.cell? ⟨b453, 7, none⟩ = some (.int .i32 a1_7) := (bC BK453.out 7).trans rfl; have hcz28_8 : w24.cell? ⟨b453, 8, none⟩ = some (.int .i32 a1_8) := (bC BK453.out 8).trans rfl; have hcz28_9 : w24.cell? ⟨b453, 9, none⟩ = some (.int .i32 a1_9) := (bC BK453.out 9).trans rfl; have hfz28_0 := bF BK453.out 0; have hfz28_1 := bF BK453.out 1; have hfz28_2 := bF BK453.out 2; have hfz28_3 := bF BK453.out 3; have hfz28_4 := bF BK453.out 4; have hfz28_5 := bF BK453.out 5; have hfz28_6 := bF BK453.out 6; have hfz28_7 := bF BK453.out 7; have hfz28_8 := bF BK453.out 8; have hfz28_9 := bF BK453.out 9; have hcz29_0 : w24.cell? ⟨b452, 0, none⟩ = some (.int .u32 a0_0) := (bC BK452.out 0).trans rfl; have hcz29_1 : w24.cell? ⟨b452, 1, none⟩ = some (.int .i32 a0_1) := (bC BK452.out 1).trans rfl; have hcz29_2 : w24.cell? ⟨b452, 2, none⟩ = some (.int .i32 a0_2) := (bC BK452.out 2).trans rfl; have hcz29_3 : w24.cell? ⟨b452, 3, none⟩ = some (.int .i32 a0_3) := (bC BK452.out 3).trans rfl; have hcz29_4 : w24.cell? ⟨b452, 4, none⟩ = some (.int .i32 a0_4) := (bC BK452.out 4).trans rfl; have hcz29_5 : w24.cell? ⟨b452, 5, none⟩ = some (.int .i32 a0_5) := (bC BK452.out 5).trans rfl; have hcz29_6 : w24.cell? ⟨b452, 6, none⟩ = some (.int .i32 a0_6) := (bC BK452.out 6).trans rfl; have hcz29_7 : w24.cell? ⟨b452, 7, none⟩ = some (.int .i32 a0_7) := (bC BK452.out 7).trans rfl; have hcz29_8 : w24.cell? ⟨b452, 8, none⟩ = some (.int .i32 a0_8) := (bC BK452.out 8).trans rfl; have hcz29_9 : w24.cell? ⟨b452, 9, none⟩ = some (.int .i32 a0_9) := (bC BK452.out 9).trans rfl; have hfz29_0 := bF BK452.out 0; have hfz29_1 := bF BK452.out 1; have hfz29_2 := bF BK452.out 2; have hfz29_3 := bF BK452.out 3; have hfz29_4 := bF BK452.out 4; have hfz29_5 := bF BK452.out 5; have hfz29_6 := bF BK452.out 6; have hfz29_7 := bF BK452.out 7; have hfz29_8 := bF BK452.out 8; have hfz29_9 := bF BK452.out 9) | ((with_reducible refine gate_callee (f := 10) rfl ?_); refine goesL_ (some 31) rfl rfl Try.func10 (by kernel_rfl) rfl #[.agg #[.int .u32 a1_0, .int .i32 a1_1, .int .i32 a1_2, .int .i32 a1_3, .int .i32 a1_4, .int .i32 a1_5, .int .i32 a1_6, .int .i32 a1_7, .int .i32 a1_8, .int .i32 a1_9], .agg #[.int .u32 a0_0, .int .i32 a0_1, .int .i32 a0_2, .int .i32 a0_3, .int .i32 a0_4, .int .i32 a0_5, .int .i32 a0_6, .int .i32 a0_7, .int .i32 a0_8, .int .i32 a0_9]] rfl (by (try simp only [List.map_toArray, List.map_cons, List.map_nil]); first | done | rfl | (simp only [List.length_drop, List.length_take]; rfl)) ?_; (with_reducible refine (contact_Of.calls kj2 a1_0 a1_1 a1_2 a1_3 a1_4 a1_5 a1_6 a1_7 a1_8 a1_9 a0_0 a0_1 a0_2 a0_3 a0_4 a0_5 a0_6 a0_7 a0_8 a0_9 t464 t465 t466 t467 t468 t469 _ A18.out).mono ?_); rintro e w30 ⟨rfl, hb⟩; refine ⟨_, rfl, ?_⟩; have n0_ := aM (bB (g := b452) (o := .cells #[.int .u32 a0_0, .int .i32 a0_1, .int .i32 a0_2, .int .i32 a0_3, .int .i32 a0_4, .int .i32 a0_5, .int .i32 a0_6, .int .i32 a0_7, .int .i32 a0_8, .int .i32 a0_9] 26 (0, 0)) (by (with_reducible repeat first | apply bN | apply bD | apply bA); refine bR ?_ N2_.out _; (with_reducible repeat first | apply bN | apply bD | apply bA); refine bR ?_ N2_.out _; (with_reducible repeat first | apply bN | apply bD | apply bA); refine bR ?_ N2_.out _; (with_reducible repeat first | apply bN | apply bD | apply bA); refine bR ?_ N2_.out _; (with_reducible repeat first | apply bN | apply bD | apply bA); refine bR ?_ N2_.out _; (with_reducible repeat first | apply bN | apply bD | apply bA); exact BK452.out) hb); have n1_ := aM (bB (g := b453) (o := .cells #[.int .u32 a1_0, .int .i32 a1_1, .int .i32 a1_2, .int .i32 a1_3, .int .i32 a1_4, .int .i32 a1_5, .int .i32 a1_6, .int .i32 a1_7, .int .i32 a1_8, .int .i32 a1_9] 26 (0, 0)) (by (with_reducible repeat first | apply bN | apply bD | apply bA); refine bR ?_ N4_.out _; (with_reducible repeat first | apply bN | apply bD | apply bA); refine bR ?_ N4_.out _; (with_reducible repeat first | apply bN | apply bD | apply bA); refine bR ?_ N4_.out _; (with_reducible repeat first | apply bN | apply bD | apply bA); refine bR ?_ N4_.out _; (with_reducible repeat first | apply bN | apply bD | apply bA); refine bR ?_ N4_.out _; (with_reducible repeat first | apply bN | apply bD | apply bA); exact BK453.out) hb); have n2_ := aM (bB (g := b463) (o := .cells #[.int .u32 t457, .int .u32 t458, .int .i32 t459, .int .i32 t460, .int .i32 t461] 32 (0, 0)) (by (with_reducible repeat first | apply bN | apply bD | apply bA); refine bP (cs := #[.int .u32 t457, .int .u32 t458, .int .i32 t459, .int .i32 t460, .int .i32 0]) ?_ 4 _ rfl; (with_reducible repeat first | apply bN | apply bD | apply bA); refine bP (cs := #[.int .u32 t457, .int .u32 t458, .int .i32 t459, .int .i32 0, .int .i32 0]) ?_ 3 _ rfl; (with_reducible repeat first | apply bN | apply bD | apply bA); refine bP (cs := #[.int .u32 t457, .int .u32 t458, .int .i32 0, .int .i32 0, .int .i32 0]) ?_ 2 _ rfl; (with_reducible repeat first | apply bN | apply bD | apply bA); refine bP (cs := #[.int .u32 t457, .int .u32 0, .int .i32 0, .int .i32 0, .int .i32 0]) ?_ 1 _ rfl; (with_reducible repeat first | apply bN | apply bD | apply bA); refine bP (cs := #[.int .u32 0, .int .u32 0, .int .i32 0, .int .i32 0, .int .i32 0]) ?_ 0 _ rfl; (with_reducible repeat first | apply bN | apply bD | apply bA); exact BK463.out) hb); have n3_ := aM (lT (by repeat (first | (with_reducible first | exact HB.out | apply lA | apply lN | apply lD | refine lS ?_ GE452.out | refine lS ?_ GE453.out | refine lS ?_ GE463.out) | exact HB.out)) hb); clear BK452; clear BK453; clear BK463; clear HB; have BK452 := n0_; have BK453 := n1_; have BK463 := n2_; have HB := n3_; clear n0_ n1_ n2_ n3_; (try clear hb); (try clear hb2); (try clear hk); (try clear hi)) | ((with_reducible refine gate_dst (N := 7) rfl ?_); refine box_event ?hg (N := 7) ?hd (cs := #[.int .u32 0, .int .u32 0, .int .i32 0, .int .i32 0, .int .i32 0]) (t := 32) ?hr ?_; (case hd => rfl); (case hg => rfl); (case hr => first | (go_simp; done) | (go_simp; rfl)); intro b470 hg w31 hbox hb; have n0_ := aM (bB (by (with_reducible repeat first | apply bN | apply bD | apply bA); exact BK452.out) hb); have n1_ := aM (bB (by (with_reducible repeat first | apply bN | apply bD | apply bA); exact BK453.out) hb); have n2_ := aM (bB (by (with_reducible repeat first | apply bN | apply bD | apply bA); exact BK463.out) hb); have n3_ := aM (lT (by repeat (first | (with_reducible first | exact HB.out | apply lA | apply lN | apply lD | refine lS ?_ GE452.out | refine lS ?_ GE453.out | refine lS ?_ GE463.out) | exact HB.out)) hb); have n4_ := aM (hbox); have n5_ := aM ((by rw [hg]; exact (lZ (by repeat (first | (with_reducible first | exact HB.out | apply lA | apply lN | apply lD | refine lS ?_ GE452.out | refine lS ?_ GE453.out | refine lS ?_ GE463.out) | exact HB.out))) : w.heap.size ≤ b470)); have n6_ := aM ((by rw [hg]; exact (lZ (by repeat (first | (with_reducible first | exact HB.out | apply lA | apply lN | apply lD | refine lS ?_ GE452.out | refine lS ?_ GE453.out | refine lS ?_ GE463.out) | exact HB.out))) : w.heap.size ≤ b470)); have n7_ := aM ((by rw [hg]; exact Nat.ne_of_lt (bL (g := b452) (by (with_reducible repeat first | apply bN | apply bD | apply bA); exact BK452.out)) : b452 ≠ b470)); have n8_ := aM ((by rw [hg]; exact Nat.ne_of_gt (bL (g := b452) (by (with_reducible repeat first | apply bN | apply bD | apply bA); exact BK452.out)) : b470 ≠ b452)); have n9_ := aM ((by rw [hg]; exact Nat.ne_of_lt (bL (g := b453) (by (with_reducible repeat first | apply bN | apply bD | apply bA); exact BK453.out)) : b453 ≠ b470)); have n10_ := aM ((by rw [hg]; exact Nat.ne_of_gt (bL (g := b453) (by (with_reducible repeat first | apply bN | apply bD | apply bA); exact BK453.out)) : b470 ≠ b453)); have n11_ := aM ((by rw [hg]; exact Nat.ne_of_lt (bL (g := b463) (by (with_reducible repeat first | apply bN | apply bD | apply bA); exact BK463.out)) : b463 ≠ b470)); have n12_ := aM ((by rw [hg]; exact Nat.ne_of_gt (bL (g := b463) (by (with_reducible repeat first | apply bN | apply bD | apply bA); exact BK463.out)) : b470 ≠ b463)); clear BK452; clear BK453; clear BK463; clear HB; have BK452 := n0_; have BK453 := n1_; have BK463 := n2_; have HB := n3_; have BK470 := n4_; have GW470 := n5_; have GE470 := n6_; have N6_ := n7_; have N7_ := n8_; have N8_ := n9_; have N9_ := n10_; have N10_ := n11_; have N11_ := n12_; clear n0_ n1_ n2_ n3_ n4_ n5_ n6_ n7_ n8_ n9_ n10_ n11_ n12_; clear hb hbox hg; have hnb32 := N7_.out; have hnc32 := N6_.out; have hnb33 := N9_.out; have hnc33 := N8_.out; have hnb34 := N11_.out; have hnc34 := N10_.out; have hcz35_0 : w31.cell? ⟨b470, 0, none⟩ = some (.int .u32 0) := (bC BK470.out 0).trans rfl; have hcz35_1 : w31.cell? ⟨b470, 1, none⟩ = some (.int .u32 0) := (bC BK470.out 1).trans rfl; have hcz35_2 : w31.cell? ⟨b470, 2, none⟩ = some (.int .i32 0) := (bC BK470.out 2).trans rfl; have hcz35_3 : w31.cell? ⟨b470, 3, none⟩ = some (.int .i32 0) := (bC BK470.out 3).trans rfl; have hcz35_4 : w31.cell? ⟨b470, 4, none⟩ = some (.int .i32 0) := (bC BK470.out 4).trans rfl; have hfz35_0 := bF BK470.out 0; have hfz35_1 := bF BK470.out 1; have hfz35_2 := bF BK470.out 2; have hfz35_3 := bF BK470.out 3; have hfz35_4 := bF BK470.out 4))
    (try simp only [Act.put, sA, sB, sC])
    go_cut [50] (fun v50 wc => ∃ (kq : Nat) (x50_18 : Bool), v50 = .bool x50_18 ∧ Aside0 (billiardlaw14_ContactSymmetric.j1 kq t462 x50_18 a0_0 a0_1 a0_2 a0_3 a0_4 a0_5 a0_6 a0_7 a0_8 a0_9 a1_0 a1_1 a1_2 a1_3 a1_4 a1_5 a1_6 a1_7 a1_8 a1_9 t457 t458 t459 t460 t461 = some r) ∧ Aside0 (kq ≤ kj2) ∧ Aside0 (wc.heap[b452]? = some (.cells #[.int .u32 a0_0, .int .i32 a0_1, .int .i32 a0_2, .int .i32 a0_3, .int .i32 a0_4, .int .i32 a0_5, .int .i32 a0_6, .int .i32 a0_7, .int .i32 a0_8, .int .i32 a0_9] 26 (0, 0))) ∧ Aside0 (wc.heap[b453]? = some (.cells #[.int .u32 a1_0, .int .i32 a1_1, .int .i32 a1_2, .int .i32 a1_3, .int .i32 a1_4, .int .i32 a1_5, .int .i32 a1_6, .int .i32 a1_7, .int .i32 a1_8, .int .i32 a1_9] 26 (0, 0))) ∧ Aside0 (wc.heap[b463]? = some (.cells #[.int .u32 t457, .int .u32 t458, .int .i32 t459, .int .i32 t460, .int .i32 t461] 32 (0, 0))) ∧ Aside0 (wc.heap[b470]? = some (.cells #[.int .u32 t464, .int .u32 t465, .int .i32 t466, .int .i32 t467, .int .i32 t468] 32 (0, 0))) ∧ Aside0 (Below w.heap.size w wc))
    case first =>
     have H := HC19.out
     clear HC19
     by_cases c36 : ((!(t457 == t464) || (!(t458 == t465))) || ((!(t459 == t466) || (!(t460 == t467))) || (!(t461 == t468)))) = true
     ·rw [if_pos c36] at H
      have c36b0 : ((!(t457 == t464) || (!(t458 == t465))) || ((!(t459 == t466) || (!(t460 == t467))) || (!(t461 == t468)))) = true := c36
      clear c36
      (first | rw [c36b0] | (simp only [i64_w, i32_w]; rw [c36b0]) | skip)
      have H' := aM H
      clear H
      try go_wp2
      have n0_ : Aside0 ((((((w31.setCell ⟨b470, 0, none⟩ (.int .u32 t464)).setCell ⟨b470, 1, none⟩ (.int .u32 t465)).setCell ⟨b470, 2, none⟩ (.int .i32 t466)).setCell ⟨b470, 3, none⟩ (.int .i32 t467)).setCell ⟨b470, 4, none⟩ (.int .i32 t468)).heap[b452]? = some (.cells #[.int .u32 a0_0, .int .i32 a0_1, .int .i32 a0_2, .int .i32 a0_3, .int .i32 a0_4, .int .i32 a0_5, .int .i32 a0_6, .int .i32 a0_7, .int .i32 a0_8, .int .i32 a0_9] 26 (0, 0))) := ⟨by (with_reducible repeat first | apply bN | apply bD | apply bA); refine bR ?_ N6_.out _; (with_reducible repeat first | apply bN | apply bD | apply bA); refine bR ?_ N6_.out _; (with_reducible repeat first | apply bN | apply bD | apply bA); refine bR ?_ N6_.out _; (with_reducible repeat first | apply bN | apply bD | apply bA); refine bR ?_ N6_.out _; (with_reducible repeat first | apply bN | apply bD | apply bA); refine bR ?_ N6_.out _; (with_reducible repeat first | apply bN | apply bD | apply bA); exact BK452.out⟩
      have n1_ : Aside0 ((((((w31.setCell ⟨b470, 0, none⟩ (.int .u32 t464)).setCell ⟨b470, 1, none⟩ (.int .u32 t465)).setCell ⟨b470, 2, none⟩ (.int .i32 t466)).setCell ⟨b470, 3, none⟩ (.int .i32 t467)).setCell ⟨b470, 4, none⟩ (.int .i32 t468)).heap[b453]? = some (.cells #[.int .u32 a1_0, .int .i32 a1_1, .int .i32 a1_2, .int .i32 a1_3, .int .i32 a1_4, .int .i32 a1_5, .int .i32 a1_6, .int .i32 a1_7, .int .i32 a1_8, .int .i32 a1_9] 26 (0, 0))) := ⟨by (with_reducible repeat first | apply bN | apply bD | apply bA); refine bR ?_ N8_.out _; (with_reducible repeat first | apply bN | apply bD | apply bA); refine bR ?_ N8_.out _; (with_reducible repeat first | apply bN | apply bD | apply bA); refine bR ?_ N8_.out _; (with_reducible repeat first | apply bN | apply bD | apply bA); refine bR ?_ N8_.out _; (with_reducible repeat first | apply bN | apply bD | apply bA); refine bR ?_ N8_.out _; (with_reducible repeat first | apply bN | apply bD | apply bA); exact BK453.out⟩
      have n2_ : Aside0 ((((((w31.setCell ⟨b470, 0, none⟩ (.int .u32 t464)).setCell ⟨b470, 1, none⟩ (.int .u32 t465)).setCell ⟨b470, 2, none⟩ (.int .i32 t466)).setCell ⟨b470, 3, none⟩ (.int .i32 t467)).setCell ⟨b470, 4, none⟩ (.int .i32 t468)).heap[b463]? = some (.cells #[.int .u32 t457, .int .u32 t458, .int .i32 t459, .int .i32 t460, .int .i32 t461] 32 (0, 0))) := ⟨by (with_reducible repeat first | apply bN | apply bD | apply bA); refine bR ?_ N10_.out _; (with_reducible repeat first | apply bN | apply bD | apply bA); refine bR ?_ N10_.out _; (with_reducible repeat first | apply bN | apply bD | apply bA); refine bR ?_ N10_.out _; (with_reducible repeat first | apply bN | apply bD | apply bA); refine bR ?_ N10_.out _; (with_reducible repeat first | apply bN | apply bD | apply bA); refine bR ?_ N10_.out _; (with_reducible repeat first | apply bN | apply bD | apply bA); exact BK463.out⟩
      have n3_ : Aside0 ((((((w31.setCell ⟨b470, 0, none⟩ (.int .u32 t464)).setCell ⟨b470, 1, none⟩ (.int .u32 t465)).setCell ⟨b470, 2, none⟩ (.int .i32 t466)).setCell ⟨b470, 3, none⟩ (.int .i32 t467)).setCell ⟨b470, 4, none⟩ (.int .i32 t468)).heap[b470]? = some (.cells #[.int .u32 t464, .int .u32 t465, .int .i32 t466, .int .i32 t467, .int .i32 t468] 32 (0, 0))) := ⟨by (with_reducible repeat first | apply bN | apply bD | apply bA); refine bP (cs := #[.int .u32 t464, .int .u32 t465, .int .i32 t466, .int .i32 t467, .int .i32 0]) ?_ 4 _ rfl; (with_reducible repeat first | apply bN | apply bD | apply bA); refine bP (cs := #[.int .u32 t464, .int .u32 t465, .int .i32 t466, .int .i32 0, .int .i32 0]) ?_ 3 _ rfl; (with_reducible repeat first | apply bN | apply bD | apply bA); refine bP (cs := #[.int .u32 t464, .int .u32 t465, .int .i32 0, .int .i32 0, .int .i32 0]) ?_ 2 _ rfl; (with_reducible repeat first | apply bN | apply bD | apply bA); refine bP (cs := #[.int .u32 t464, .int .u32 0, .int .i32 0, .int .i32 0, .int .i32 0]) ?_ 1 _ rfl; (with_reducible repeat first | apply bN | apply bD | apply bA); refine bP (cs := #[.int .u32 0, .int .u32 0, .int .i32 0, .int .i32 0, .int .i32 0]) ?_ 0 _ rfl; (with_reducible repeat first | apply bN | apply bD | apply bA); exact BK470.out⟩
      have n4_ : Aside0 (Below w.heap.size w (((((w31.setCell ⟨b470, 0, none⟩ (.int .u32 t464)).setCell ⟨b470, 1, none⟩ (.int .u32 t465)).setCell ⟨b470, 2, none⟩ (.int .i32 t466)).setCell ⟨b470, 3, none⟩ (.int .i32 t467)).setCell ⟨b470, 4, none⟩ (.int .i32 t468))) := ⟨by repeat (first | (with_reducible first | exact HB.out | apply lA | apply lN | apply lD | refine lS ?_ GE452.out | refine lS ?_ GE453.out | refine lS ?_ GE463.out | refine lS ?_ GE470.out) | exact HB.out)⟩
      (try clear BK452)
      (try clear BK453)
      (try clear BK463)
      (try clear BK470)
      (try clear HB)
      generalize (((((w31.setCell ⟨b470, 0, none⟩ (.int .u32 t464)).setCell ⟨b470, 1, none⟩ (.int .u32 t465)).setCell ⟨b470, 2, none⟩ (.int .i32 t466)).setCell ⟨b470, 3, none⟩ (.int .i32 t467)).setCell ⟨b470, 4, none⟩ (.int .i32 t468)) = w37 at n0_ n1_ n2_ n3_ n4_ ⊢
      have BK452 := n0_
      have BK453 := n1_
      have BK463 := n2_
      have BK470 := n3_
      have HB := n4_
      clear n0_ n1_ n2_ n3_ n4_
      have n0_ := aM (bD BK452.out)
      have n1_ := aM (bD BK453.out)
      have n2_ := aM (bD BK463.out)
      have n3_ := aM (bD BK470.out)
      have n4_ := aM (lD HB.out)
      clear BK452
      clear BK453
      clear BK463
      clear BK470
      clear HB
      have BK452 := n0_
      have BK453 := n1_
      have BK463 := n2_
      have BK470 := n3_
      have HB := n4_
      clear n0_ n1_ n2_ n3_ n4_
      refine start_ (n := 17) (S := fun w' => w'.cell? ⟨b463, 0, none⟩ = some (.int .u32 t457) ∧ w'.cell? ⟨b463, 1, none⟩ = some (.int .u32 t458) ∧ w'.cell? ⟨b463, 2, none⟩ = some (.int .i32 t459) ∧ w'.cell? ⟨b463, 3, none⟩ = some (.int .i32 t460) ∧ w'.cell? ⟨b463, 4, none⟩ = some (.int .i32 t461) ∧ w'.cell? ⟨b470, 0, none⟩ = some (.int .u32 t464) ∧ w'.cell? ⟨b470, 1, none⟩ = some (.int .u32 t465) ∧ w'.cell? ⟨b470, 2, none⟩ = some (.int .i32 t466) ∧ w'.cell? ⟨b470, 3, none⟩ = some (.int .i32 t467) ∧ w'.cell? ⟨b470, 4, none⟩ = some (.int .i32 t468)) (ds := []) #[F,F,F,F,F,F,F,F,F,F,F,F,F,F,F,F,F] (by kernel_rfl) rfl rfl ⟨(bC BK463.out 0).trans rfl, (bC BK463.out 1).trans rfl, (bC BK463.out 2).trans rfl, (bC BK463.out 3).trans rfl, (bC BK463.out 4).trans rfl, (bC BK470.out 0).trans rfl, (bC BK470.out 1).trans rfl, (bC BK470.out 2).trans rfl, (bC BK470.out 3).trans rfl, (bC BK470.out 4).trans rfl⟩ (fun hHeld => ?_); refine with_tabW billiardlaw14_ContactSymmetric.tab5 billiardlaw14_ContactSymmetric.bits5 (fun HT_ HW_ => ?_)
      generalize w37.drew = w38 at BK452 BK453 BK463 BK470 HB hHeld ⊢
      refine take_ (i := 0) (N := some 34) (v := ?_) (a' := ?_) #[T,F,F,F,F,F,F,F,F,F,F,F,F,F,F,F,F] rfl rfl (take_ofW HT_.out HW_.out (by kernel_rfl)) (fun _ _ _ h => h) (Or.inl ⟨by rfl, ?_⟩) hHeld ?_ ?_
      rotate_left
      ·rintro w' ⟨s0, s1, s2, s3, s4, s5, s6, s7, s8, s9⟩
       go_simp
       with_reducible rfl
      rotate_left
      ·simp only [Act.put, sA, sB, sC, i64_w, i32_w]
       rfl
      refine take_ (i := 1) (N := some 35) (v := ?_) (a' := ?_) #[T,T,F,F,F,F,F,F,F,F,F,F,F,F,F,F,F] rfl rfl (take_ofW HT_.out HW_.out (by kernel_rfl)) (fun _ _ _ h => h) (Or.inl ⟨by rfl, ?_⟩) hHeld ?_ ?_
      rotate_left
      ·rintro w' ⟨s0, s1, s2, s3, s4, s5, s6, s7, s8, s9⟩
       go_simp
       with_reducible rfl
      rotate_left
      ·simp only [Act.put, sA, sB, sC, i64_w, i32_w]
       rfl
      refine pure_ (i := 2) (N := some 36) (v := ?_) (a' := ?_) #[T,T,T,F,F,F,F,F,F,F,F,F,F,F,F,F,F] rfl rfl (any_of HT_.out (by kernel_rfl)) (fun _ _ _ h => h) (Or.inl ⟨by rfl, ?_⟩) ?_ ?_
      rotate_left
      ·intro w'
       go_simp
       with_reducible rfl
      rotate_left
      ·simp only [Act.put, sA, sB, sC, i64_w, i32_w]
       rfl
      refine pure_ (i := 3) (N := some 37) (v := ?_) (a' := ?_) #[T,T,T,T,F,F,F,F,F,F,F,F,F,F,F,F,F] rfl rfl (any_of HT_.out (by kernel_rfl)) (fun _ _ _ h => h) (Or.inl ⟨by rfl, ?_⟩) ?_ ?_
      rotate_left
      ·intro w'
       go_simp
       with_reducible rfl
      rotate_left
      ·simp only [Act.put, sA, sB, sC, i64_w, i32_w]
       rfl
      refine pure_ (i := 4) (N := some 38) (v := undef) (a' := ?_) #[T,T,T,T,T,F,F,F,F,F,F,F,F,F,F,F,F] rfl rfl (any_of HT_.out (by kernel_rfl)) (fun _ _ _ h => h) (Or.inr ⟨by rfl, rfl⟩) ?_ ?_
      rotate_left
      ·simp only [Act.put, sA, sB, sC, i64_w, i32_w]
       rfl
      refine pure_ (i := 5) (N := some 39) (v := undef) (a' := ?_) #[T,T,T,T,T,T,F,F,F,F,F,F,F,F,F,F,F] rfl rfl (any_of HT_.out (by kernel_rfl)) (fun _ _ _ h => h) (Or.inr ⟨by rfl, rfl⟩) ?_ ?_
      rotate_left
      ·simp only [Act.put, sA, sB, sC, i64_w, i32_w]
       rfl
      refine pure_ (i := 6) (N := some 40) (v := undef) (a' := ?_) #[T,T,T,T,T,T,T,F,F,F,F,F,F,F,F,F,F] rfl rfl (any_of HT_.out (by kernel_rfl)) (fun _ _ _ h => h) (Or.inr ⟨by rfl, rfl⟩) ?_ ?_
      rotate_left
      ·simp only [Act.put, sA, sB, sC, i64_w, i32_w]
       rfl
      refine pure_ (i := 7) (N := some 41) (v := ?_) (a' := ?_) #[T,T,T,T,T,T,T,T,F,F,F,F,F,F,F,F,F] rfl rfl (any_of HT_.out (by kernel_rfl)) (fun _ _ _ h => h) (Or.inl ⟨by rfl, ?_⟩) ?_ ?_
      rotate_left
      ·intro w'
       go_simp
       with_reducible rfl
      rotate_left
      ·simp only [Act.put, sA, sB, sC, i64_w, i32_w]
       rfl
      refine pure_ (i := 8) (N := some 42) (v := ?_) (a' := ?_) #[T,T,T,T,T,T,T,T,T,F,F,F,F,F,F,F,F] rfl rfl (any_of HT_.out (by kernel_rfl)) (fun _ _ _ h => h) (Or.inl ⟨by rfl, ?_⟩) ?_ ?_
      rotate_left
      ·intro w'
       go_simp
       with_reducible rfl
      rotate_left
      ·simp only [Act.put, sA, sB, sC, i64_w, i32_w]
       rfl
      refine pure_ (i := 9) (N := some 43) (v := undef) (a' := ?_) #[T,T,T,T,T,T,T,T,T,T,F,F,F,F,F,F,F] rfl rfl (any_of HT_.out (by kernel_rfl)) (fun _ _ _ h => h) (Or.inr ⟨by rfl, rfl⟩) ?_ ?_
      rotate_left
      ·simp only [Act.put, sA, sB, sC, i64_w, i32_w]
       rfl
      refine pure_ (i := 10) (N := some 44) (v := undef) (a' := ?_) #[T,T,T,T,T,T,T,T,T,T,T,F,F,F,F,F,F] rfl rfl (any_of HT_.out (by kernel_rfl)) (fun _ _ _ h => h) (Or.inr ⟨by rfl, rfl⟩) ?_ ?_
      rotate_left
      ·simp only [Act.put, sA, sB, sC, i64_w, i32_w]
       rfl
      refine pure_ (i := 11) (N := some 45) (v := undef) (a' := ?_) #[T,T,T,T,T,T,T,T,T,T,T,T,F,F,F,F,F] rfl rfl (any_of HT_.out (by kernel_rfl)) (fun _ _ _ h => h) (Or.inr ⟨by rfl, rfl⟩) ?_ ?_
      rotate_left
      ·simp only [Act.put, sA, sB, sC, i64_w, i32_w]
       rfl
      refine pure_ (i := 12) (N := some 46) (v := undef) (a' := ?_) #[T,T,T,T,T,T,T,T,T,T,T,T,T,F,F,F,F] rfl rfl (any_of HT_.out (by kernel_rfl)) (fun _ _ _ h => h) (Or.inr ⟨by rfl, rfl⟩) ?_ ?_
      rotate_left
      ·simp only [Act.put, sA, sB, sC, i64_w, i32_w]
       rfl
      refine pure_ (i := 13) (N := some 47) (v := undef) (a' := ?_) #[T,T,T,T,T,T,T,T,T,T,T,T,T,T,F,F,F] rfl rfl (any_of HT_.out (by kernel_rfl)) (fun _ _ _ h => h) (Or.inr ⟨by rfl, rfl⟩) ?_ ?_
      rotate_left
      ·simp only [Act.put, sA, sB, sC, i64_w, i32_w]
       rfl
      refine pure_ (i := 14) (N := some 48) (v := undef) (a' := ?_) #[T,T,T,T,T,T,T,T,T,T,T,T,T,T,T,F,F] rfl rfl (any_of HT_.out (by kernel_rfl)) (fun _ _ _ h => h) (Or.inr ⟨by rfl, rfl⟩) ?_ ?_
      rotate_left
      ·simp only [Act.put, sA, sB, sC, i64_w, i32_w]
       rfl
      refine pure_ (i := 15) (N := some 49) (v := undef) (a' := ?_) #[T,T,T,T,T,T,T,T,T,T,T,T,T,T,T,T,F] rfl rfl (any_of HT_.out (by kernel_rfl)) (fun _ _ _ h => h) (Or.inr ⟨by rfl, rfl⟩) ?_ ?_
      rotate_left
      ·simp only [Act.put, sA, sB, sC, i64_w, i32_w]
       rfl
      refine pure_ (i := 16) (N := some 50) (v := ?_) (a' := ?_) #[T,T,T,T,T,T,T,T,T,T,T,T,T,T,T,T,T] rfl rfl (any_of HT_.out (by kernel_rfl)) (fun _ _ _ h => h) (Or.inl ⟨by rfl, ?_⟩) ?_ ?_
      rotate_left
      ·intro w'
       go_simp
       with_reducible rfl
      rotate_left
      ·simp only [Act.put, sA, sB, sC, i64_w, i32_w]
       rfl
      refine done_ (done_of HT_.out (by kernel_rfl)) ?_
      try go_wp2
      go_meet
      case rel => exact ⟨_, (true), (by first | rfl | (simp; done) | (simp [*]; done)), H', ⟨by have := HJ2.out; first | omega | exact Nat.le_refl _⟩, ⟨by (with_reducible repeat first | apply bN | apply bD | apply bA); exact BK452.out⟩, ⟨by (with_reducible repeat first | apply bN | apply bD | apply bA); exact BK453.out⟩, ⟨by (with_reducible repeat first | apply bN | apply bD | apply bA); exact BK463.out⟩, ⟨by (with_reducible repeat first | apply bN | apply bD | apply bA); exact BK470.out⟩, ⟨by repeat (first | (with_reducible first | exact HB.out | apply lA | apply lN | apply lD | refine lS ?_ GE452.out | refine lS ?_ GE453.out | refine lS ?_ GE463.out | refine lS ?_ GE470.out) | exact HB.out)⟩⟩
     ·rw [if_neg c36] at H
      have c36b0 : ((!(t457 == t464) || (!(t458 == t465))) || ((!(t459 == t466) || (!(t460 == t467))) || (!(t461 == t468)))) = false := by simpa using c36
      clear c36
      (first | rw [c36b0] | (simp only [i64_w, i32_w]; rw [c36b0]) | skip)
      by_cases c39 : (t462 != t469) = true
      ·rw [if_pos c39] at H
       have c39b0 : (t462 != t469) = true := c39
       (try (have c39b1 : decide (t462 = t469) = false := by simpa using c39))
       (try (have c39b2 : (t462 == t469) = false := by simpa using c39))
       (try (have c39b3 : ¬ (t462 = t469) := by simpa using c39))
       clear c39
       have H' := aM H
       clear H
       try go_wp2
       have n0_ : Aside0 ((((((w31.setCell ⟨b470, 0, none⟩ (.int .u32 t464)).setCell ⟨b470, 1, none⟩ (.int .u32 t465)).setCell ⟨b470, 2, none⟩ (.int .i32 t466)).setCell ⟨b470, 3, none⟩ (.int .i32 t467)).setCell ⟨b470, 4, none⟩ (.int .i32 t468)).heap[b452]? = some (.cells #[.int .u32 a0_0, .int .i32 a0_1, .int .i32 a0_2, .int .i32 a0_3, .int .i32 a0_4, .int .i32 a0_5, .int .i32 a0_6, .int .i32 a0_7, .int .i32 a0_8, .int .i32 a0_9] 26 (0, 0))) := ⟨by (with_reducible repeat first | apply bN | apply bD | apply bA); refine bR ?_ N6_.out _; (with_reducible repeat first | apply bN | apply bD | apply bA); refine bR ?_ N6_.out _; (with_reducible repeat first | apply bN | apply bD | apply bA); refine bR ?_ N6_.out _; (with_reducible repeat first | apply bN | apply bD | apply bA); refine bR ?_ N6_.out _; (with_reducible repeat first | apply bN | apply bD | apply bA); refine bR ?_ N6_.out _; (with_reducible repeat first | apply bN | apply bD | apply bA); exact BK452.out⟩
       have n1_ : Aside0 ((((((w31.setCell ⟨b470, 0, none⟩ (.int .u32 t464)).setCell ⟨b470, 1, none⟩ (.int .u32 t465)).setCell ⟨b470, 2, none⟩ (.int .i32 t466)).setCell ⟨b470, 3, none⟩ (.int .i32 t467)).setCell ⟨b470, 4, none⟩ (.int .i32 t468)).heap[b453]? = some (.cells #[.int .u32 a1_0, .int .i32 a1_1, .int .i32 a1_2, .int .i32 a1_3, .int .i32 a1_4, .int .i32 a1_5, .int .i32 a1_6, .int .i32 a1_7, .int .i32 a1_8, .int .i32 a1_9] 26 (0, 0))) := ⟨by (with_reducible repeat first | apply bN | apply bD | apply bA); refine bR ?_ N8_.out _; (with_reducible repeat first | apply bN | apply bD | apply bA); refine bR ?_ N8_.out _; (with_reducible repeat first | apply bN | apply bD | apply bA); refine bR ?_ N8_.out _; (with_reducible repeat first | apply bN | apply bD | apply bA); refine bR ?_ N8_.out _; (with_reducible repeat first | apply bN | apply bD | apply bA); refine bR ?_ N8_.out _; (with_reducible repeat first | apply bN | apply bD | apply bA); exact BK453.out⟩
       have n2_ : Aside0 ((((((w31.setCell ⟨b470, 0, none⟩ (.int .u32 t464)).setCell ⟨b470, 1, none⟩ (.int .u32 t465)).setCell ⟨b470, 2, none⟩ (.int .i32 t466)).setCell ⟨b470, 3, none⟩ (.int .i32 t467)).setCell ⟨b470, 4, none⟩ (.int .i32 t468)).heap[b463]? = some (.cells #[.int .u32 t457, .int .u32 t458, .int .i32 t459, .int .i32 t460, .int .i32 t461] 32 (0, 0))) := ⟨by (with_reducible repeat first | apply bN | apply bD | apply bA); refine bR ?_ N10_.out _; (with_reducible repeat first | apply bN | apply bD | apply bA); refine bR ?_ N10_.out _; (with_reducible repeat first | apply bN | apply bD | apply bA); refine bR ?_ N10_.out _; (with_reducible repeat first | apply bN | apply bD | apply bA); refine bR ?_ N10_.out _; (with_reducible repeat first | apply bN | apply bD | apply bA); refine bR ?_ N10_.out _; (with_reducible repeat first | apply bN | apply bD | apply bA); exact BK463.out⟩
       have n3_ : Aside0 ((((((w31.setCell ⟨b470, 0, none⟩ (.int .u32 t464)).setCell ⟨b470, 1, none⟩ (.int .u32 t465)).setCell ⟨b470, 2, none⟩ (.int .i32 t466)).setCell ⟨b470, 3, none⟩ (.int .i32 t467)).setCell ⟨b470, 4, none⟩ (.int .i32 t468)).heap[b470]? = some (.cells #[.int .u32 t464, .int .u32 t465, .int .i32 t466, .int .i32 t467, .int .i32 t468] 32 (0, 0))) := ⟨by (with_reducible repeat first | apply bN | apply bD | apply bA); refine bP (cs := #[.int .u32 t464, .int .u32 t465, .int .i32 t466, .int .i32 t467, .int .i32 0]) ?_ 4 _ rfl; (with_reducible repeat first | apply bN | apply bD | apply bA); refine bP (cs := #[.int .u32 t464, .int .u32 t465, .int .i32 t466, .int .i32 0, .int .i32 0]) ?_ 3 _ rfl; (with_reducible repeat first | apply bN | apply bD | apply bA); refine bP (cs := #[.int .u32 t464, .int .u32 t465, .int .i32 0, .int .i32 0, .int .i32 0]) ?_ 2 _ rfl; (with_reducible repeat first | apply bN | apply bD | apply bA); refine bP (cs := #[.int .u32 t464, .int .u32 0, .int .i32 0, .int .i32 0, .int .i32 0]) ?_ 1 _ rfl; (with_reducible repeat first | apply bN | apply bD | apply bA); refine bP (cs := #[.int .u32 0, .int .u32 0, .int .i32 0, .int .i32 0, .int .i32 0]) ?_ 0 _ rfl; (with_reducible repeat first | apply bN | apply bD | apply bA); exact BK470.out⟩
       have n4_ : Aside0 (Below w.heap.size w (((((w31.setCell ⟨b470, 0, none⟩ (.int .u32 t464)).setCell ⟨b470, 1, none⟩ (.int .u32 t465)).setCell ⟨b470, 2, none⟩ (.int .i32 t466)).setCell ⟨b470, 3, none⟩ (.int .i32 t467)).setCell ⟨b470, 4, none⟩ (.int .i32 t468))) := ⟨by repeat (first | (with_reducible first | exact HB.out | apply lA | apply lN | apply lD | refine lS ?_ GE452.out | refine lS ?_ GE453.out | refine lS ?_ GE463.out | refine lS ?_ GE470.out) | exact HB.out)⟩
       (try clear BK452)
       (try clear BK453)
       (try clear BK463)
       (try clear BK470)
       (try clear HB)
       generalize (((((w31.setCell ⟨b470, 0, none⟩ (.int .u32 t464)).setCell ⟨b470, 1, none⟩ (.int .u32 t465)).setCell ⟨b470, 2, none⟩ (.int .i32 t466)).setCell ⟨b470, 3, none⟩ (.int .i32 t467)).setCell ⟨b470, 4, none⟩ (.int .i32 t468)) = w40 at n0_ n1_ n2_ n3_ n4_ ⊢
       have BK452 := n0_
       have BK453 := n1_
       have BK463 := n2_
       have BK470 := n3_
       have HB := n4_
       clear n0_ n1_ n2_ n3_ n4_
       have n0_ := aM (bD BK452.out)
       have n1_ := aM (bD BK453.out)
       have n2_ := aM (bD BK463.out)
       have n3_ := aM (bD BK470.out)
       have n4_ := aM (lD HB.out)
       clear BK452
       clear BK453
       clear BK463
       clear BK470
       clear HB
       have BK452 := n0_
       have BK453 := n1_
       have BK463 := n2_
       have BK470 := n3_
       have HB := n4_
       clear n0_ n1_ n2_ n3_ n4_
       refine start_ (n := 17) (S := fun w' => w'.cell? ⟨b463, 0, none⟩ = some (.int .u32 t457) ∧ w'.cell? ⟨b463, 1, none⟩ = some (.int .u32 t458) ∧ w'.cell? ⟨b463, 2, none⟩ = some (.int .i32 t459) ∧ w'.cell? ⟨b463, 3, none⟩ = some (.int .i32 t460) ∧ w'.cell? ⟨b463, 4, none⟩ = some (.int .i32 t461) ∧ w'.cell? ⟨b470, 0, none⟩ = some (.int .u32 t464) ∧ w'.cell? ⟨b470, 1, none⟩ = some (.int .u32 t465) ∧ w'.cell? ⟨b470, 2, none⟩ = some (.int .i32 t466) ∧ w'.cell? ⟨b470, 3, none⟩ = some (.int .i32 t467) ∧ w'.cell? ⟨b470, 4, none⟩ = some (.int .i32 t468)) (ds := []) #[F,F,F,F,F,F,F,F,F,F,F,F,F,F,F,F,F] (by kernel_rfl) rfl rfl ⟨(bC BK463.out 0).trans rfl, (bC BK463.out 1).trans rfl, (bC BK463.out 2).trans rfl, (bC BK463.out 3).trans rfl, (bC BK463.out 4).trans rfl, (bC BK470.out 0).trans rfl, (bC BK470.out 1).trans rfl, (bC BK470.out 2).trans rfl, (bC BK470.out 3).trans rfl, (bC BK470.out 4).trans rfl⟩ (fun hHeld => ?_); refine with_tabW billiardlaw14_ContactSymmetric.tab5 billiardlaw14_ContactSymmetric.bits5 (fun HT_ HW_ => ?_)
       generalize w40.drew = w41 at BK452 BK453 BK463 BK470 HB hHeld ⊢
       refine take_ (i := 0) (N := some 34) (v := ?_) (a' := ?_) #[T,F,F,F,F,F,F,F,F,F,F,F,F,F,F,F,F] rfl rfl (take_ofW HT_.out HW_.out (by kernel_rfl)) (fun _ _ _ h => h) (Or.inl ⟨by rfl, ?_⟩) hHeld ?_ ?_
       rotate_left
       ·rintro w' ⟨s0, s1, s2, s3, s4, s5, s6, s7, s8, s9⟩
        go_simp
        with_reducible rfl
       rotate_left
       ·simp only [Act.put, sA, sB, sC, i64_w, i32_w]
        rfl
       refine take_ (i := 1) (N := some 35) (v := ?_) (a' := ?_) #[T,T,F,F,F,F,F,F,F,F,F,F,F,F,F,F,F] rfl rfl (take_ofW HT_.out HW_.out (by kernel_rfl)) (fun _ _ _ h => h) (Or.inl ⟨by rfl, ?_⟩) hHeld ?_ ?_
       rotate_left
       ·rintro w' ⟨s0, s1, s2, s3, s4, s5, s6, s7, s8, s9⟩
        go_simp
        with_reducible rfl
       rotate_left
       ·simp only [Act.put, sA, sB, sC, i64_w, i32_w]
        rfl
       refine pure_ (i := 2) (N := some 36) (v := ?_) (a' := ?_) #[T,T,T,F,F,F,F,F,F,F,F,F,F,F,F,F,F] rfl rfl (any_of HT_.out (by kernel_rfl)) (fun _ _ _ h => h) (Or.inl ⟨by rfl, ?_⟩) ?_ ?_
       rotate_left
       ·intro w'
        go_simp
        with_reducible rfl
       rotate_left
       ·simp only [Act.put, sA, sB, sC, i64_w, i32_w]
        rfl
       refine pure_ (i := 3) (N := some 37) (v := ?_) (a' := ?_) #[T,T,T,T,F,F,F,F,F,F,F,F,F,F,F,F,F] rfl rfl (any_of HT_.out (by kernel_rfl)) (fun _ _ _ h => h) (Or.inl ⟨by rfl, ?_⟩) ?_ ?_
       rotate_left
       ·intro w'
        go_simp
        with_reducible rfl
       rotate_left
       ·simp only [Act.put, sA, sB, sC, i64_w, i32_w]
        rfl
       refine pure_ (i := 4) (N := some 38) (v := ?_) (a' := ?_) #[T,T,T,T,T,F,F,F,F,F,F,F,F,F,F,F,F] rfl rfl (any_of HT_.out (by kernel_rfl)) (fun _ _ _ h => h) (Or.inl ⟨by rfl, ?_⟩) ?_ ?_
       rotate_left
       ·intro w'
        go_simp
        with_reducible rfl
       rotate_left
       ·simp only [Act.put, sA, sB, sC, i64_w, i32_w]
        rfl
       refine pure_ (i := 5) (N := some 39) (v := ?_) (a' := ?_) #[T,T,T,T,T,T,F,F,F,F,F,F,F,F,F,F,F] rfl rfl (any_of HT_.out (by kernel_rfl)) (fun _ _ _ h => h) (Or.inl ⟨by rfl, ?_⟩) ?_ ?_
       rotate_left
       ·intro w'
        go_simp
        with_reducible rfl
       rotate_left
       ·simp only [Act.put, sA, sB, sC, i64_w, i32_w]
        rfl
       refine pure_ (i := 6) (N := some 40) (v := ?_) (a' := ?_) #[T,T,T,T,T,T,T,F,F,F,F,F,F,F,F,F,F] rfl rfl (any_of HT_.out (by kernel_rfl)) (fun _ _ _ h => h) (Or.inl ⟨by rfl, ?_⟩) ?_ ?_
       rotate_left
       ·intro w'
        go_simp
        with_reducible rfl
       rotate_left
       ·simp only [Act.put, sA, sB, sC, i64_w, i32_w]
        rfl
       refine pure_ (i := 7) (N := some 41) (v := ?_) (a' := ?_) #[T,T,T,T,T,T,T,T,F,F,F,F,F,F,F,F,F] rfl rfl (any_of HT_.out (by kernel_rfl)) (fun _ _ _ h => h) (Or.inl ⟨by rfl, ?_⟩) ?_ ?_
       rotate_left
       ·intro w'
        go_simp
        with_reducible rfl
       rotate_left
       ·simp only [Act.put, sA, sB, sC, i64_w, i32_w]
        rfl
       refine pure_ (i := 8) (N := some 42) (v := ?_) (a' := ?_) #[T,T,T,T,T,T,T,T,T,F,F,F,F,F,F,F,F] rfl rfl (any_of HT_.out (by kernel_rfl)) (fun _ _ _ h => h) (Or.inl ⟨by rfl, ?_⟩) ?_ ?_
       rotate_left
       ·intro w'
        go_simp
        with_reducible rfl
       rotate_left
       ·simp only [Act.put, sA, sB, sC, i64_w, i32_w]
        rfl
       refine pure_ (i := 9) (N := some 43) (v := undef) (a' := ?_) #[T,T,T,T,T,T,T,T,T,T,F,F,F,F,F,F,F] rfl rfl (any_of HT_.out (by kernel_rfl)) (fun _ _ _ h => h) (Or.inr ⟨by rfl, rfl⟩) ?_ ?_
       rotate_left
       ·simp only [Act.put, sA, sB, sC, i64_w, i32_w]
        rfl
       refine pure_ (i := 10) (N := some 44) (v := undef) (a' := ?_) #[T,T,T,T,T,T,T,T,T,T,T,F,F,F,F,F,F] rfl rfl (any_of HT_.out (by kernel_rfl)) (fun _ _ _ h => h) (Or.inr ⟨by rfl, rfl⟩) ?_ ?_
       rotate_left
       ·simp only [Act.put, sA, sB, sC, i64_w, i32_w]
        rfl
       refine pure_ (i := 11) (N := some 45) (v := undef) (a' := ?_) #[T,T,T,T,T,T,T,T,T,T,T,T,F,F,F,F,F] rfl rfl (any_of HT_.out (by kernel_rfl)) (fun _ _ _ h => h) (Or.inr ⟨by rfl, rfl⟩) ?_ ?_
       rotate_left
       ·simp only [Act.put, sA, sB, sC, i64_w, i32_w]
        rfl
       refine pure_ (i := 12) (N := some 46) (v := undef) (a' := ?_) #[T,T,T,T,T,T,T,T,T,T,T,T,T,F,F,F,F] rfl rfl (any_of HT_.out (by kernel_rfl)) (fun _ _ _ h => h) (Or.inr ⟨by rfl, rfl⟩) ?_ ?_
       rotate_left
       ·simp only [Act.put, sA, sB, sC, i64_w, i32_w]
        rfl
       refine pure_ (i := 13) (N := some 47) (v := undef) (a' := ?_) #[T,T,T,T,T,T,T,T,T,T,T,T,T,T,F,F,F] rfl rfl (any_of HT_.out (by kernel_rfl)) (fun _ _ _ h => h) (Or.inr ⟨by rfl, rfl⟩) ?_ ?_
       rotate_left
       ·simp only [Act.put, sA, sB, sC, i64_w, i32_w]
        rfl
       refine pure_ (i := 14) (N := some 48) (v := undef) (a' := ?_) #[T,T,T,T,T,T,T,T,T,T,T,T,T,T,T,F,F] rfl rfl (any_of HT_.out (by kernel_rfl)) (fun _ _ _ h => h) (Or.inr ⟨by rfl, rfl⟩) ?_ ?_
       rotate_left
       ·simp only [Act.put, sA, sB, sC, i64_w, i32_w]
        rfl
       refine pure_ (i := 15) (N := some 49) (v := undef) (a' := ?_) #[T,T,T,T,T,T,T,T,T,T,T,T,T,T,T,T,F] rfl rfl (any_of HT_.out (by kernel_rfl)) (fun _ _ _ h => h) (Or.inr ⟨by rfl, rfl⟩) ?_ ?_
       rotate_left
       ·simp only [Act.put, sA, sB, sC, i64_w, i32_w]
        rfl
       refine pure_ (i := 16) (N := some 50) (v := ?_) (a' := ?_) #[T,T,T,T,T,T,T,T,T,T,T,T,T,T,T,T,T] rfl rfl (any_of HT_.out (by kernel_rfl)) (fun _ _ _ h => h) (Or.inl ⟨by rfl, ?_⟩) ?_ ?_
       rotate_left
       ·intro w'
        go_simp
        with_reducible rfl
       rotate_left
       ·simp only [Act.put, sA, sB, sC, i64_w, i32_w]
        rfl
       refine done_ (done_of HT_.out (by kernel_rfl)) ?_
       try go_wp2
       go_meet
       case rel => exact ⟨_, (true), (by first | rfl | (simp; done) | (simp [*]; done)), H', ⟨by have := HJ2.out; first | omega | exact Nat.le_refl _⟩, ⟨by (with_reducible repeat first | apply bN | apply bD | apply bA); exact BK452.out⟩, ⟨by (with_reducible repeat first | apply bN | apply bD | apply bA); exact BK453.out⟩, ⟨by (with_reducible repeat first | apply bN | apply bD | apply bA); exact BK463.out⟩, ⟨by (with_reducible repeat first | apply bN | apply bD | apply bA); exact BK470.out⟩, ⟨by repeat (first | (with_reducible first | exact HB.out | apply lA | apply lN | apply lD | refine lS ?_ GE452.out | refine lS ?_ GE453.out | refine lS ?_ GE463.out | refine lS ?_ GE470.out) | exact HB.out)⟩⟩
      ·rw [if_neg c39] at H
       have c39b0 : (t462 != t469) = false := by simpa using c39
       (try (have c39b1 : decide (t462 = t469) = true := by simpa using c39))
       (try (have c39b2 : (t462 == t469) = true := by simpa using c39))
       clear c39
       replace H := Option.bind_eq_some_iff.mp H
       obtain ⟨t471, A420, H⟩ := H
       replace H : ((contact_Gap.f kj2 a1_0 a1_1 a1_2 a1_3 a1_4 a1_5 a1_6 a1_7 a1_8 a1_9 a0_0 a0_1 a0_2 a0_3 a0_4 a0_5 a0_6 a0_7 a0_8 a0_9).bind fun t472 => (billiardlaw14_ContactSymmetric.j1 kj2 t462 (t471 != t472) a0_0 a0_1 a0_2 a0_3 a0_4 a0_5 a0_6 a0_7 a0_8 a0_9 a1_0 a1_1 a1_2 a1_3 a1_4 a1_5 a1_6 a1_7 a1_8 a1_9 t457 t458 t459 t460 t461)) = some r := H
       have A42 := aM A420
       clear A420
       replace H := Option.bind_eq_some_iff.mp H
       obtain ⟨t472, A430, H⟩ := H
       replace H : (billiardlaw14_ContactSymmetric.j1 kj2 t462 (t471 != t472) a0_0 a0_1 a0_2 a0_3 a0_4 a0_5 a0_6 a0_7 a0_8 a0_9 a1_0 a1_1 a1_2 a1_3 a1_4 a1_5 a1_6 a1_7 a1_8 a1_9 t457 t458 t459 t460 t461) = some r := H
       have A43 := aM A430
       clear A430
       have H' := aM H
       clear H
       try go_wp2
       have n0_ : Aside0 ((((((w31.setCell ⟨b470, 0, none⟩ (.int .u32 t464)).setCell ⟨b470, 1, none⟩ (.int .u32 t465)).setCell ⟨b470, 2, none⟩ (.int .i32 t466)).setCell ⟨b470, 3, none⟩ (.int .i32 t467)).setCell ⟨b470, 4, none⟩ (.int .i32 t468)).heap[b452]? = some (.cells #[.int .u32 a0_0, .int .i32 a0_1, .int .i32 a0_2, .int .i32 a0_3, .int .i32 a0_4, .int .i32 a0_5, .int .i32 a0_6, .int .i32 a0_7, .int .i32 a0_8, .int .i32 a0_9] 26 (0, 0))) := ⟨by (with_reducible repeat first | apply bN | apply bD | apply bA); refine bR ?_ N6_.out _; (with_reducible repeat first | apply bN | apply bD | apply bA); refine bR ?_ N6_.out _; (with_reducible repeat first | apply bN | apply bD | apply bA); refine bR ?_ N6_.out _; (with_reducible repeat first | apply bN | apply bD | apply bA); refine bR ?_ N6_.out _; (with_reducible repeat first | apply bN | apply bD | apply bA); refine bR ?_ N6_.out _; (with_reducible repeat first | apply bN | apply bD | apply bA); exact BK452.out⟩
       have n1_ : Aside0 ((((((w31.setCell ⟨b470, 0, none⟩ (.int .u32 t464)).setCell ⟨b470, 1, none⟩ (.int .u32 t465)).setCell ⟨b470, 2, none⟩ (.int .i32 t466)).setCell ⟨b470, 3, none⟩ (.int .i32 t467)).setCell ⟨b470, 4, none⟩ (.int .i32 t468)).heap[b453]? = some (.cells #[.int .u32 a1_0, .int .i32 a1_1, .int .i32 a1_2, .int .i32 a1_3, .int .i32 a1_4, .int .i32 a1_5, .int .i32 a1_6, .int .i32 a1_7, .int .i32 a1_8, .int .i32 a1_9] 26 (0, 0))) := ⟨by (with_reducible repeat first | apply bN | apply bD | apply bA); refine bR ?_ N8_.out _; (with_reducible repeat first | apply bN | apply bD | apply bA); refine bR ?_ N8_.out _; (with_reducible repeat first | apply bN | apply bD | apply bA); refine bR ?_ N8_.out _; (with_reducible repeat first | apply bN | apply bD | apply bA); refine bR ?_ N8_.out _; (with_reducible repeat first | apply bN | apply bD | apply bA); refine bR ?_ N8_.out _; (with_reducible repeat first | apply bN | apply bD | apply bA); exact BK453.out⟩
       have n2_ : Aside0 ((((((w31.setCell ⟨b470, 0, none⟩ (.int .u32 t464)).setCell ⟨b470, 1, none⟩ (.int .u32 t465)).setCell ⟨b470, 2, none⟩ (.int .i32 t466)).setCell ⟨b470, 3, none⟩ (.int .i32 t467)).setCell ⟨b470, 4, none⟩ (.int .i32 t468)).heap[b463]? = some (.cells #[.int .u32 t457, .int .u32 t458, .int .i32 t459, .int .i32 t460, .int .i32 t461] 32 (0, 0))) := ⟨by (with_reducible repeat first | apply bN | apply bD | apply bA); refine bR ?_ N10_.out _; (with_reducible repeat first | apply bN | apply bD | apply bA); refine bR ?_ N10_.out _; (with_reducible repeat first | apply bN | apply bD | apply bA); refine bR ?_ N10_.out _; (with_reducible repeat first | apply bN | apply bD | apply bA); refine bR ?_ N10_.out _; (with_reducible repeat first | apply bN | apply bD | apply bA); refine bR ?_ N10_.out _; (with_reducible repeat first | apply bN | apply bD | apply bA); exact BK463.out⟩
       have n3_ : Aside0 ((((((w31.setCell ⟨b470, 0, none⟩ (.int .u32 t464)).setCell ⟨b470, 1, none⟩ (.int .u32 t465)).setCell ⟨b470, 2, none⟩ (.int .i32 t466)).setCell ⟨b470, 3, none⟩ (.int .i32 t467)).setCell ⟨b470, 4, none⟩ (.int .i32 t468)).heap[b470]? = some (.cells #[.int .u32 t464, .int .u32 t465, .int .i32 t466, .int .i32 t467, .int .i32 t468] 32 (0, 0))) := ⟨by (with_reducible repeat first | apply bN | apply bD | apply bA); refine bP (cs := #[.int .u32 t464, .int .u32 t465, .int .i32 t466, .int .i32 t467, .int .i32 0]) ?_ 4 _ rfl; (with_reducible repeat first | apply bN | apply bD | apply bA); refine bP (cs := #[.int .u32 t464, .int .u32 t465, .int .i32 t466, .int .i32 0, .int .i32 0]) ?_ 3 _ rfl; (with_reducible repeat first | apply bN | apply bD | apply bA); refine bP (cs := #[.int .u32 t464, .int .u32 t465, .int .i32 0, .int .i32 0, .int .i32 0]) ?_ 2 _ rfl; (with_reducible repeat first | apply bN | apply bD | apply bA); refine bP (cs := #[.int .u32 t464, .int .u32 0, .int .i32 0, .int .i32 0, .int .i32 0]) ?_ 1 _ rfl; (with_reducible repeat first | apply bN | apply bD | apply bA); refine bP (cs := #[.int .u32 0, .int .u32 0, .int .i32 0, .int .i32 0, .int .i32 0]) ?_ 0 _ rfl; (with_reducible repeat first | apply bN | apply bD | apply bA); exact BK470.out⟩
       have n4_ : Aside0 (Below w.heap.size w (((((w31.setCell ⟨b470, 0, none⟩ (.int .u32 t464)).setCell ⟨b470, 1, none⟩ (.int .u32 t465)).setCell ⟨b470, 2, none⟩ (.int .i32 t466)).setCell ⟨b470, 3, none⟩ (.int .i32 t467)).setCell ⟨b470, 4, none⟩ (.int .i32 t468))) := ⟨by repeat (first | (with_reducible first | exact HB.out | apply lA | apply lN | apply lD | refine lS ?_ GE452.out | refine lS ?_ GE453.out | refine lS ?_ GE463.out | refine lS ?_ GE470.out) | exact HB.out)⟩
       (try clear BK452)
       (try clear BK453)
       (try clear BK463)
       (try clear BK470)
       (try clear HB)
       generalize (((((w31.setCell ⟨b470, 0, none⟩ (.int .u32 t464)).setCell ⟨b470, 1, none⟩ (.int .u32 t465)).setCell ⟨b470, 2, none⟩ (.int .i32 t466)).setCell ⟨b470, 3, none⟩ (.int .i32 t467)).setCell ⟨b470, 4, none⟩ (.int .i32 t468)) = w44 at n0_ n1_ n2_ n3_ n4_ ⊢
       have BK452 := n0_
       have BK453 := n1_
       have BK463 := n2_
       have BK470 := n3_
       have HB := n4_
       clear n0_ n1_ n2_ n3_ n4_
       have n0_ := aM (bD BK452.out)
       have n1_ := aM (bD BK453.out)
       have n2_ := aM (bD BK463.out)
       have n3_ := aM (bD BK470.out)
       have n4_ := aM (lD HB.out)
       clear BK452
       clear BK453
       clear BK463
       clear BK470
       clear HB
       have BK452 := n0_
       have BK453 := n1_
       have BK463 := n2_
       have BK470 := n3_
       have HB := n4_
       clear n0_ n1_ n2_ n3_ n4_
       refine start_ (n := 17) (S := fun w' => w'.cell? ⟨b463, 0, none⟩ = some (.int .u32 t457) ∧ w'.cell? ⟨b463, 1, none⟩ = some (.int .u32 t458) ∧ w'.cell? ⟨b463, 2, none⟩ = some (.int .i32 t459) ∧ w'.cell? ⟨b463, 3, none⟩ = some (.int .i32 t460) ∧ w'.cell? ⟨b463, 4, none⟩ = some (.int .i32 t461) ∧ w'.cell? ⟨b470, 0, none⟩ = some (.int .u32 t464) ∧ w'.cell? ⟨b470, 1, none⟩ = some (.int .u32 t465) ∧ w'.cell? ⟨b470, 2, none⟩ = some (.int .i32 t466) ∧ w'.cell? ⟨b470, 3, none⟩ = some (.int .i32 t467) ∧ w'.cell? ⟨b470, 4, none⟩ = some (.int .i32 t468) ∧ w'.cell? ⟨b452, 0, none⟩ = some (.int .u32 a0_0) ∧ w'.cell? ⟨b452, 1, none⟩ = some (.int .i32 a0_1) ∧ w'.cell? ⟨b452, 2, none⟩ = some (.int .i32 a0_2) ∧ w'.cell? ⟨b452, 3, none⟩ = some (.int .i32 a0_3) ∧ w'.cell? ⟨b452, 4, none⟩ = some (.int .i32 a0_4) ∧ w'.cell? ⟨b452, 5, none⟩ = some (.int .i32 a0_5) ∧ w'.cell? ⟨b452, 6, none⟩ = some (.int .i32 a0_6) ∧ w'.cell? ⟨b452, 7, none⟩ = some (.int .i32 a0_7) ∧ w'.cell? ⟨b452, 8, none⟩ = some (.int .i32 a0_8) ∧ w'.cell? ⟨b452, 9, none⟩ = some (.int .i32 a0_9) ∧ w'.cell? ⟨b453, 0, none⟩ = some (.int .u32 a1_0) ∧ w'.cell? ⟨b453, 1, none⟩ = some (.int .i32 a1_1) ∧ w'.cell? ⟨b453, 2, none⟩ = some (.int .i32 a1_2) ∧ w'.cell? ⟨b453, 3, none⟩ = some (.int .i32 a1_3) ∧ w'.cell? ⟨b453, 4, none⟩ = some (.int .i32 a1_4) ∧ w'.cell? ⟨b453, 5, none⟩ = some (.int .i32 a1_5) ∧ w'.cell? ⟨b453, 6, none⟩ = some (.int .i32 a1_6) ∧ w'.cell? ⟨b453, 7, none⟩ = some (.int .i32 a1_7) ∧ w'.cell? ⟨b453, 8, none⟩ = some (.int .i32 a1_8) ∧ w'.cell? ⟨b453, 9, none⟩ = some (.int .i32 a1_9)) (ds := []) #[F,F,F,F,F,F,F,F,F,F,F,F,F,F,F,F,F] (by kernel_rfl) rfl rfl ⟨(bC BK463.out 0).trans rfl, (bC BK463.out 1).trans rfl, (bC BK463.out 2).trans rfl, (bC BK463.out 3).trans rfl, (bC BK463.out 4).trans rfl, (bC BK470.out 0).trans rfl, (bC BK470.out 1).trans rfl, (bC BK470.out 2).trans rfl, (bC BK470.out 3).trans rfl, (bC BK470.out 4).trans rfl, (bC BK452.out 0).trans rfl, (bC BK452.out 1).trans rfl, (bC BK452.out 2).trans rfl, (bC BK452.out 3).trans rfl, (bC BK452.out 4).trans rfl, (bC BK452.out 5).trans rfl, (bC BK452.out 6).trans rfl, (bC BK452.out 7).trans rfl, (bC BK452.out 8).trans rfl, (bC BK452.out 9).trans rfl, (bC BK453.out 0).trans rfl, (bC BK453.out 1).trans rfl, (bC BK453.out 2).trans rfl, (bC BK453.out 3).trans rfl, (bC BK453.out 4).trans rfl, (bC BK453.out 5).trans rfl, (bC BK453.out 6).trans rfl, (bC BK453.out 7).trans rfl, (bC BK453.out 8).trans rfl, (bC BK453.out 9).trans rfl⟩ (fun hHeld => ?_); refine with_tabW billiardlaw14_ContactSymmetric.tab5 billiardlaw14_ContactSymmetric.bits5 (fun HT_ HW_ => ?_)
       generalize w44.drew = w45 at BK452 BK453 BK463 BK470 HB hHeld ⊢
       refine take_ (i := 0) (N := some 34) (v := ?_) (a' := ?_) #[T,F,F,F,F,F,F,F,F,F,F,F,F,F,F,F,F] rfl rfl (take_ofW HT_.out HW_.out (by kernel_rfl)) (fun _ _ _ h => h) (Or.inl ⟨by rfl, ?_⟩) hHeld ?_ ?_
       rotate_left
       ·rintro w' ⟨s0, s1, s2, s3, s4, s5, s6, s7, s8, s9, s10, s11, s12, s13, s14, s15, s16, s17, s18, s19, s20, s21, s22, s23, s24, s25, s26, s27, s28, s29⟩
        go_simp
        with_reducible rfl
       rotate_left
       ·simp only [Act.put, sA, sB, sC, i64_w, i32_w]
        rfl
       refine take_ (i := 1) (N := some 35) (v := ?_) (a' := ?_) #[T,T,F,F,F,F,F,F,F,F,F,F,F,F,F,F,F] rfl rfl (take_ofW HT_.out HW_.out (by kernel_rfl)) (fun _ _ _ h => h) (Or.inl ⟨by rfl, ?_⟩) hHeld ?_ ?_
       rotate_left
       ·rintro w' ⟨s0, s1, s2, s3, s4, s5, s6, s7, s8, s9, s10, s11, s12, s13, s14, s15, s16, s17, s18, s19, s20, s21, s22, s23, s24, s25, s26, s27, s28, s29⟩
        go_simp
        with_reducible rfl
       rotate_left
       ·simp only [Act.put, sA, sB, sC, i64_w, i32_w]
        rfl
       refine pure_ (i := 2) (N := some 36) (v := ?_) (a' := ?_) #[T,T,T,F,F,F,F,F,F,F,F,F,F,F,F,F,F] rfl rfl (any_of HT_.out (by kernel_rfl)) (fun _ _ _ h => h) (Or.inl ⟨by rfl, ?_⟩) ?_ ?_
       rotate_left
       ·intro w'
        go_simp
        with_reducible rfl
       rotate_left
       ·simp only [Act.put, sA, sB, sC, i64_w, i32_w]
        rfl
       refine pure_ (i := 3) (N := some 37) (v := ?_) (a' := ?_) #[T,T,T,T,F,F,F,F,F,F,F,F,F,F,F,F,F] rfl rfl (any_of HT_.out (by kernel_rfl)) (fun _ _ _ h => h) (Or.inl ⟨by rfl, ?_⟩) ?_ ?_
       rotate_left
       ·intro w'
        go_simp
        with_reducible rfl
       rotate_left
       ·simp only [Act.put, sA, sB, sC, i64_w, i32_w]
        rfl
       refine pure_ (i := 4) (N := some 38) (v := ?_) (a' := ?_) #[T,T,T,T,T,F,F,F,F,F,F,F,F,F,F,F,F] rfl rfl (any_of HT_.out (by kernel_rfl)) (fun _ _ _ h => h) (Or.inl ⟨by rfl, ?_⟩) ?_ ?_
       rotate_left
       ·intro w'
        go_simp
        with_reducible rfl
       rotate_left
       ·simp only [Act.put, sA, sB, sC, i64_w, i32_w]
        rfl
       refine pure_ (i := 5) (N := some 39) (v := ?_) (a' := ?_) #[T,T,T,T,T,T,F,F,F,F,F,F,F,F,F,F,F] rfl rfl (any_of HT_.out (by kernel_rfl)) (fun _ _ _ h => h) (Or.inl ⟨by rfl, ?_⟩) ?_ ?_
       rotate_left
       ·intro w'
        go_simp
        with_reducible rfl
       rotate_left
       ·simp only [Act.put, sA, sB, sC, i64_w, i32_w]
        rfl
       refine pure_ (i := 6) (N := some 40) (v := ?_) (a' := ?_) #[T,T,T,T,T,T,T,F,F,F,F,F,F,F,F,F,F] rfl rfl (any_of HT_.out (by kernel_rfl)) (fun _ _ _ h => h) (Or.inl ⟨by rfl, ?_⟩) ?_ ?_
       rotate_left
       ·intro w'
        go_simp
        with_reducible rfl
       rotate_left
       ·simp only [Act.put, sA, sB, sC, i64_w, i32_w]
        rfl
       refine pure_ (i := 7) (N := some 41) (v := ?_) (a' := ?_) #[T,T,T,T,T,T,T,T,F,F,F,F,F,F,F,F,F] rfl rfl (any_of HT_.out (by kernel_rfl)) (fun _ _ _ h => h) (Or.inl ⟨by rfl, ?_⟩) ?_ ?_
       rotate_left
       ·intro w'
        go_simp
        with_reducible rfl
       rotate_left
       ·simp only [Act.put, sA, sB, sC, i64_w, i32_w]
        rfl
       refine pure_ (i := 8) (N := some 42) (v := ?_) (a' := ?_) #[T,T,T,T,T,T,T,T,T,F,F,F,F,F,F,F,F] rfl rfl (any_of HT_.out (by kernel_rfl)) (fun _ _ _ h => h) (Or.inl ⟨by rfl, ?_⟩) ?_ ?_
       rotate_left
       ·intro w'
        go_simp
        with_reducible rfl
       rotate_left
       ·simp only [Act.put, sA, sB, sC, i64_w, i32_w]
        rfl
       refine take_ (i := 9) (N := some 43) (v := ?_) (a' := ?_) #[T,T,T,T,T,T,T,T,T,T,F,F,F,F,F,F,F] rfl rfl (take_ofW HT_.out HW_.out (by kernel_rfl)) (fun _ _ _ h => h) (Or.inl ⟨by rfl, ?_⟩) hHeld ?_ ?_
       rotate_left
       ·rintro w' ⟨s0, s1, s2, s3, s4, s5, s6, s7, s8, s9, s10, s11, s12, s13, s14, s15, s16, s17, s18, s19, s20, s21, s22, s23, s24, s25, s26, s27, s28, s29⟩
        go_simp
        with_reducible rfl
       rotate_left
       ·simp only [Act.put, sA, sB, sC, i64_w, i32_w]
        rfl
       refine take_ (i := 10) (N := some 44) (v := ?_) (a' := ?_) #[T,T,T,T,T,T,T,T,T,T,T,F,F,F,F,F,F] rfl rfl (take_ofW HT_.out HW_.out (by kernel_rfl)) (fun _ _ _ h => h) (Or.inl ⟨by rfl, ?_⟩) hHeld ?_ ?_
       rotate_left
       ·rintro w' ⟨s0, s1, s2, s3, s4, s5, s6, s7, s8, s9, s10, s11, s12, s13, s14, s15, s16, s17, s18, s19, s20, s21, s22, s23, s24, s25, s26, s27, s28, s29⟩
        go_simp
        with_reducible rfl
       rotate_left
       ·simp only [Act.put, sA, sB, sC, i64_w, i32_w]
        rfl
       refine take_ (i := 12) (N := some 46) (v := ?_) (a' := ?_) #[T,T,T,T,T,T,T,T,T,T,T,F,T,F,F,F,F] rfl rfl (take_ofW HT_.out HW_.out (by kernel_rfl)) (fun _ _ _ h => h) (Or.inl ⟨by rfl, ?_⟩) hHeld ?_ ?_
       rotate_left
       ·rintro w' ⟨s0, s1, s2, s3, s4, s5, s6, s7, s8, s9, s10, s11, s12, s13, s14, s15, s16, s17, s18, s19, s20, s21, s22, s23, s24, s25, s26, s27, s28, s29⟩
        go_simp
        with_reducible rfl
       rotate_left
       ·simp only [Act.put, sA, sB, sC, i64_w, i32_w]
        rfl
       refine take_ (i := 13) (N := some 47) (v := ?_) (a' := ?_) #[T,T,T,T,T,T,T,T,T,T,T,F,T,T,F,F,F] rfl rfl (take_ofW HT_.out HW_.out (by kernel_rfl)) (fun _ _ _ h => h) (Or.inl ⟨by rfl, ?_⟩) hHeld ?_ ?_
       rotate_left
       ·rintro w' ⟨s0, s1, s2, s3, s4, s5, s6, s7, s8, s9, s10, s11, s12, s13, s14, s15, s16, s17, s18, s19, s20, s21, s22, s23, s24, s25, s26, s27, s28, s29⟩
        go_simp
        with_reducible rfl
       rotate_left
       ·simp only [Act.put, sA, sB, sC, i64_w, i32_w]
        rfl
       refine one_ (i := 11) (N := some 45) #[T,T,T,T,T,T,T,T,T,T,T,T,T,T,F,F,F] rfl rfl (one_of HT_.out (by kernel_rfl)) (by decide) (fun K hK => ?_)
       refine goes_ Try.func13 (by kernel_rfl) rfl #[.agg #[.int .u32 a0_0, .int .i32 a0_1, .int .i32 a0_2, .int .i32 a0_3, .int .i32 a0_4, .int .i32 a0_5, .int .i32 a0_6, .int .i32 a0_7, .int .i32 a0_8, .int .i32 a0_9], .agg #[.int .u32 a1_0, .int .i32 a1_1, .int .i32 a1_2, .int .i32 a1_3, .int .i32 a1_4, .int .i32 a1_5, .int .i32 a1_6, .int .i32 a1_7, .int .i32 a1_8, .int .i32 a1_9]] (by rfl) rfl rfl (by (try simp only [List.map_toArray, List.map_cons, List.map_nil]); first | done | rfl | (simp only [List.length_drop, List.length_take]; rfl)) ?_
       with_reducible refine (contact_Gap.calls kj2 a0_0 a0_1 a0_2 a0_3 a0_4 a0_5 a0_6 a0_7 a0_8 a0_9 a1_0 a1_1 a1_2 a1_3 a1_4 a1_5 a1_6 a1_7 a1_8 a1_9 t471 _ A42.out).mono ?_
       rintro e w46 ⟨rfl, hb⟩
       refine ⟨_, rfl, ?_⟩
       have n0_ := aM (bB (by (with_reducible repeat first | apply bN | apply bD | apply bA); exact BK452.out) hb)
       have n1_ := aM (bB (by (with_reducible repeat first | apply bN | apply bD | apply bA); exact BK453.out) hb)
       have n2_ := aM (bB (by (with_reducible repeat first | apply bN | apply bD | apply bA); exact BK463.out) hb)
       have n3_ := aM (bB (by (with_reducible repeat first | apply bN | apply bD | apply bA); exact BK470.out) hb)
       have n4_ := aM (lT (by repeat (first | (with_reducible first | exact HB.out | apply lA | apply lN | apply lD | refine lS ?_ GE452.out | refine lS ?_ GE453.out | refine lS ?_ GE463.out | refine lS ?_ GE470.out) | exact HB.out)) hb)
       clear BK452
       clear BK453
       clear BK463
       clear BK470
       clear HB
       have BK452 := n0_
       have BK453 := n1_
       have BK463 := n2_
       have BK470 := n3_
       have HB := n4_
       clear n0_ n1_ n2_ n3_ n4_
       (try clear hb)
       (try clear hb2)
       (try clear hk)
       (try clear hi)
       refine hK.out _ _ ⟨(bC BK463.out 0).trans rfl, (bC BK463.out 1).trans rfl, (bC BK463.out 2).trans rfl, (bC BK463.out 3).trans rfl, (bC BK463.out 4).trans rfl, (bC BK470.out 0).trans rfl, (bC BK470.out 1).trans rfl, (bC BK470.out 2).trans rfl, (bC BK470.out 3).trans rfl, (bC BK470.out 4).trans rfl, (bC BK452.out 0).trans rfl, (bC BK452.out 1).trans rfl, (bC BK452.out 2).trans rfl, (bC BK452.out 3).trans rfl, (bC BK452.out 4).trans rfl, (bC BK452.out 5).trans rfl, (bC BK452.out 6).trans rfl, (bC BK452.out 7).trans rfl, (bC BK452.out 8).trans rfl, (bC BK452.out 9).trans rfl, (bC BK453.out 0).trans rfl, (bC BK453.out 1).trans rfl, (bC BK453.out 2).trans rfl, (bC BK453.out 3).trans rfl, (bC BK453.out 4).trans rfl, (bC BK453.out 5).trans rfl, (bC BK453.out 6).trans rfl, (bC BK453.out 7).trans rfl, (bC BK453.out 8).trans rfl, (bC BK453.out 9).trans rfl⟩ (fun hHeld => ?_)
       clear hK K
       refine norm_ (a' := ?_) ?_ ?_
       rotate_left
       ·show Act.put _ (some 45) _ = _
        simp only [Act.put, sA, sB, sC, i64_w, i32_w]
        rfl
       refine one_ (i := 14) (N := some 48) #[T,T,T,T,T,T,T,T,T,T,T,T,T,T,T,F,F] rfl rfl (one_of HT_.out (by kernel_rfl)) (by decide) (fun K hK => ?_)
       refine goes_ Try.func13 (by kernel_rfl) rfl #[.agg #[.int .u32 a1_0, .int .i32 a1_1, .int .i32 a1_2, .int .i32 a1_3, .int .i32 a1_4, .int .i32 a1_5, .int .i32 a1_6, .int .i32 a1_7, .int .i32 a1_8, .int .i32 a1_9], .agg #[.int .u32 a0_0, .int .i32 a0_1, .int .i32 a0_2, .int .i32 a0_3, .int .i32 a0_4, .int .i32 a0_5, .int .i32 a0_6, .int .i32 a0_7, .int .i32 a0_8, .int .i32 a0_9]] (by rfl) rfl rfl (by (try simp only [List.map_toArray, List.map_cons, List.map_nil]); first | done | rfl | (simp only [List.length_drop, List.length_take]; rfl)) ?_
       with_reducible refine (contact_Gap.calls kj2 a1_0 a1_1 a1_2 a1_3 a1_4 a1_5 a1_6 a1_7 a1_8 a1_9 a0_0 a0_1 a0_2 a0_3 a0_4 a0_5 a0_6 a0_7 a0_8 a0_9 t472 _ A43.out).mono ?_
       rintro e w47 ⟨rfl, hb⟩
       refine ⟨_, rfl, ?_⟩
       have n0_ := aM (bB (by (with_reducible repeat first | apply bN | apply bD | apply bA); exact BK452.out) hb)
       have n1_ := aM (bB (by (with_reducible repeat first | apply bN | apply bD | apply bA); exact BK453.out) hb)
       have n2_ := aM (bB (by (with_reducible repeat first | apply bN | apply bD | apply bA); exact BK463.out) hb)
       have n3_ := aM (bB (by (with_reducible repeat first | apply bN | apply bD | apply bA); exact BK470.out) hb)
       have n4_ := aM (lT (by repeat (first | (with_reducible first | exact HB.out | apply lA | apply lN | apply lD | refine lS ?_ GE452.out | refine lS ?_ GE453.out | refine lS ?_ GE463.out | refine lS ?_ GE470.out) | exact HB.out)) hb)
       clear BK452
       clear BK453
       clear BK463
       clear BK470
       clear HB
       have BK452 := n0_
       have BK453 := n1_
       have BK463 := n2_
       have BK470 := n3_
       have HB := n4_
       clear n0_ n1_ n2_ n3_ n4_
       (try clear hb)
       (try clear hb2)
       (try clear hk)
       (try clear hi)
       refine hK.out _ _ ⟨(bC BK463.out 0).trans rfl, (bC BK463.out 1).trans rfl, (bC BK463.out 2).trans rfl, (bC BK463.out 3).trans rfl, (bC BK463.out 4).trans rfl, (bC BK470.out 0).trans rfl, (bC BK470.out 1).trans rfl, (bC BK470.out 2).trans rfl, (bC BK470.out 3).trans rfl, (bC BK470.out 4).trans rfl, (bC BK452.out 0).trans rfl, (bC BK452.out 1).trans rfl, (bC BK452.out 2).trans rfl, (bC BK452.out 3).trans rfl, (bC BK452.out 4).trans rfl, (bC BK452.out 5).trans rfl, (bC BK452.out 6).trans rfl, (bC BK452.out 7).trans rfl, (bC BK452.out 8).trans rfl, (bC BK452.out 9).trans rfl, (bC BK453.out 0).trans rfl, (bC BK453.out 1).trans rfl, (bC BK453.out 2).trans rfl, (bC BK453.out 3).trans rfl, (bC BK453.out 4).trans rfl, (bC BK453.out 5).trans rfl, (bC BK453.out 6).trans rfl, (bC BK453.out 7).trans rfl, (bC BK453.out 8).trans rfl, (bC BK453.out 9).trans rfl⟩ (fun hHeld => ?_)
       clear hK K
       refine norm_ (a' := ?_) ?_ ?_
       rotate_left
       ·show Act.put _ (some 48) _ = _
        simp only [Act.put, sA, sB, sC, i64_w, i32_w]
        rfl
       refine pure_ (i := 15) (N := some 49) (v := ?_) (a' := ?_) #[T,T,T,T,T,T,T,T,T,T,T,T,T,T,T,T,F] rfl rfl (any_of HT_.out (by kernel_rfl)) (fun _ _ _ h => h) (Or.inl ⟨by rfl, ?_⟩) ?_ ?_
       rotate_left
       ·intro w'
        go_simp
        with_reducible rfl
       rotate_left
       ·simp only [Act.put, sA, sB, sC, i64_w, i32_w]
        rfl
       refine pure_ (i := 16) (N := some 50) (v := ?_) (a' := ?_) #[T,T,T,T,T,T,T,T,T,T,T,T,T,T,T,T,T] rfl rfl (any_of HT_.out (by kernel_rfl)) (fun _ _ _ h => h) (Or.inl ⟨by rfl, ?_⟩) ?_ ?_
       rotate_left
       ·intro w'
        go_simp
        with_reducible rfl
       rotate_left
       ·simp only [Act.put, sA, sB, sC, i64_w, i32_w]
        rfl
       refine done_ (done_of HT_.out (by kernel_rfl)) ?_
       try go_wp2
       go_meet
       case rel => exact ⟨_, ((t471 != t472)), (by first | rfl | (simp; done) | (simp [*]; done)), H', ⟨by have := HJ2.out; first | omega | exact Nat.le_refl _⟩, ⟨by (with_reducible repeat first | apply bN | apply bD | apply bA); exact BK452.out⟩, ⟨by (with_reducible repeat first | apply bN | apply bD | apply bA); exact BK453.out⟩, ⟨by (with_reducible repeat first | apply bN | apply bD | apply bA); exact BK463.out⟩, ⟨by (with_reducible repeat first | apply bN | apply bD | apply bA); exact BK470.out⟩, ⟨by repeat (first | (with_reducible first | exact HB.out | apply lA | apply lN | apply lD | refine lS ?_ GE452.out | refine lS ?_ GE453.out | refine lS ?_ GE463.out | refine lS ?_ GE470.out) | exact HB.out)⟩⟩
    case rest =>
     clear HC19
     try clear c1
     try clear c2
     try clear p2
     try clear c3
     try clear c10
     try clear c13
     try clear c20
     try clear c25
     try clear c26
     try clear c32
     try clear c33
     try clear c34
     try clear c36
     try clear c36b0
     try clear c39
     try clear c39b0
     try clear c39b1
     try clear c39b2
     try clear hcz21_0
     try clear hcz21_1
     try clear hcz21_2
     try clear hcz21_3
     try clear hcz21_4
     try clear hcz21_5
     try clear hcz21_6
     try clear hcz21_7
     try clear hcz21_8
     try clear hcz21_9
     try clear hcz22_0
     try clear hcz22_1
     try clear hcz22_2
     try clear hcz22_3
     try clear hcz22_4
     try clear hcz22_5
     try clear hcz22_6
     try clear hcz22_7
     try clear hcz22_8
     try clear hcz22_9
     try clear hcz27_0
     try clear hcz27_1
     try clear hcz27_2
     try clear hcz27_3
     try clear hcz27_4
     try clear hcz28_0
     try clear hcz28_1
     try clear hcz28_2
     try clear hcz28_3
     try clear hcz28_4
     try clear hcz28_5
     try clear hcz28_6
     try clear hcz28_7
     try clear hcz28_8
     try clear hcz28_9
     try clear hcz29_0
     try clear hcz29_1
     try clear hcz29_2
     try clear hcz29_3
     try clear hcz29_4
     try clear hcz29_5
     try clear hcz29_6
     try clear hcz29_7
     try clear hcz29_8
     try clear hcz29_9
     try clear hcz35_0
     try clear hcz35_1
     try clear hcz35_2
     try clear hcz35_3
     try clear hcz35_4
     try clear hfz21_0
     try clear hfz21_1
     try clear hfz21_2
     try clear hfz21_3
     try clear hfz21_4
     try clear hfz21_5
     try clear hfz21_6
     try clear hfz21_7
     try clear hfz21_8
     try clear hfz21_9
     try clear hfz22_0
     try clear hfz22_1
     try clear hfz22_2
     try clear hfz22_3
     try clear hfz22_4
     try clear hfz22_5
     try clear hfz22_6
     try clear hfz22_7
     try clear hfz22_8
     try clear hfz22_9
     try clear hfz27_0
     try clear hfz27_1
     try clear hfz27_2
     try clear hfz27_3
     try clear hfz27_4
     try clear hfz28_0
     try clear hfz28_1
     try clear hfz28_2
     try clear hfz28_3
     try clear hfz28_4
     try clear hfz28_5
     try clear hfz28_6
     try clear hfz28_7
     try clear hfz28_8
     try clear hfz28_9
     try clear hfz29_0
     try clear hfz29_1
     try clear hfz29_2
     try clear hfz29_3
     try clear hfz29_4
     try clear hfz29_5
     try clear hfz29_6
     try clear hfz29_7
     try clear hfz29_8
     try clear hfz29_9
     try clear hfz35_0
     try clear hfz35_1
     try clear hfz35_2
     try clear hfz35_3
     try clear hfz35_4
     obtain ⟨kq, x50_18, rfl, HA, HJ18, BK452, BK453, BK463, BK470, HB⟩ := hcut
     cases kq with
     | zero => exact absurd HA.out (by simp [billiardlaw14_ContactSymmetric.j1])
     | succ kj18 =>
      have H := HA.out
      clear HA
      simp only [billiardlaw14_ContactSymmetric.j1] at H
      by_cases c48 : x50_18 = true
      ·subst c48
       have H1 : (some false) = some r := by rw [if_pos rfl] at H; exact H
       clear H
       have H := H1
       clear H1
       exact absurd ((Option.some.inj H).trans HR.out) (by decide)
      ·replace c48 := Bool.eq_false_iff.mpr c48
       subst c48
       have H1 : (if (!(a0_2 == 0) || (!(a0_3 == 0))) = true then (billiardlaw14_ContactSymmetric.j2 kj18 true a0_0 a0_1 a0_2 a0_3 a0_4 a0_5 a0_6 a0_7 a0_8 a0_9 a1_0 a1_1 a1_2 a1_3 a1_4 a1_5 a1_6 a1_7 a1_8 a1_9 t457 t458 t459 t460 t461) else (if (!(a1_2 == 0) || (!(a1_3 == 0))) = true then (billiardlaw14_ContactSymmetric.j2 kj18 true a0_0 a0_1 a0_2 a0_3 a0_4 a0_5 a0_6 a0_7 a0_8 a0_9 a1_0 a1_1 a1_2 a1_3 a1_4 a1_5 a1_6 a1_7 a1_8 a1_9 t457 t458 t459 t460 t461) else (if t462 = true then (billiardlaw14_ContactSymmetric.j2 kj18 (a0_6 == a1_6 && (a0_7 == a1_7)) a0_0 a0_1 a0_2 a0_3 a0_4 a0_5 a0_6 a0_7 a0_8 a0_9 a1_0 a1_1 a1_2 a1_3 a1_4 a1_5 a1_6 a1_7 a1_8 a1_9 t457 t458 t459 t460 t461) else (billiardlaw14_ContactSymmetric.j2 kj18 true a0_0 a0_1 a0_2 a0_3 a0_4 a0_5 a0_6 a0_7 a0_8 a0_9 a1_0 a1_1 a1_2 a1_3 a1_4 a1_5 a1_6 a1_7 a1_8 a1_9 t457 t458 t459 t460 t461)))) = some r := by rw [if_neg (show ¬ (false = true) by decide)] at H; exact H
       clear H
       have H := H1
       clear H1
       have HC49 := aM H
       clear H
       go_upto_region 7 with (fail)
       go_cut [71] (fun v71 wc => ∃ (kq : Nat) (x71_48 : Bool), v71 = .bool x71_48 ∧ Aside0 (billiardlaw14_ContactSymmetric.j2 kq x71_48 a0_0 a0_1 a0_2 a0_3 a0_4 a0_5 a0_6 a0_7 a0_8 a0_9 a1_0 a1_1 a1_2 a1_3 a1_4 a1_5 a1_6 a1_7 a1_8 a1_9 t457 t458 t459 t460 t461 = some r) ∧ Aside0 (kq ≤ kj18) ∧ Aside0 (wc.heap[b452]? = some (.cells #[.int .u32 a0_0, .int .i32 a0_1, .int .i32 a0_2, .int .i32 a0_3, .int .i32 a0_4, .int .i32 a0_5, .int .i32 a0_6, .int .i32 a0_7, .int .i32 a0_8, .int .i32 a0_9] 26 (0, 0))) ∧ Aside0 (wc.heap[b453]? = some (.cells #[.int .u32 a1_0, .int .i32 a1_1, .int .i32 a1_2, .int .i32 a1_3, .int .i32 a1_4, .int .i32 a1_5, .int .i32 a1_6, .int .i32 a1_7, .int .i32 a1_8, .int .i32 a1_9] 26 (0, 0))) ∧ Aside0 (wc.heap[b463]? = some (.cells #[.int .u32 t457, .int .u32 t458, .int .i32 t459, .int .i32 t460, .int .i32 t461] 32 (0, 0))) ∧ Aside0 (wc.heap[b470]? = some (.cells #[.int .u32 t464, .int .u32 t465, .int .i32 t466, .int .i32 t467, .int .i32 t468] 32 (0, 0))) ∧ Aside0 (Below w.heap.size w wc))
       case first =>
        have H := HC49.out
        clear HC49
        by_cases c50 : (!(a0_2 == 0) || (!(a0_3 == 0))) = true
        ·rw [if_pos c50] at H
         have c50b0 : (!(a0_2 == 0) || (!(a0_3 == 0))) = true := c50
         clear c50
         (first | rw [c50b0] | (simp only [i64_w, i32_w]; rw [c50b0]) | skip)
         have H' := aM H
         clear H
         have hnb51 := N0_.out
         have hnc51 := N1_.out
         have hnb52 := N2_.out
         have hnc52 := N3_.out
         have hnb53 := N6_.out
         have hnc53 := N7_.out
         have hcz54_0 : wc.cell? ⟨b452, 0, none⟩ = some (.int .u32 a0_0) := (bC BK452.out 0).trans rfl
         have hcz54_1 : wc.cell? ⟨b452, 1, none⟩ = some (.int .i32 a0_1) := (bC BK452.out 1).trans rfl
         have hcz54_2 : wc.cell? ⟨b452, 2, none⟩ = some (.int .i32 a0_2) := (bC BK452.out 2).trans rfl
         have hcz54_3 : wc.cell? ⟨b452, 3, none⟩ = some (.int .i32 a0_3) := (bC BK452.out 3).trans rfl
         have hcz54_4 : wc.cell? ⟨b452, 4, none⟩ = some (.int .i32 a0_4) := (bC BK452.out 4).trans rfl
         have hcz54_5 : wc.cell? ⟨b452, 5, none⟩ = some (.int .i32 a0_5) := (bC BK452.out 5).trans rfl
         have hcz54_6 : wc.cell? ⟨b452, 6, none⟩ = some (.int .i32 a0_6) := (bC BK452.out 6).trans rfl
         have hcz54_7 : wc.cell? ⟨b452, 7, none⟩ = some (.int .i32 a0_7) := (bC BK452.out 7).trans rfl
         have hcz54_8 : wc.cell? ⟨b452, 8, none⟩ = some (.int .i32 a0_8) := (bC BK452.out 8).trans rfl
         have hcz54_9 : wc.cell? ⟨b452, 9, none⟩ = some (.int .i32 a0_9) := (bC BK452.out 9).trans rfl
         have hfz54_0 := bF BK452.out 0
         have hfz54_1 := bF BK452.out 1
         have hfz54_2 := bF BK452.out 2
         have hfz54_3 := bF BK452.out 3
         have hfz54_4 := bF BK452.out 4
         have hfz54_5 := bF BK452.out 5
         have hfz54_6 := bF BK452.out 6
         have hfz54_7 := bF BK452.out 7
         have hfz54_8 := bF BK452.out 8
         have hfz54_9 := bF BK452.out 9
         go_wp2
         go_meet
         case rel => exact ⟨_, (true), (by first | rfl | (simp; done) | (simp [*]; done)), H', ⟨by have := HJ2.out; have := HJ18.out; first | omega | exact Nat.le_refl _⟩, ⟨by (with_reducible repeat first | apply bN | apply bD | apply bA); exact BK452.out⟩, ⟨by (with_reducible repeat first | apply bN | apply bD | apply bA); exact BK453.out⟩, ⟨by (with_reducible repeat first | apply bN | apply bD | apply bA); exact BK463.out⟩, ⟨by (with_reducible repeat first | apply bN | apply bD | apply bA); exact BK470.out⟩, ⟨by repeat (first | (with_reducible first | exact HB.out | apply lA | apply lN | apply lD | refine lS ?_ GE452.out | refine lS ?_ GE453.out | refine lS ?_ GE463.out | refine lS ?_ GE470.out) | exact HB.out)⟩⟩
        ·rw [if_neg c50] at H
         have c50b0 : (!(a0_2 == 0) || (!(a0_3 == 0))) = false := by simpa using c50
         clear c50
         (first | rw [c50b0] | (simp only [i64_w, i32_w]; rw [c50b0]) | skip)
         by_cases c55 : (!(a1_2 == 0) || (!(a1_3 == 0))) = true
         ·rw [if_pos c55] at H
          have c55b0 : (!(a1_2 == 0) || (!(a1_3 == 0))) = true := c55
          clear c55
          have H' := aM H
          clear H
          have hnb56 := N0_.out
          have hnc56 := N1_.out
          have hnb57 := N2_.out
          have hnc57 := N3_.out
          have hnb58 := N6_.out
          have hnc58 := N7_.out
          have hcz59_0 : wc.cell? ⟨b452, 0, none⟩ = some (.int .u32 a0_0) := (bC BK452.out 0).trans rfl
          have hcz59_1 : wc.cell? ⟨b452, 1, none⟩ = some (.int .i32 a0_1) := (bC BK452.out 1).trans rfl
          have hcz59_2 : wc.cell? ⟨b452, 2, none⟩ = some (.int .i32 a0_2) := (bC BK452.out 2).trans rfl
          have hcz59_3 : wc.cell? ⟨b452, 3, none⟩ = some (.int .i32 a0_3) := (bC BK452.out 3).trans rfl
          have hcz59_4 : wc.cell? ⟨b452, 4, none⟩ = some (.int .i32 a0_4) := (bC BK452.out 4).trans rfl
          have hcz59_5 : wc.cell? ⟨b452, 5, none⟩ = some (.int .i32 a0_5) := (bC BK452.out 5).trans rfl
          have hcz59_6 : wc.cell? ⟨b452, 6, none⟩ = some (.int .i32 a0_6) := (bC BK452.out 6).trans rfl
          have hcz59_7 : wc.cell? ⟨b452, 7, none⟩ = some (.int .i32 a0_7) := (bC BK452.out 7).trans rfl
          have hcz59_8 : wc.cell? ⟨b452, 8, none⟩ = some (.int .i32 a0_8) := (bC BK452.out 8).trans rfl
          have hcz59_9 : wc.cell? ⟨b452, 9, none⟩ = some (.int .i32 a0_9) := (bC BK452.out 9).trans rfl
          have hfz59_0 := bF BK452.out 0
          have hfz59_1 := bF BK452.out 1
          have hfz59_2 := bF BK452.out 2
          have hfz59_3 := bF BK452.out 3
          have hfz59_4 := bF BK452.out 4
          have hfz59_5 := bF BK452.out 5
          have hfz59_6 := bF BK452.out 6
          have hfz59_7 := bF BK452.out 7
          have hfz59_8 := bF BK452.out 8
          have hfz59_9 := bF BK452.out 9
          have hnb60 := N4_.out
          have hnc60 := N5_.out
          have hnb61 := N8_.out
          have hnc61 := N9_.out
          have hcz62_0 : wc.cell? ⟨b453, 0, none⟩ = some (.int .u32 a1_0) := (bC BK453.out 0).trans rfl
          have hcz62_1 : wc.cell? ⟨b453, 1, none⟩ = some (.int .i32 a1_1) := (bC BK453.out 1).trans rfl
          have hcz62_2 : wc.cell? ⟨b453, 2, none⟩ = some (.int .i32 a1_2) := (bC BK453.out 2).trans rfl
          have hcz62_3 : wc.cell? ⟨b453, 3, none⟩ = some (.int .i32 a1_3) := (bC BK453.out 3).trans rfl
          have hcz62_4 : wc.cell? ⟨b453, 4, none⟩ = some (.int .i32 a1_4) := (bC BK453.out 4).trans rfl
          have hcz62_5 : wc.cell? ⟨b453, 5, none⟩ = some (.int .i32 a1_5) := (bC BK453.out 5).trans rfl
          have hcz62_6 : wc.cell? ⟨b453, 6, none⟩ = some (.int .i32 a1_6) := (bC BK453.out 6).trans rfl
          have hcz62_7 : wc.cell? ⟨b453, 7, none⟩ = some (.int .i32 a1_7) := (bC BK453.out 7).trans rfl
          have hcz62_8 : wc.cell? ⟨b453, 8, none⟩ = some (.int .i32 a1_8) := (bC BK453.out 8).trans rfl
          have hcz62_9 : wc.cell? ⟨b453, 9, none⟩ = some (.int .i32 a1_9) := (bC BK453.out 9).trans rfl
          have hfz62_0 := bF BK453.out 0
          have hfz62_1 := bF BK453.out 1
          have hfz62_2 := bF BK453.out 2
          have hfz62_3 := bF BK453.out 3
          have hfz62_4 := bF BK453.out 4
          have hfz62_5 := bF BK453.out 5
          have hfz62_6 := bF BK453.out 6
          have hfz62_7 := bF BK453.out 7
          have hfz62_8 := bF BK453.out 8
          have hfz62_9 := bF BK453.out 9
          go_wp2
          go_meet
          case rel => exact ⟨_, (true), (by first | rfl | (simp; done) | (simp [*]; done)), H', ⟨by have := HJ2.out; have := HJ18.out; first | omega | exact Nat.le_refl _⟩, ⟨by (with_reducible repeat first | apply bN | apply bD | apply bA); exact BK452.out⟩, ⟨by (with_reducible repeat first | apply bN | apply bD | apply bA); exact BK453.out⟩, ⟨by (with_reducible repeat first | apply bN | apply bD | apply bA); exact BK463.out⟩, ⟨by (with_reducible repeat first | apply bN | apply bD | apply bA); exact BK470.out⟩, ⟨by repeat (first | (with_reducible first | exact HB.out | apply lA | apply lN | apply lD | refine lS ?_ GE452.out | refine lS ?_ GE453.out | refine lS ?_ GE463.out | refine lS ?_ GE470.out) | exact HB.out)⟩⟩
         ·rw [if_neg c55] at H
          have c55b0 : (!(a1_2 == 0) || (!(a1_3 == 0))) = false := by simpa using c55
          clear c55
          by_cases c63 : t462 = true
          ·subst c63
           have H1 : (billiardlaw14_ContactSymmetric.j2 kj18 (a0_6 == a1_6 && (a0_7 == a1_7)) a0_0 a0_1 a0_2 a0_3 a0_4 a0_5 a0_6 a0_7 a0_8 a0_9 a1_0 a1_1 a1_2 a1_3 a1_4 a1_5 a1_6 a1_7 a1_8 a1_9 t457 t458 t459 t460 t461) = some r := by rw [if_pos rfl] at H; exact H
           clear H
           have H := H1
           clear H1
           have H' := aM H
           clear H
           have hnb64 := N0_.out
           have hnc64 := N1_.out
           have hnb65 := N2_.out
           have hnc65 := N3_.out
           have hnb66 := N6_.out
           have hnc66 := N7_.out
           have hcz67_0 : wc.cell? ⟨b452, 0, none⟩ = some (.int .u32 a0_0) := (bC BK452.out 0).trans rfl
           have hcz67_1 : wc.cell? ⟨b452, 1, none⟩ = some (.int .i32 a0_1) := (bC BK452.out 1).trans rfl
           have hcz67_2 : wc.cell? ⟨b452, 2, none⟩ = some (.int .i32 a0_2) := (bC BK452.out 2).trans rfl
           have hcz67_3 : wc.cell? ⟨b452, 3, none⟩ = some (.int .i32 a0_3) := (bC BK452.out 3).trans rfl
           have hcz67_4 : wc.cell? ⟨b452, 4, none⟩ = some (.int .i32 a0_4) := (bC BK452.out 4).trans rfl
           have hcz67_5 : wc.cell? ⟨b452, 5, none⟩ = some (.int .i32 a0_5) := (bC BK452.out 5).trans rfl
           have hcz67_6 : wc.cell? ⟨b452, 6, none⟩ = some (.int .i32 a0_6) := (bC BK452.out 6).trans rfl
           have hcz67_7 : wc.cell? ⟨b452, 7, none⟩ = some (.int .i32 a0_7) := (bC BK452.out 7).trans rfl
           have hcz67_8 : wc.cell? ⟨b452, 8, none⟩ = some (.int .i32 a0_8) := (bC BK452.out 8).trans rfl
           have hcz67_9 : wc.cell? ⟨b452, 9, none⟩ = some (.int .i32 a0_9) := (bC BK452.out 9).trans rfl
           have hfz67_0 := bF BK452.out 0
           have hfz67_1 := bF BK452.out 1
           have hfz67_2 := bF BK452.out 2
           have hfz67_3 := bF BK452.out 3
           have hfz67_4 := bF BK452.out 4
           have hfz67_5 := bF BK452.out 5
           have hfz67_6 := bF BK452.out 6
           have hfz67_7 := bF BK452.out 7
           have hfz67_8 := bF BK452.out 8
           have hfz67_9 := bF BK452.out 9
           have hnb68 := N4_.out
           have hnc68 := N5_.out
           have hnb69 := N8_.out
           have hnc69 := N9_.out
           have hcz70_0 : wc.cell? ⟨b453, 0, none⟩ = some (.int .u32 a1_0) := (bC BK453.out 0).trans rfl
           have hcz70_1 : wc.cell? ⟨b453, 1, none⟩ = some (.int .i32 a1_1) := (bC BK453.out 1).trans rfl
           have hcz70_2 : wc.cell? ⟨b453, 2, none⟩ = some (.int .i32 a1_2) := (bC BK453.out 2).trans rfl
           have hcz70_3 : wc.cell? ⟨b453, 3, none⟩ = some (.int .i32 a1_3) := (bC BK453.out 3).trans rfl
           have hcz70_4 : wc.cell? ⟨b453, 4, none⟩ = some (.int .i32 a1_4) := (bC BK453.out 4).trans rfl
           have hcz70_5 : wc.cell? ⟨b453, 5, none⟩ = some (.int .i32 a1_5) := (bC BK453.out 5).trans rfl
           have hcz70_6 : wc.cell? ⟨b453, 6, none⟩ = some (.int .i32 a1_6) := (bC BK453.out 6).trans rfl
           have hcz70_7 : wc.cell? ⟨b453, 7, none⟩ = some (.int .i32 a1_7) := (bC BK453.out 7).trans rfl
           have hcz70_8 : wc.cell? ⟨b453, 8, none⟩ = some (.int .i32 a1_8) := (bC BK453.out 8).trans rfl
           have hcz70_9 : wc.cell? ⟨b453, 9, none⟩ = some (.int .i32 a1_9) := (bC BK453.out 9).trans rfl
           have hfz70_0 := bF BK453.out 0
           have hfz70_1 := bF BK453.out 1
           have hfz70_2 := bF BK453.out 2
           have hfz70_3 := bF BK453.out 3
           have hfz70_4 := bF BK453.out 4
           have hfz70_5 := bF BK453.out 5
           have hfz70_6 := bF BK453.out 6
           have hfz70_7 := bF BK453.out 7
           have hfz70_8 := bF BK453.out 8
           have hfz70_9 := bF BK453.out 9
           go_wp2
           go_meet
           case rel => exact ⟨_, ((a0_6 == a1_6 && (a0_7 == a1_7))), (by first | rfl | (simp; done) | (simp [*]; done)), H', ⟨by have := HJ2.out; have := HJ18.out; first | omega | exact Nat.le_refl _⟩, ⟨by (with_reducible repeat first | apply bN | apply bD | apply bA); exact BK452.out⟩, ⟨by (with_reducible repeat first | apply bN | apply bD | apply bA); exact BK453.out⟩, ⟨by (with_reducible repeat first | apply bN | apply bD | apply bA); exact BK463.out⟩, ⟨by (with_reducible repeat first | apply bN | apply bD | apply bA); exact BK470.out⟩, ⟨by repeat (first | (with_reducible first | exact HB.out | apply lA | apply lN | apply lD | refine lS ?_ GE452.out | refine lS ?_ GE453.out | refine lS ?_ GE463.out | refine lS ?_ GE470.out) | exact HB.out)⟩⟩
          ·replace c63 := Bool.eq_false_iff.mpr c63
           subst c63
           have H1 : (billiardlaw14_ContactSymmetric.j2 kj18 true a0_0 a0_1 a0_2 a0_3 a0_4 a0_5 a0_6 a0_7 a0_8 a0_9 a1_0 a1_1 a1_2 a1_3 a1_4 a1_5 a1_6 a1_7 a1_8 a1_9 t457 t458 t459 t460 t461) = some r := by rw [if_neg (show ¬ (false = true) by decide)] at H; exact H
           clear H
           have H := H1
           clear H1
           have H' := aM H
           clear H
           have hnb71 := N0_.out
           have hnc71 := N1_.out
           have hnb72 := N2_.out
           have hnc72 := N3_.out
           have hnb73 := N6_.out
           have hnc73 := N7_.out
           have hcz74_0 : wc.cell? ⟨b452, 0, none⟩ = some (.int .u32 a0_0) := (bC BK452.out 0).trans rfl
           have hcz74_1 : wc.cell? ⟨b452, 1, none⟩ = some (.int .i32 a0_1) := (bC BK452.out 1).trans rfl
           have hcz74_2 : wc.cell? ⟨b452, 2, none⟩ = some (.int .i32 a0_2) := (bC BK452.out 2).trans rfl
           have hcz74_3 : wc.cell? ⟨b452, 3, none⟩ = some (.int .i32 a0_3) := (bC BK452.out 3).trans rfl
           have hcz74_4 : wc.cell? ⟨b452, 4, none⟩ = some (.int .i32 a0_4) := (bC BK452.out 4).trans rfl
           have hcz74_5 : wc.cell? ⟨b452, 5, none⟩ = some (.int .i32 a0_5) := (bC BK452.out 5).trans rfl
           have hcz74_6 : wc.cell? ⟨b452, 6, none⟩ = some (.int .i32 a0_6) := (bC BK452.out 6).trans rfl
           have hcz74_7 : wc.cell? ⟨b452, 7, none⟩ = some (.int .i32 a0_7) := (bC BK452.out 7).trans rfl
           have hcz74_8 : wc.cell? ⟨b452, 8, none⟩ = some (.int .i32 a0_8) := (bC BK452.out 8).trans rfl
           have hcz74_9 : wc.cell? ⟨b452, 9, none⟩ = some (.int .i32 a0_9) := (bC BK452.out 9).trans rfl
           have hfz74_0 := bF BK452.out 0
           have hfz74_1 := bF BK452.out 1
           have hfz74_2 := bF BK452.out 2
           have hfz74_3 := bF BK452.out 3
           have hfz74_4 := bF BK452.out 4
           have hfz74_5 := bF BK452.out 5
           have hfz74_6 := bF BK452.out 6
           have hfz74_7 := bF BK452.out 7
           have hfz74_8 := bF BK452.out 8
           have hfz74_9 := bF BK452.out 9
           have hnb75 := N4_.out
           have hnc75 := N5_.out
           have hnb76 := N8_.out
           have hnc76 := N9_.out
           have hcz77_0 : wc.cell? ⟨b453, 0, none⟩ = some (.int .u32 a1_0) := (bC BK453.out 0).trans rfl
           have hcz77_1 : wc.cell? ⟨b453, 1, none⟩ = some (.int .i32 a1_1) := (bC BK453.out 1).trans rfl
           have hcz77_2 : wc.cell? ⟨b453, 2, none⟩ = some (.int .i32 a1_2) := (bC BK453.out 2).trans rfl
           have hcz77_3 : wc.cell? ⟨b453, 3, none⟩ = some (.int .i32 a1_3) := (bC BK453.out 3).trans rfl
           have hcz77_4 : wc.cell? ⟨b453, 4, none⟩ = some (.int .i32 a1_4) := (bC BK453.out 4).trans rfl
           have hcz77_5 : wc.cell? ⟨b453, 5, none⟩ = some (.int .i32 a1_5) := (bC BK453.out 5).trans rfl
           have hcz77_6 : wc.cell? ⟨b453, 6, none⟩ = some (.int .i32 a1_6) := (bC BK453.out 6).trans rfl
           have hcz77_7 : wc.cell? ⟨b453, 7, none⟩ = some (.int .i32 a1_7) := (bC BK453.out 7).trans rfl
           have hcz77_8 : wc.cell? ⟨b453, 8, none⟩ = some (.int .i32 a1_8) := (bC BK453.out 8).trans rfl
           have hcz77_9 : wc.cell? ⟨b453, 9, none⟩ = some (.int .i32 a1_9) := (bC BK453.out 9).trans rfl
           have hfz77_0 := bF BK453.out 0
           have hfz77_1 := bF BK453.out 1
           have hfz77_2 := bF BK453.out 2
           have hfz77_3 := bF BK453.out 3
           have hfz77_4 := bF BK453.out 4
           have hfz77_5 := bF BK453.out 5
           have hfz77_6 := bF BK453.out 6
           have hfz77_7 := bF BK453.out 7
           have hfz77_8 := bF BK453.out 8
           have hfz77_9 := bF BK453.out 9
           go_wp2
           go_meet
           case rel => exact ⟨_, (true), (by first | rfl | (simp; done) | (simp [*]; done)), H', ⟨by have := HJ2.out; have := HJ18.out; first | omega | exact Nat.le_refl _⟩, ⟨by (with_reducible repeat first | apply bN | apply bD | apply bA); exact BK452.out⟩, ⟨by (with_reducible repeat first | apply bN | apply bD | apply bA); exact BK453.out⟩, ⟨by (with_reducible repeat first | apply bN | apply bD | apply bA); exact BK463.out⟩, ⟨by (with_reducible repeat first | apply bN | apply bD | apply bA); exact BK470.out⟩, ⟨by repeat (first | (with_reducible first | exact HB.out | apply lA | apply lN | apply lD | refine lS ?_ GE452.out | refine lS ?_ GE453.out | refine lS ?_ GE463.out | refine lS ?_ GE470.out) | exact HB.out)⟩⟩
       case rest =>
        clear HC49
        try clear c1
        try clear c2
        try clear p2
        try clear c3
        try clear c4
        try clear c5
        try clear c6
        try clear c7
        try clear c10
        try clear c13
        try clear c20
        try clear c25
        try clear c26
        try clear c32
        try clear c33
        try clear c34
        try clear c36
        try clear c36b0
        try clear c39
        try clear c39b0
        try clear c39b1
        try clear c39b2
        try clear c48
        try clear c50
        try clear c50b0
        try clear c51
        try clear c52
        try clear c53
        try clear c55
        try clear c55b0
        try clear c56
        try clear c57
        try clear c58
        try clear c60
        try clear c61
        try clear c63
        try clear c64
        try clear c65
        try clear c66
        try clear c68
        try clear c69
        try clear c71
        try clear c72
        try clear c73
        try clear c75
        try clear c76
        try clear hcz21_0
        try clear hcz21_1
        try clear hcz21_2
        try clear hcz21_3
        try clear hcz21_4
        try clear hcz21_5
        try clear hcz21_6
        try clear hcz21_7
        try clear hcz21_8
        try clear hcz21_9
        try clear hcz22_0
        try clear hcz22_1
        try clear hcz22_2
        try clear hcz22_3
        try clear hcz22_4
        try clear hcz22_5
        try clear hcz22_6
        try clear hcz22_7
        try clear hcz22_8
        try clear hcz22_9
        try clear hcz27_0
        try clear hcz27_1
        try clear hcz27_2
        try clear hcz27_3
        try clear hcz27_4
        try clear hcz28_0
        try clear hcz28_1
        try clear hcz28_2
        try clear hcz28_3
        try clear hcz28_4
        try clear hcz28_5
        try clear hcz28_6
        try clear hcz28_7
        try clear hcz28_8
        try clear hcz28_9
        try clear hcz29_0
        try clear hcz29_1
        try clear hcz29_2
        try clear hcz29_3
        try clear hcz29_4
        try clear hcz29_5
        try clear hcz29_6
        try clear hcz29_7
        try clear hcz29_8
        try clear hcz29_9
        try clear hcz35_0
        try clear hcz35_1
        try clear hcz35_2
        try clear hcz35_3
        try clear hcz35_4
        try clear hcz54_0
        try clear hcz54_1
        try clear hcz54_2
        try clear hcz54_3
        try clear hcz54_4
        try clear hcz54_5
        try clear hcz54_6
        try clear hcz54_7
        try clear hcz54_8
        try clear hcz54_9
        try clear hcz59_0
        try clear hcz59_1
        try clear hcz59_2
        try clear hcz59_3
        try clear hcz59_4
        try clear hcz59_5
        try clear hcz59_6
        try clear hcz59_7
        try clear hcz59_8
        try clear hcz59_9
        try clear hcz62_0
        try clear hcz62_1
        try clear hcz62_2
        try clear hcz62_3
        try clear hcz62_4
        try clear hcz62_5
        try clear hcz62_6
        try clear hcz62_7
        try clear hcz62_8
        try clear hcz62_9
        try clear hcz67_0
        try clear hcz67_1
        try clear hcz67_2
        try clear hcz67_3
        try clear hcz67_4
        try clear hcz67_5
        try clear hcz67_6
        try clear hcz67_7
        try clear hcz67_8
        try clear hcz67_9
        try clear hcz70_0
        try clear hcz70_1
        try clear hcz70_2
        try clear hcz70_3
        try clear hcz70_4
        try clear hcz70_5
        try clear hcz70_6
        try clear hcz70_7
        try clear hcz70_8
        try clear hcz70_9
        try clear hcz74_0
        try clear hcz74_1
        try clear hcz74_2
        try clear hcz74_3
        try clear hcz74_4
        try clear hcz74_5
        try clear hcz74_6
        try clear hcz74_7
        try clear hcz74_8
        try clear hcz74_9
        try clear hcz77_0
        try clear hcz77_1
        try clear hcz77_2
        try clear hcz77_3
        try clear hcz77_4
        try clear hcz77_5
        try clear hcz77_6
        try clear hcz77_7
        try clear hcz77_8
        try clear hcz77_9
        try clear hfz21_0
        try clear hfz21_1
        try clear hfz21_2
        try clear hfz21_3
        try clear hfz21_4
        try clear hfz21_5
        try clear hfz21_6
        try clear hfz21_7
        try clear hfz21_8
        try clear hfz21_9
        try clear hfz22_0
        try clear hfz22_1
        try clear hfz22_2
        try clear hfz22_3
        try clear hfz22_4
        try clear hfz22_5
        try clear hfz22_6
        try clear hfz22_7
        try clear hfz22_8
        try clear hfz22_9
        try clear hfz27_0
        try clear hfz27_1
        try clear hfz27_2
        try clear hfz27_3
        try clear hfz27_4
        try clear hfz28_0
        try clear hfz28_1
        try clear hfz28_2
        try clear hfz28_3
        try clear hfz28_4
        try clear hfz28_5
        try clear hfz28_6
        try clear hfz28_7
        try clear hfz28_8
        try clear hfz28_9
        try clear hfz29_0
        try clear hfz29_1
        try clear hfz29_2
        try clear hfz29_3
        try clear hfz29_4
        try clear hfz29_5
        try clear hfz29_6
        try clear hfz29_7
        try clear hfz29_8
        try clear hfz29_9
        try clear hfz35_0
        try clear hfz35_1
        try clear hfz35_2
        try clear hfz35_3
        try clear hfz35_4
        try clear hfz54_0
        try clear hfz54_1
        try clear hfz54_2
        try clear hfz54_3
        try clear hfz54_4
        try clear hfz54_5
        try clear hfz54_6
        try clear hfz54_7
        try clear hfz54_8
        try clear hfz54_9
        try clear hfz59_0
        try clear hfz59_1
        try clear hfz59_2
        try clear hfz59_3
        try clear hfz59_4
        try clear hfz59_5
        try clear hfz59_6
        try clear hfz59_7
        try clear hfz59_8
        try clear hfz59_9
        try clear hfz62_0
        try clear hfz62_1
        try clear hfz62_2
        try clear hfz62_3
        try clear hfz62_4
        try clear hfz62_5
        try clear hfz62_6
        try clear hfz62_7
        try clear hfz62_8
        try clear hfz62_9
        try clear hfz67_0
        try clear hfz67_1
        try clear hfz67_2
        try clear hfz67_3
        try clear hfz67_4
        try clear hfz67_5
        try clear hfz67_6
        try clear hfz67_7
        try clear hfz67_8
        try clear hfz67_9
        try clear hfz70_0
        try clear hfz70_1
        try clear hfz70_2
        try clear hfz70_3
        try clear hfz70_4
        try clear hfz70_5
        try clear hfz70_6
        try clear hfz70_7
        try clear hfz70_8
        try clear hfz70_9
        try clear hfz74_0
        try clear hfz74_1
        try clear hfz74_2
        try clear hfz74_3
        try clear hfz74_4
        try clear hfz74_5
        try clear hfz74_6
        try clear hfz74_7
        try clear hfz74_8
        try clear hfz74_9
        try clear hfz77_0
        try clear hfz77_1
        try clear hfz77_2
        try clear hfz77_3
        try clear hfz77_4
        try clear hfz77_5
        try clear hfz77_6
        try clear hfz77_7
        try clear hfz77_8
        try clear hfz77_9
        try clear p2
        obtain ⟨kq, x71_48, rfl, HA, HJ48, BK452, BK453, BK463, BK470, HB⟩ := hcut
        cases kq with
        | zero => exact absurd HA.out (by simp [billiardlaw14_ContactSymmetric.j2])
        | succ kj48 =>
         have H := HA.out
         clear HA
         simp only [billiardlaw14_ContactSymmetric.j2] at H
         by_cases c78 : x71_48 = true
         ·subst c78
          have H1 : (some true) = some r := by rw [if_pos rfl] at H; exact H
          clear H
          have H := H1
          clear H1
          obtain rfl := Option.some.inj H
          go_wp2
          go_ret
          exact ⟨by first | rfl | (simp [errW_none, errW_some] <;> rfl) | (simp [*, errW_none, errW_some] <;> rfl), by repeat (first | (with_reducible first | exact HB.out | apply lA | apply lN | apply lD | refine lS ?_ GE452.out | refine lS ?_ GE453.out | refine lS ?_ GE463.out | refine lS ?_ GE470.out) | exact HB.out)⟩
         ·replace c78 := Bool.eq_false_iff.mpr c78
          subst c78
          have H1 : ((contact_Of.f kj48 a1_0 a0_1 a0_2 a0_3 a0_4 a0_5 a0_6 a0_7 a0_8 a0_9 a0_0 a1_1 a1_2 a1_3 a1_4 a1_5 a1_6 a1_7 a1_8 a1_9).bind fun bt475 => (if bt475.2.2.2.2.2 = true then (if bt475.2.2.2.2.1 = t461 then (if (wrap32 (bt475.2.2.1 + t459)) ≥ (-1) then (if (wrap32 (bt475.2.2.1 + t459)) ≤ 0 then (if (wrap32 (bt475.2.2.2.1 + t460)) ≥ (-1) then (some (decide ((wrap32 (bt475.2.2.2.1 + t460)) ≤ 0))) else (some false)) else (some false)) else (some false)) else (some false)) else (some false))) = some r := by rw [if_neg (show ¬ (false = true) by decide)] at H; exact H
          clear H
          have H := H1
          clear H1
          replace H := Option.bind_eq_some_iff.mp H
          obtain ⟨⟨t475, t476, t477, t478, t479, t480⟩, A790, H⟩ := H
          replace H : (if t480 = true then (if t479 = t461 then (if (wrap32 (t477 + t459)) ≥ (-1) then (if (wrap32 (t477 + t459)) ≤ 0 then (if (wrap32 (t478 + t460)) ≥ (-1) then (some (decide ((wrap32 (t478 + t460)) ≤ 0))) else (some false)) else (some false)) else (some false)) else (some false)) else (some false)) = some r := H
          have A79 := aM A790
          clear A790
          by_cases c80 : t480 = true
          ·subst c80
           have H1 : (if t479 = t461 then (if (wrap32 (t477 + t459)) ≥ (-1) then (if (wrap32 (t477 + t459)) ≤ 0 then (if (wrap32 (t478 + t460)) ≥ (-1) then (some (decide ((wrap32 (t478 + t460)) ≤ 0))) else (some false)) else (some false)) else (some false)) else (some false)) = some r := by rw [if_pos rfl] at H; exact H
           clear H
           have H := H1
           clear H1
           by_cases c81 : t479 = t461
           ·rw [if_pos c81] at H
            have c81b0 : (t479 == t461) = true := beq_iff_eq.mpr c81
            have c81b1 : (t479 != t461) = false := bne_eq_false_iff_eq.mpr c81
            clear c81
            by_cases c82 : (wrap32 (t477 + t459)) ≥ (-1)
            ·rw [if_pos c82] at H
             have c82b0 : decide ((-1) ≤ (wrap32 (t477 + t459))) = true := decide_eq_true c82
             clear c82
             by_cases c83 : (wrap32 (t477 + t459)) ≤ 0
             ·rw [if_pos c83] at H
              have c83b0 : decide ((wrap32 (t477 + t459)) ≤ 0) = true := decide_eq_true c83
              clear c83
              by_cases c84 : (wrap32 (t478 + t460)) ≥ (-1)
              ·rw [if_pos c84] at H
               have c84b0 : decide ((-1) ≤ (wrap32 (t478 + t460))) = true := decide_eq_true c84
               clear c84
               obtain rfl := Option.some.inj H
               try go_wp2
               have n0_ := aM (bD BK452.out)
               have n1_ := aM (bD BK453.out)
               have n2_ := aM (bD BK463.out)
               have n3_ := aM (bD BK470.out)
               have n4_ := aM (lD HB.out)
               clear BK452
               clear BK453
               clear BK463
               clear BK470
               clear HB
               have BK452 := n0_
               have BK453 := n1_
               have BK463 := n2_
               have BK470 := n3_
               have HB := n4_
               clear n0_ n1_ n2_ n3_ n4_
               refine start_ (n := 6) (S := fun w' => w'.cell? ⟨b452, 0, none⟩ = some (.int .u32 a0_0) ∧ w'.cell? ⟨b452, 1, none⟩ = some (.int .i32 a0_1) ∧ w'.cell? ⟨b452, 2, none⟩ = some (.int .i32 a0_2) ∧ w'.cell? ⟨b452, 3, none⟩ = some (.int .i32 a0_3) ∧ w'.cell? ⟨b452, 4, none⟩ = some (.int .i32 a0_4) ∧ w'.cell? ⟨b452, 5, none⟩ = some (.int .i32 a0_5) ∧ w'.cell? ⟨b452, 6, none⟩ = some (.int .i32 a0_6) ∧ w'.cell? ⟨b452, 7, none⟩ = some (.int .i32 a0_7) ∧ w'.cell? ⟨b452, 8, none⟩ = some (.int .i32 a0_8) ∧ w'.cell? ⟨b452, 9, none⟩ = some (.int .i32 a0_9) ∧ w'.cell? ⟨b453, 0, none⟩ = some (.int .u32 a1_0) ∧ w'.cell? ⟨b453, 1, none⟩ = some (.int .i32 a1_1) ∧ w'.cell? ⟨b453, 2, none⟩ = some (.int .i32 a1_2) ∧ w'.cell? ⟨b453, 3, none⟩ = some (.int .i32 a1_3) ∧ w'.cell? ⟨b453, 4, none⟩ = some (.int .i32 a1_4) ∧ w'.cell? ⟨b453, 5, none⟩ = some (.int .i32 a1_5) ∧ w'.cell? ⟨b453, 6, none⟩ = some (.int .i32 a1_6) ∧ w'.cell? ⟨b453, 7, none⟩ = some (.int .i32 a1_7) ∧ w'.cell? ⟨b453, 8, none⟩ = some (.int .i32 a1_8) ∧ w'.cell? ⟨b453, 9, none⟩ = some (.int .i32 a1_9)) (ds := []) #[F,F,F,F,F,F] (by kernel_rfl) rfl rfl ⟨(bC BK452.out 0).trans rfl, (bC BK452.out 1).trans rfl, (bC BK452.out 2).trans rfl, (bC BK452.out 3).trans rfl, (bC BK452.out 4).trans rfl, (bC BK452.out 5).trans rfl, (bC BK452.out 6).trans rfl, (bC BK452.out 7).trans rfl, (bC BK452.out 8).trans rfl, (bC BK452.out 9).trans rfl, (bC BK453.out 0).trans rfl, (bC BK453.out 1).trans rfl, (bC BK453.out 2).trans rfl, (bC BK453.out 3).trans rfl, (bC BK453.out 4).trans rfl, (bC BK453.out 5).trans rfl, (bC BK453.out 6).trans rfl, (bC BK453.out 7).trans rfl, (bC BK453.out 8).trans rfl, (bC BK453.out 9).trans rfl⟩ (fun hHeld => ?_)
               generalize wc.drew = w85 at BK452 BK453 BK463 BK470 HB hHeld ⊢
               refine take_ (i := 0) (N := some 72) (v := ?_) (a' := ?_) #[T,F,F,F,F,F] rfl rfl (by kernel_rfl) (fun _ _ _ h => h) (Or.inl ⟨by rfl, ?_⟩) hHeld ?_ ?_
               rotate_left
               ·rintro w' ⟨s0, s1, s2, s3, s4, s5, s6, s7, s8, s9, s10, s11, s12, s13, s14, s15, s16, s17, s18, s19⟩
                go_simp
                with_reducible rfl
               rotate_left
               ·simp only [Act.put, sA, sB, sC, i64_w, i32_w]
                rfl
               refine take_ (i := 1) (N := some 73) (v := ?_) (a' := ?_) #[T,T,F,F,F,F] rfl rfl (by kernel_rfl) (fun _ _ _ h => h) (Or.inl ⟨by rfl, ?_⟩) hHeld ?_ ?_
               rotate_left
               ·rintro w' ⟨s0, s1, s2, s3, s4, s5, s6, s7, s8, s9, s10, s11, s12, s13, s14, s15, s16, s17, s18, s19⟩
                go_simp
                with_reducible rfl
               rotate_left
               ·simp only [Act.put, sA, sB, sC, i64_w, i32_w]
                rfl
               refine join_ (σ := Nat × Nat) 2 #[T,T,T,T,F,F] (fun s_ => [(9, .pointer (some ⟨s_.1, 0, none⟩)), (10, .pointer (some ⟨s_.2, 0, none⟩))]) (fun s_ w' => (w'.cell? ⟨b452, 0, none⟩ = some (.int .u32 a0_0) ∧ w'.cell? ⟨b452, 1, none⟩ = some (.int .i32 a0_1) ∧ w'.cell? ⟨b452, 2, none⟩ = some (.int .i32 a0_2) ∧ w'.cell? ⟨b452, 3, none⟩ = some (.int .i32 a0_3) ∧ w'.cell? ⟨b452, 4, none⟩ = some (.int .i32 a0_4) ∧ w'.cell? ⟨b452, 5, none⟩ = some (.int .i32 a0_5) ∧ w'.cell? ⟨b452, 6, none⟩ = some (.int .i32 a0_6) ∧ w'.cell? ⟨b452, 7, none⟩ = some (.int .i32 a0_7) ∧ w'.cell? ⟨b452, 8, none⟩ = some (.int .i32 a0_8) ∧ w'.cell? ⟨b452, 9, none⟩ = some (.int .i32 a0_9) ∧ w'.cell? ⟨b453, 0, none⟩ = some (.int .u32 a1_0) ∧ w'.cell? ⟨b453, 1, none⟩ = some (.int .i32 a1_1) ∧ w'.cell? ⟨b453, 2, none⟩ = some (.int .i32 a1_2) ∧ w'.cell? ⟨b453, 3, none⟩ = some (.int .i32 a1_3) ∧ w'.cell? ⟨b453, 4, none⟩ = some (.int .i32 a1_4) ∧ w'.cell? ⟨b453, 5, none⟩ = some (.int .i32 a1_5) ∧ w'.cell? ⟨b453, 6, none⟩ = some (.int .i32 a1_6) ∧ w'.cell? ⟨b453, 7, none⟩ = some (.int .i32 a1_7) ∧ w'.cell? ⟨b453, 8, none⟩ = some (.int .i32 a1_8) ∧ w'.cell? ⟨b453, 9, none⟩ = some (.int .i32 a1_9)) ∧ (w'.heap[b452]? = some (.cells #[.int .u32 a0_0, .int .i32 a0_1, .int .i32 a0_2, .int .i32 a0_3, .int .i32 a0_4, .int .i32 a0_5, .int .i32 a0_6, .int .i32 a0_7, .int .i32 a0_8, .int .i32 a0_9] 26 (0, 0))) ∧ (w'.heap[b453]? = some (.cells #[.int .u32 a1_0, .int .i32 a1_1, .int .i32 a1_2, .int .i32 a1_3, .int .i32 a1_4, .int .i32 a1_5, .int .i32 a1_6, .int .i32 a1_7, .int .i32 a1_8, .int .i32 a1_9] 26 (0, 0))) ∧ (w'.heap[b463]? = some (.cells #[.int .u32 t457, .int .u32 t458, .int .i32 t459, .int .i32 t460, .int .i32 t461] 32 (0, 0))) ∧ (w'.heap[b470]? = some (.cells #[.int .u32 t464, .int .u32 t465, .int .i32 t466, .int .i32 t467, .int .i32 t468] 32 (0, 0))) ∧ (w'.heap[s_.1]? = some (.cells #[.int .u32 0, .int .i32 0, .int .i32 0, .int .i32 0, .int .i32 0, .int .i32 0, .int .i32 0, .int .i32 0, .int .i32 0, .int .i32 0] 26 (0, 0))) ∧ (w'.heap[s_.2]? = some (.cells #[.int .u32 0, .int .i32 0, .int .i32 0, .int .i32 0, .int .i32 0, .int .i32 0, .int .i32 0, .int .i32 0, .int .i32 0, .int .i32 0] 26 (0, 0))) ∧ (w.heap.size ≤ s_.1) ∧ (w.heap.size ≤ s_.1) ∧ (b452 ≠ s_.1) ∧ (s_.1 ≠ b452) ∧ (b453 ≠ s_.1) ∧ (s_.1 ≠ b453) ∧ (b463 ≠ s_.1) ∧ (s_.1 ≠ b463) ∧ (b470 ≠ s_.1) ∧ (s_.1 ≠ b470) ∧ (s_.2 ≠ s_.1) ∧ (s_.1 ≠ s_.2) ∧ (w.heap.size ≤ s_.2) ∧ (w.heap.size ≤ s_.2) ∧ (b452 ≠ s_.2) ∧ (s_.2 ≠ b452) ∧ (b453 ≠ s_.2) ∧ (s_.2 ≠ b453) ∧ (b463 ≠ s_.2) ∧ (s_.2 ≠ b463) ∧ (b470 ≠ s_.2) ∧ (s_.2 ≠ b470) ∧ (Below w.heap.size w w')) ?_ ?_
               rotate_left
               ·intro hCont
                refine two_ (i := 2) (j := 3) (Ni := some 9) (Nj := some 10) #[T,T,T,F,F,F] #[T,T,F,T,F,F] rfl rfl rfl rfl (by kernel_rfl) (by decide) (by decide) (fun K hK => ?_) (fun K hK => ?_)
                ·skip
                 refine box_step ?hg (N := 9) ?hd (cs := #[.int .u32 0, .int .i32 0, .int .i32 0, .int .i32 0, .int .i32 0, .int .i32 0, .int .i32 0, .int .i32 0, .int .i32 0, .int .i32 0]) (t := 26) ?hr ?_; (case hd => rfl); (case hg => rfl); (case hr => first | (go_simp; done) | (go_simp; rfl))
                 intro b473 hg w86 hbox hb
                 have n0_ := aM (bB (by (with_reducible repeat first | apply bN | apply bD | apply bA); exact BK452.out) hb)
                 have n1_ := aM (bB (by (with_reducible repeat first | apply bN | apply bD | apply bA); exact BK453.out) hb)
                 have n2_ := aM (bB (by (with_reducible repeat first | apply bN | apply bD | apply bA); exact BK463.out) hb)
                 have n3_ := aM (bB (by (with_reducible repeat first | apply bN | apply bD | apply bA); exact BK470.out) hb)
                 have n4_ := aM (lT (by repeat (first | (with_reducible first | exact HB.out | apply lA | apply lN | apply lD | refine lS ?_ GE452.out | refine lS ?_ GE453.out | refine lS ?_ GE463.out | refine lS ?_ GE470.out) | exact HB.out)) hb)
                 have n5_ := aM (hbox)
                 have n6_ := aM ((by rw [hg]; exact (lZ (by repeat (first | (with_reducible first | exact HB.out | apply lA | apply lN | apply lD | refine lS ?_ GE452.out | refine lS ?_ GE453.out | refine lS ?_ GE463.out | refine lS ?_ GE470.out) | exact HB.out))) : w.heap.size ≤ b473))
                 have n7_ := aM ((by rw [hg]; exact (lZ (by repeat (first | (with_reducible first | exact HB.out | apply lA | apply lN | apply lD | refine lS ?_ GE452.out | refine lS ?_ GE453.out | refine lS ?_ GE463.out | refine lS ?_ GE470.out) | exact HB.out))) : w.heap.size ≤ b473))
                 have n8_ := aM ((by rw [hg]; exact Nat.ne_of_lt (bL (g := b452) (by (with_reducible repeat first | apply bN | apply bD | apply bA); exact BK452.out)) : b452 ≠ b473))
                 have n9_ := aM ((by rw [hg]; exact Nat.ne_of_gt (bL (g := b452) (by (with_reducible repeat first | apply bN | apply bD | apply bA); exact BK452.out)) : b473 ≠ b452))
                 have n10_ := aM ((by rw [hg]; exact Nat.ne_of_lt (bL (g := b453) (by (with_reducible repeat first | apply bN | apply bD | apply bA); exact BK453.out)) : b453 ≠ b473))
                 have n11_ := aM ((by rw [hg]; exact Nat.ne_of_gt (bL (g := b453) (by (with_reducible repeat first | apply bN | apply bD | apply bA); exact BK453.out)) : b473 ≠ b453))
                 have n12_ := aM ((by rw [hg]; exact Nat.ne_of_lt (bL (g := b463) (by (with_reducible repeat first | apply bN | apply bD | apply bA); exact BK463.out)) : b463 ≠ b473))
                 have n13_ := aM ((by rw [hg]; exact Nat.ne_of_gt (bL (g := b463) (by (with_reducible repeat first | apply bN | apply bD | apply bA); exact BK463.out)) : b473 ≠ b463))
                 have n14_ := aM ((by rw [hg]; exact Nat.ne_of_lt (bL (g := b470) (by (with_reducible repeat first | apply bN | apply bD | apply bA); exact BK470.out)) : b470 ≠ b473))
                 have n15_ := aM ((by rw [hg]; exact Nat.ne_of_gt (bL (g := b470) (by (with_reducible repeat first | apply bN | apply bD | apply bA); exact BK470.out)) : b473 ≠ b470))
                 clear BK452
                 clear BK453
                 clear BK463
                 clear BK470
                 clear HB
                 have BK452 := n0_
                 have BK453 := n1_
                 have BK463 := n2_
                 have BK470 := n3_
                 have HB := n4_
                 have BK473 := n5_
                 have GW473 := n6_
                 have GE473 := n7_
                 have N12_ := n8_
                 have N13_ := n9_
                 have N14_ := n10_
                 have N15_ := n11_
                 have N16_ := n12_
                 have N17_ := n13_
                 have N18_ := n14_
                 have N19_ := n15_
                 clear n0_ n1_ n2_ n3_ n4_ n5_ n6_ n7_ n8_ n9_ n10_ n11_ n12_ n13_ n14_ n15_
                 clear hb hbox hg
                 refine hK.out _ _ ⟨(bC BK452.out 0).trans rfl, (bC BK452.out 1).trans rfl, (bC BK452.out 2).trans rfl, (bC BK452.out 3).trans rfl, (bC BK452.out 4).trans rfl, (bC BK452.out 5).trans rfl, (bC BK452.out 6).trans rfl, (bC BK452.out 7).trans rfl, (bC BK452.out 8).trans rfl, (bC BK452.out 9).trans rfl, (bC BK453.out 0).trans rfl, (bC BK453.out 1).trans rfl, (bC BK453.out 2).trans rfl, (bC BK453.out 3).trans rfl, (bC BK453.out 4).trans rfl, (bC BK453.out 5).trans rfl, (bC BK453.out 6).trans rfl, (bC BK453.out 7).trans rfl, (bC BK453.out 8).trans rfl, (bC BK453.out 9).trans rfl⟩ (fun hHeld => ?_)
                 clear hK K
                 refine norm_ (a' := ?_) ?_ ?_
                 rotate_left
                 ·show Act.put _ (some 9) _ = _
                  simp only [Act.put, sA, sB, sC, i64_w, i32_w]
                  rfl
                 refine one_ (i := 3) (N := some 10) #[T,T,T,T,F,F] rfl rfl (by kernel_rfl) (by decide) (fun K hK => ?_)
                 refine box_step ?hg (N := 10) ?hd (cs := #[.int .u32 0, .int .i32 0, .int .i32 0, .int .i32 0, .int .i32 0, .int .i32 0, .int .i32 0, .int .i32 0, .int .i32 0, .int .i32 0]) (t := 26) ?hr ?_; (case hd => rfl); (case hg => rfl); (case hr => first | (go_simp; done) | (go_simp; rfl))
                 intro b474 hg w87 hbox hb
                 have n0_ := aM (bB (by (with_reducible repeat first | apply bN | apply bD | apply bA); exact BK452.out) hb)
                 have n1_ := aM (bB (by (with_reducible repeat first | apply bN | apply bD | apply bA); exact BK453.out) hb)
                 have n2_ := aM (bB (by (with_reducible repeat first | apply bN | apply bD | apply bA); exact BK463.out) hb)
                 have n3_ := aM (bB (by (with_reducible repeat first | apply bN | apply bD | apply bA); exact BK470.out) hb)
                 have n4_ := aM (bB (by (with_reducible repeat first | apply bN | apply bD | apply bA); exact BK473.out) hb)
                 have n5_ := aM (lT (by repeat (first | (with_reducible first | exact HB.out | apply lA | apply lN | apply lD | refine lS ?_ GE452.out | refine lS ?_ GE453.out | refine lS ?_ GE463.out | refine lS ?_ GE470.out | refine lS ?_ GE473.out) | exact HB.out)) hb)
                 have n6_ := aM (hbox)
                 have n7_ := aM ((by rw [hg]; exact (lZ (by repeat (first | (with_reducible first | exact HB.out | apply lA | apply lN | apply lD | refine lS ?_ GE452.out | refine lS ?_ GE453.out | refine lS ?_ GE463.out | refine lS ?_ GE470.out | refine lS ?_ GE473.out) | exact HB.out))) : w.heap.size ≤ b474))
                 have n8_ := aM ((by rw [hg]; exact (lZ (by repeat (first | (with_reducible first | exact HB.out | apply lA | apply lN | apply lD | refine lS ?_ GE452.out | refine lS ?_ GE453.out | refine lS ?_ GE463.out | refine lS ?_ GE470.out | refine lS ?_ GE473.out) | exact HB.out))) : w.heap.size ≤ b474))
                 have n9_ := aM ((by rw [hg]; exact Nat.ne_of_lt (bL (g := b452) (by (with_reducible repeat first | apply bN | apply bD | apply bA); exact BK452.out)) : b452 ≠ b474))
                 have n10_ := aM ((by rw [hg]; exact Nat.ne_of_gt (bL (g := b452) (by (with_reducible repeat first | apply bN | apply bD | apply bA); exact BK452.out)) : b474 ≠ b452))
                 have n11_ := aM ((by rw [hg]; exact Nat.ne_of_lt (bL (g := b453) (by (with_reducible repeat first | apply bN | apply bD | apply bA); exact BK453.out)) : b453 ≠ b474))
                 have n12_ := aM ((by rw [hg]; exact Nat.ne_of_gt (bL (g := b453) (by (with_reducible repeat first | apply bN | apply bD | apply bA); exact BK453.out)) : b474 ≠ b453))
                 have n13_ := aM ((by rw [hg]; exact Nat.ne_of_lt (bL (g := b463) (by (with_reducible repeat first | apply bN | apply bD | apply bA); exact BK463.out)) : b463 ≠ b474))
                 have n14_ := aM ((by rw [hg]; exact Nat.ne_of_gt (bL (g := b463) (by (with_reducible repeat first | apply bN | apply bD | apply bA); exact BK463.out)) : b474 ≠ b463))
                 have n15_ := aM ((by rw [hg]; exact Nat.ne_of_lt (bL (g := b470) (by (with_reducible repeat first | apply bN | apply bD | apply bA); exact BK470.out)) : b470 ≠ b474))
                 have n16_ := aM ((by rw [hg]; exact Nat.ne_of_gt (bL (g := b470) (by (with_reducible repeat first | apply bN | apply bD | apply bA); exact BK470.out)) : b474 ≠ b470))
                 have n17_ := aM ((by rw [hg]; exact Nat.ne_of_lt (bL (g := b473) (by (with_reducible repeat first | apply bN | apply bD | apply bA); exact BK473.out)) : b473 ≠ b474))
                 have n18_ := aM ((by rw [hg]; exact Nat.ne_of_gt (bL (g := b473) (by (with_reducible repeat first | apply bN | apply bD | apply bA); exact BK473.out)) : b474 ≠ b473))
                 clear BK452
                 clear BK453
                 clear BK463
                 clear BK470
                 clear BK473
                 clear HB
                 have BK452 := n0_
                 have BK453 := n1_
                 have BK463 := n2_
                 have BK470 := n3_
                 have BK473 := n4_
                 have HB := n5_
                 have BK474 := n6_
                 have GW474 := n7_
                 have GE474 := n8_
                 have N20_ := n9_
                 have N21_ := n10_
                 have N22_ := n11_
                 have N23_ := n12_
                 have N24_ := n13_
                 have N25_ := n14_
                 have N26_ := n15_
                 have N27_ := n16_
                 have N28_ := n17_
                 have N29_ := n18_
                 clear n0_ n1_ n2_ n3_ n4_ n5_ n6_ n7_ n8_ n9_ n10_ n11_ n12_ n13_ n14_ n15_ n16_ n17_ n18_
                 clear hb hbox hg
                 refine hK.out _ _ ⟨(bC BK452.out 0).trans rfl, (bC BK452.out 1).trans rfl, (bC BK452.out 2).trans rfl, (bC BK452.out 3).trans rfl, (bC BK452.out 4).trans rfl, (bC BK452.out 5).trans rfl, (bC BK452.out 6).trans rfl, (bC BK452.out 7).trans rfl, (bC BK452.out 8).trans rfl, (bC BK452.out 9).trans rfl, (bC BK453.out 0).trans rfl, (bC BK453.out 1).trans rfl, (bC BK453.out 2).trans rfl, (bC BK453.out 3).trans rfl, (bC BK453.out 4).trans rfl, (bC BK453.out 5).trans rfl, (bC BK453.out 6).trans rfl, (bC BK453.out 7).trans rfl, (bC BK453.out 8).trans rfl, (bC BK453.out 9).trans rfl⟩ (fun hHeld => ?_)
                 clear hK K
                 refine norm_ (a' := ?_) ?_ ?_
                 rotate_left
                 ·show Act.put _ (some 10) _ = _
                  simp only [Act.put, sA, sB, sC, i64_w, i32_w]
                  rfl
                 exact norm_ (by simp only [putAll, Act.put, sA, sB, sC]) (hCont (b473, b474) _ ⟨hHeld, (by (with_reducible repeat first | apply bN | apply bD | apply bA); exact BK452.out), (by (with_reducible repeat first | apply bN | apply bD | apply bA); exact BK453.out), (by (with_reducible repeat first | apply bN | apply bD | apply bA); exact BK463.out), (by (with_reducible repeat first | apply bN | apply bD | apply bA); exact BK470.out), (by (with_reducible repeat first | apply bN | apply bD | apply bA); exact BK473.out), (by (with_reducible repeat first | apply bN | apply bD | apply bA); exact BK474.out), GW473.out, GE473.out, N12_.out, N13_.out, N14_.out, N15_.out, N16_.out, N17_.out, N18_.out, N19_.out, N29_.out, N28_.out, GW474.out, GE474.out, N20_.out, N21_.out, N22_.out, N23_.out, N24_.out, N25_.out, N26_.out, N27_.out, (by repeat (first | (with_reducible first | exact HB.out | apply lA | apply lN | apply lD | refine lS ?_ GE452.out | refine lS ?_ GE453.out | refine lS ?_ GE463.out | refine lS ?_ GE470.out | refine lS ?_ GE473.out | refine lS ?_ GE474.out) | exact HB.out))⟩)
                ·skip
                 refine box_step ?hg (N := 10) ?hd (cs := #[.int .u32 0, .int .i32 0, .int .i32 0, .int .i32 0, .int .i32 0, .int .i32 0, .int .i32 0, .int .i32 0, .int .i32 0, .int .i32 0]) (t := 26) ?hr ?_; (case hd => rfl); (case hg => rfl); (case hr => first | (go_simp; done) | (go_simp; rfl))
                 intro b474 hg w86 hbox hb
                 have n0_ := aM (bB (by (with_reducible repeat first | apply bN | apply bD | apply bA); exact BK452.out) hb)
                 have n1_ := aM (bB (by (with_reducible repeat first | apply bN | apply bD | apply bA); exact BK453.out) hb)
                 have n2_ := aM (bB (by (with_reducible repeat first | apply bN | apply bD | apply bA); exact BK463.out) hb)
                 have n3_ := aM (bB (by (with_reducible repeat first | apply bN | apply bD | apply bA); exact BK470.out) hb)
                 have n4_ := aM (lT (by repeat (first | (with_reducible first | exact HB.out | apply lA | apply lN | apply lD | refine lS ?_ GE452.out | refine lS ?_ GE453.out | refine lS ?_ GE463.out | refine lS ?_ GE470.out) | exact HB.out)) hb)
                 have n5_ := aM (hbox)
                 have n6_ := aM ((by rw [hg]; exact (lZ (by repeat (first | (with_reducible first | exact HB.out | apply lA | apply lN | apply lD | refine lS ?_ GE452.out | refine lS ?_ GE453.out | refine lS ?_ GE463.out | refine lS ?_ GE470.out) | exact HB.out))) : w.heap.size ≤ b474))
                 have n7_ := aM ((by rw [hg]; exact (lZ (by repeat (first | (with_reducible first | exact HB.out | apply lA | apply lN | apply lD | refine lS ?_ GE452.out | refine lS ?_ GE453.out | refine lS ?_ GE463.out | refine lS ?_ GE470.out) | exact HB.out))) : w.heap.size ≤ b474))
                 have n8_ := aM ((by rw [hg]; exact Nat.ne_of_lt (bL (g := b452) (by (with_reducible repeat first | apply bN | apply bD | apply bA); exact BK452.out)) : b452 ≠ b474))
                 have n9_ := aM ((by rw [hg]; exact Nat.ne_of_gt (bL (g := b452) (by (with_reducible repeat first | apply bN | apply bD | apply bA); exact BK452.out)) : b474 ≠ b452))
                 have n10_ := aM ((by rw [hg]; exact Nat.ne_of_lt (bL (g := b453) (by (with_reducible repeat first | apply bN | apply bD | apply bA); exact BK453.out)) : b453 ≠ b474))
                 have n11_ := aM ((by rw [hg]; exact Nat.ne_of_gt (bL (g := b453) (by (with_reducible repeat first | apply bN | apply bD | apply bA); exact BK453.out)) : b474 ≠ b453))
                 have n12_ := aM ((by rw [hg]; exact Nat.ne_of_lt (bL (g := b463) (by (with_reducible repeat first | apply bN | apply bD | apply bA); exact BK463.out)) : b463 ≠ b474))
                 have n13_ := aM ((by rw [hg]; exact Nat.ne_of_gt (bL (g := b463) (by (with_reducible repeat first | apply bN | apply bD | apply bA); exact BK463.out)) : b474 ≠ b463))
                 have n14_ := aM ((by rw [hg]; exact Nat.ne_of_lt (bL (g := b470) (by (with_reducible repeat first | apply bN | apply bD | apply bA); exact BK470.out)) : b470 ≠ b474))
                 have n15_ := aM ((by rw [hg]; exact Nat.ne_of_gt (bL (g := b470) (by (with_reducible repeat first | apply bN | apply bD | apply bA); exact BK470.out)) : b474 ≠ b470))
                 clear BK452
                 clear BK453
                 clear BK463
                 clear BK470
                 clear HB
                 have BK452 := n0_
                 have BK453 := n1_
                 have BK463 := n2_
                 have BK470 := n3_
                 have HB := n4_
                 have BK474 := n5_
                 have GW474 := n6_
                 have GE474 := n7_
                 have N20_ := n8_
                 have N21_ := n9_
                 have N22_ := n10_
                 have N23_ := n11_
                 have N24_ := n12_
                 have N25_ := n13_
                 have N26_ := n14_
                 have N27_ := n15_
                 clear n0_ n1_ n2_ n3_ n4_ n5_ n6_ n7_ n8_ n9_ n10_ n11_ n12_ n13_ n14_ n15_
                 clear hb hbox hg
                 refine hK.out _ _ ⟨(bC BK452.out 0).trans rfl, (bC BK452.out 1).trans rfl, (bC BK452.out 2).trans rfl, (bC BK452.out 3).trans rfl, (bC BK452.out 4).trans rfl, (bC BK452.out 5).trans rfl, (bC BK452.out 6).trans rfl, (bC BK452.out 7).trans rfl, (bC BK452.out 8).trans rfl, (bC BK452.out 9).trans rfl, (bC BK453.out 0).trans rfl, (bC BK453.out 1).trans rfl, (bC BK453.out 2).trans rfl, (bC BK453.out 3).trans rfl, (bC BK453.out 4).trans rfl, (bC BK453.out 5).trans rfl, (bC BK453.out 6).trans rfl, (bC BK453.out 7).trans rfl, (bC BK453.out 8).trans rfl, (bC BK453.out 9).trans rfl⟩ (fun hHeld => ?_)
                 clear hK K
                 refine norm_ (a' := ?_) ?_ ?_
                 rotate_left
                 ·show Act.put _ (some 10) _ = _
                  simp only [Act.put, sA, sB, sC, i64_w, i32_w]
                  rfl
                 refine one_ (i := 2) (N := some 9) #[T,T,T,T,F,F] rfl rfl (by kernel_rfl) (by decide) (fun K hK => ?_)
                 refine box_step ?hg (N := 9) ?hd (cs := #[.int .u32 0, .int .i32 0, .int .i32 0, .int .i32 0, .int .i32 0, .int .i32 0, .int .i32 0, .int .i32 0, .int .i32 0, .int .i32 0]) (t := 26) ?hr ?_; (case hd => rfl); (case hg => rfl); (case hr => first | (go_simp; done) | (go_simp; rfl))
                 intro b473 hg w87 hbox hb
                 have n0_ := aM (bB (by (with_reducible repeat first | apply bN | apply bD | apply bA); exact BK452.out) hb)
                 have n1_ := aM (bB (by (with_reducible repeat first | apply bN | apply bD | apply bA); exact BK453.out) hb)
                 have n2_ := aM (bB (by (with_reducible repeat first | apply bN | apply bD | apply bA); exact BK463.out) hb)
                 have n3_ := aM (bB (by (with_reducible repeat first | apply bN | apply bD | apply bA); exact BK470.out) hb)
                 have n4_ := aM (bB (by (with_reducible repeat first | apply bN | apply bD | apply bA); exact BK474.out) hb)
                 have n5_ := aM (lT (by repeat (first | (with_reducible first | exact HB.out | apply lA | apply lN | apply lD | refine lS ?_ GE452.out | refine lS ?_ GE453.out | refine lS ?_ GE463.out | refine lS ?_ GE470.out | refine lS ?_ GE474.out) | exact HB.out)) hb)
                 have n6_ := aM (hbox)
                 have n7_ := aM ((by rw [hg]; exact (lZ (by repeat (first | (with_reducible first | exact HB.out | apply lA | apply lN | apply lD | refine lS ?_ GE452.out | refine lS ?_ GE453.out | refine lS ?_ GE463.out | refine lS ?_ GE470.out | refine lS ?_ GE474.out) | exact HB.out))) : w.heap.size ≤ b473))
                 have n8_ := aM ((by rw [hg]; exact (lZ (by repeat (first | (with_reducible first | exact HB.out | apply lA | apply lN | apply lD | refine lS ?_ GE452.out | refine lS ?_ GE453.out | refine lS ?_ GE463.out | refine lS ?_ GE470.out | refine lS ?_ GE474.out) | exact HB.out))) : w.heap.size ≤ b473))
                 have n9_ := aM ((by rw [hg]; exact Nat.ne_of_lt (bL (g := b452) (by (with_reducible repeat first | apply bN | apply bD | apply bA); exact BK452.out)) : b452 ≠ b473))
                 have n10_ := aM ((by rw [hg]; exact Nat.ne_of_gt (bL (g := b452) (by (with_reducible repeat first | apply bN | apply bD | apply bA); exact BK452.out)) : b473 ≠ b452))
                 have n11_ := aM ((by rw [hg]; exact Nat.ne_of_lt (bL (g := b453) (by (with_reducible repeat first | apply bN | apply bD | apply bA); exact BK453.out)) : b453 ≠ b473))
                 have n12_ := aM ((by rw [hg]; exact Nat.ne_of_gt (bL (g := b453) (by (with_reducible repeat first | apply bN | apply bD | apply bA); exact BK453.out)) : b473 ≠ b453))
                 have n13_ := aM ((by rw [hg]; exact Nat.ne_of_lt (bL (g := b463) (by (with_reducible repeat first | apply bN | apply bD | apply bA); exact BK463.out)) : b463 ≠ b473))
                 have n14_ := aM ((by rw [hg]; exact Nat.ne_of_gt (bL (g := b463) (by (with_reducible repeat first | apply bN | apply bD | apply bA); exact BK463.out)) : b473 ≠ b463))
                 have n15_ := aM ((by rw [hg]; exact Nat.ne_of_lt (bL (g := b470) (by (with_reducible repeat first | apply bN | apply bD | apply bA); exact BK470.out)) : b470 ≠ b473))
                 have n16_ := aM ((by rw [hg]; exact Nat.ne_of_gt (bL (g := b470) (by (with_reducible repeat first | apply bN | apply bD | apply bA); exact BK470.out)) : b473 ≠ b470))
                 have n17_ := aM ((by rw [hg]; exact Nat.ne_of_lt (bL (g := b474) (by (with_reducible repeat first | apply bN | apply bD | apply bA); exact BK474.out)) : b474 ≠ b473))
                 have n18_ := aM ((by rw [hg]; exact Nat.ne_of_gt (bL (g := b474) (by (with_reducible repeat first | apply bN | apply bD | apply bA); exact BK474.out)) : b473 ≠ b474))
                 clear BK452
                 clear BK453
                 clear BK463
                 clear BK470
                 clear BK474
                 clear HB
                 have BK452 := n0_
                 have BK453 := n1_
                 have BK463 := n2_
                 have BK470 := n3_
                 have BK474 := n4_
                 have HB := n5_
                 have BK473 := n6_
                 have GW473 := n7_
                 have GE473 := n8_
                 have N12_ := n9_
                 have N13_ := n10_
                 have N14_ := n11_
                 have N15_ := n12_
                 have N16_ := n13_
                 have N17_ := n14_
                 have N18_ := n15_
                 have N19_ := n16_
                 have N29_ := n17_
                 have N28_ := n18_
                 clear n0_ n1_ n2_ n3_ n4_ n5_ n6_ n7_ n8_ n9_ n10_ n11_ n12_ n13_ n14_ n15_ n16_ n17_ n18_
                 clear hb hbox hg
                 refine hK.out _ _ ⟨(bC BK452.out 0).trans rfl, (bC BK452.out 1).trans rfl, (bC BK452.out 2).trans rfl, (bC BK452.out 3).trans rfl, (bC BK452.out 4).trans rfl, (bC BK452.out 5).trans rfl, (bC BK452.out 6).trans rfl, (bC BK452.out 7).trans rfl, (bC BK452.out 8).trans rfl, (bC BK452.out 9).trans rfl, (bC BK453.out 0).trans rfl, (bC BK453.out 1).trans rfl, (bC BK453.out 2).trans rfl, (bC BK453.out 3).trans rfl, (bC BK453.out 4).trans rfl, (bC BK453.out 5).trans rfl, (bC BK453.out 6).trans rfl, (bC BK453.out 7).trans rfl, (bC BK453.out 8).trans rfl, (bC BK453.out 9).trans rfl⟩ (fun hHeld => ?_)
                 clear hK K
                 refine norm_ (a' := ?_) ?_ ?_
                 rotate_left
                 ·show Act.put _ (some 9) _ = _
                  simp only [Act.put, sA, sB, sC, i64_w, i32_w]
                  rfl
                 exact norm_ (by simp only [putAll, Act.put, sA, sB, sC]) (hCont (b473, b474) _ ⟨hHeld, (by (with_reducible repeat first | apply bN | apply bD | apply bA); exact BK452.out), (by (with_reducible repeat first | apply bN | apply bD | apply bA); exact BK453.out), (by (with_reducible repeat first | apply bN | apply bD | apply bA); exact BK463.out), (by (with_reducible repeat first | apply bN | apply bD | apply bA); exact BK470.out), (by (with_reducible repeat first | apply bN | apply bD | apply bA); exact BK473.out), (by (with_reducible repeat first | apply bN | apply bD | apply bA); exact BK474.out), GW473.out, GE473.out, N12_.out, N13_.out, N14_.out, N15_.out, N16_.out, N17_.out, N18_.out, N19_.out, N29_.out, N28_.out, GW474.out, GE474.out, N20_.out, N21_.out, N22_.out, N23_.out, N24_.out, N25_.out, N26_.out, N27_.out, (by repeat (first | (with_reducible first | exact HB.out | apply lA | apply lN | apply lD | refine lS ?_ GE452.out | refine lS ?_ GE453.out | refine lS ?_ GE463.out | refine lS ?_ GE470.out | refine lS ?_ GE474.out | refine lS ?_ GE473.out) | exact HB.out))⟩)
               rintro ⟨b473, b474⟩ w88 ⟨hS_, h0_, h1_, h2_, h3_, h4_, h5_, h6_, h7_, h8_, h9_, h10_, h11_, h12_, h13_, h14_, h15_, h16_, h17_, h18_, h19_, h20_, h21_, h22_, h23_, h24_, h25_, h26_, h27_, h28_⟩
               have n0_ : Aside0 (w88.heap[b452]? = some (.cells #[.int .u32 a0_0, .int .i32 a0_1, .int .i32 a0_2, .int .i32 a0_3, .int .i32 a0_4, .int .i32 a0_5, .int .i32 a0_6, .int .i32 a0_7, .int .i32 a0_8, .int .i32 a0_9] 26 (0, 0))) := ⟨h0_⟩
               have n1_ : Aside0 (w88.heap[b453]? = some (.cells #[.int .u32 a1_0, .int .i32 a1_1, .int .i32 a1_2, .int .i32 a1_3, .int .i32 a1_4, .int .i32 a1_5, .int .i32 a1_6, .int .i32 a1_7, .int .i32 a1_8, .int .i32 a1_9] 26 (0, 0))) := ⟨h1_⟩
               have n2_ : Aside0 (w88.heap[b463]? = some (.cells #[.int .u32 t457, .int .u32 t458, .int .i32 t459, .int .i32 t460, .int .i32 t461] 32 (0, 0))) := ⟨h2_⟩
               have n3_ : Aside0 (w88.heap[b470]? = some (.cells #[.int .u32 t464, .int .u32 t465, .int .i32 t466, .int .i32 t467, .int .i32 t468] 32 (0, 0))) := ⟨h3_⟩
               have n4_ : Aside0 (w88.heap[b473]? = some (.cells #[.int .u32 0, .int .i32 0, .int .i32 0, .int .i32 0, .int .i32 0, .int .i32 0, .int .i32 0, .int .i32 0, .int .i32 0, .int .i32 0] 26 (0, 0))) := ⟨h4_⟩
               have n5_ : Aside0 (w88.heap[b474]? = some (.cells #[.int .u32 0, .int .i32 0, .int .i32 0, .int .i32 0, .int .i32 0, .int .i32 0, .int .i32 0, .int .i32 0, .int .i32 0, .int .i32 0] 26 (0, 0))) := ⟨h5_⟩
               have n6_ : Aside0 (w.heap.size ≤ b473) := ⟨h6_⟩
               have n7_ : Aside0 (w.heap.size ≤ b473) := ⟨h7_⟩
               have n8_ : Aside0 (b452 ≠ b473) := ⟨h8_⟩
               have n9_ : Aside0 (b473 ≠ b452) := ⟨h9_⟩
               have n10_ : Aside0 (b453 ≠ b473) := ⟨h10_⟩
               have n11_ : Aside0 (b473 ≠ b453) := ⟨h11_⟩
               have n12_ : Aside0 (b463 ≠ b473) := ⟨h12_⟩
               have n13_ : Aside0 (b473 ≠ b463) := ⟨h13_⟩
               have n14_ : Aside0 (b470 ≠ b473) := ⟨h14_⟩
               have n15_ : Aside0 (b473 ≠ b470) := ⟨h15_⟩
               have n16_ : Aside0 (b474 ≠ b473) := ⟨h16_⟩
               have n17_ : Aside0 (b473 ≠ b474) := ⟨h17_⟩
               have n18_ : Aside0 (w.heap.size ≤ b474) := ⟨h18_⟩
               have n19_ : Aside0 (w.heap.size ≤ b474) := ⟨h19_⟩
               have n20_ : Aside0 (b452 ≠ b474) := ⟨h20_⟩
               have n21_ : Aside0 (b474 ≠ b452) := ⟨h21_⟩
               have n22_ : Aside0 (b453 ≠ b474) := ⟨h22_⟩
               have n23_ : Aside0 (b474 ≠ b453) := ⟨h23_⟩
               have n24_ : Aside0 (b463 ≠ b474) := ⟨h24_⟩
               have n25_ : Aside0 (b474 ≠ b463) := ⟨h25_⟩
               have n26_ : Aside0 (b470 ≠ b474) := ⟨h26_⟩
               have n27_ : Aside0 (b474 ≠ b470) := ⟨h27_⟩
               have n28_ : Aside0 (Below w.heap.size w w88) := ⟨h28_⟩
               clear BK452
               clear BK453
               clear BK463
               clear BK470
               clear HB
               clear h0_ h1_ h2_ h3_ h4_ h5_ h6_ h7_ h8_ h9_ h10_ h11_ h12_ h13_ h14_ h15_ h16_ h17_ h18_ h19_ h20_ h21_ h22_ h23_ h24_ h25_ h26_ h27_ h28_
               have BK452 := n0_
               have BK453 := n1_
               have BK463 := n2_
               have BK470 := n3_
               have BK473 := n4_
               have BK474 := n5_
               have GW473 := n6_
               have GE473 := n7_
               have N12_ := n8_
               have N13_ := n9_
               have N14_ := n10_
               have N15_ := n11_
               have N16_ := n12_
               have N17_ := n13_
               have N18_ := n14_
               have N19_ := n15_
               have N29_ := n16_
               have N28_ := n17_
               have GW474 := n18_
               have GE474 := n19_
               have N20_ := n20_
               have N21_ := n21_
               have N22_ := n22_
               have N23_ := n23_
               have N24_ := n24_
               have N25_ := n25_
               have N26_ := n26_
               have N27_ := n27_
               have HB := n28_
               clear n0_ n1_ n2_ n3_ n4_ n5_ n6_ n7_ n8_ n9_ n10_ n11_ n12_ n13_ n14_ n15_ n16_ n17_ n18_ n19_ n20_ n21_ n22_ n23_ n24_ n25_ n26_ n27_ n28_
               have hHeld : w88.cell? ⟨b452, 0, none⟩ = some (.int .u32 a0_0) ∧ w88.cell? ⟨b452, 1, none⟩ = some (.int .i32 a0_1) ∧ w88.cell? ⟨b452, 2, none⟩ = some (.int .i32 a0_2) ∧ w88.cell? ⟨b452, 3, none⟩ = some (.int .i32 a0_3) ∧ w88.cell? ⟨b452, 4, none⟩ = some (.int .i32 a0_4) ∧ w88.cell? ⟨b452, 5, none⟩ = some (.int .i32 a0_5) ∧ w88.cell? ⟨b452, 6, none⟩ = some (.int .i32 a0_6) ∧ w88.cell? ⟨b452, 7, none⟩ = some (.int .i32 a0_7) ∧ w88.cell? ⟨b452, 8, none⟩ = some (.int .i32 a0_8) ∧ w88.cell? ⟨b452, 9, none⟩ = some (.int .i32 a0_9) ∧ w88.cell? ⟨b453, 0, none⟩ = some (.int .u32 a1_0) ∧ w88.cell? ⟨b453, 1, none⟩ = some (.int .i32 a1_1) ∧ w88.cell? ⟨b453, 2, none⟩ = some (.int .i32 a1_2) ∧ w88.cell? ⟨b453, 3, none⟩ = some (.int .i32 a1_3) ∧ w88.cell? ⟨b453, 4, none⟩ = some (.int .i32 a1_4) ∧ w88.cell? ⟨b453, 5, none⟩ = some (.int .i32 a1_5) ∧ w88.cell? ⟨b453, 6, none⟩ = some (.int .i32 a1_6) ∧ w88.cell? ⟨b453, 7, none⟩ = some (.int .i32 a1_7) ∧ w88.cell? ⟨b453, 8, none⟩ = some (.int .i32 a1_8) ∧ w88.cell? ⟨b453, 9, none⟩ = some (.int .i32 a1_9) := hS_
               refine norm_ (a' := ?_) ?_ ?_
               rotate_left
               ·simp only [putAll, Act.put, sA, sB, sC]
                rfl
               refine one_ (i := 4) (N := none) #[T,T,T,T,T,F] rfl rfl (by kernel_rfl) (by decide) (fun K hK => ?_)
               refine skip_store10 (by rfl) rfl rfl rfl rfl BK473.out rfl (by kernel_rfl) rfl ?_
               refine hK.out _ _ ⟨(fc10 N12_.out (hHeld.1)), (fc10 N12_.out (hHeld.2.1)), (fc10 N12_.out (hHeld.2.2.1)), (fc10 N12_.out (hHeld.2.2.2.1)), (fc10 N12_.out (hHeld.2.2.2.2.1)), (fc10 N12_.out (hHeld.2.2.2.2.2.1)), (fc10 N12_.out (hHeld.2.2.2.2.2.2.1)), (fc10 N12_.out (hHeld.2.2.2.2.2.2.2.1)), (fc10 N12_.out (hHeld.2.2.2.2.2.2.2.2.1)), (fc10 N12_.out (hHeld.2.2.2.2.2.2.2.2.2.1)), (fc10 N14_.out (hHeld.2.2.2.2.2.2.2.2.2.2.1)), (fc10 N14_.out (hHeld.2.2.2.2.2.2.2.2.2.2.2.1)), (fc10 N14_.out (hHeld.2.2.2.2.2.2.2.2.2.2.2.2.1)), (fc10 N14_.out (hHeld.2.2.2.2.2.2.2.2.2.2.2.2.2.1)), (fc10 N14_.out (hHeld.2.2.2.2.2.2.2.2.2.2.2.2.2.2.1)), (fc10 N14_.out (hHeld.2.2.2.2.2.2.2.2.2.2.2.2.2.2.2.1)), (fc10 N14_.out (hHeld.2.2.2.2.2.2.2.2.2.2.2.2.2.2.2.2.1)), (fc10 N14_.out (hHeld.2.2.2.2.2.2.2.2.2.2.2.2.2.2.2.2.2.1)), (fc10 N14_.out (hHeld.2.2.2.2.2.2.2.2.2.2.2.2.2.2.2.2.2.2.1)), (fc10 N14_.out (hHeld.2.2.2.2.2.2.2.2.2.2.2.2.2.2.2.2.2.2.2))⟩ (fun hHeld => ?_)
               clear hK K
               refine one_ (i := 5) (N := none) #[T,T,T,T,T,T] rfl rfl (by kernel_rfl) (by decide) (fun K hK => ?_)
               generalize hC_ : World.setCell _ _ _ = W_
               refine skip_store10 (by rfl) rfl rfl rfl rfl (show W_.heap[b474]? = _ from hC_ ▸ (far10 BK474.out N29_.out)) rfl (by kernel_rfl) rfl ?_
               subst hC_
               refine hK.out _ _ ⟨(fc10 N20_.out (hHeld.1)), (fc10 N20_.out (hHeld.2.1)), (fc10 N20_.out (hHeld.2.2.1)), (fc10 N20_.out (hHeld.2.2.2.1)), (fc10 N20_.out (hHeld.2.2.2.2.1)), (fc10 N20_.out (hHeld.2.2.2.2.2.1)), (fc10 N20_.out (hHeld.2.2.2.2.2.2.1)), (fc10 N20_.out (hHeld.2.2.2.2.2.2.2.1)), (fc10 N20_.out (hHeld.2.2.2.2.2.2.2.2.1)), (fc10 N20_.out (hHeld.2.2.2.2.2.2.2.2.2.1)), (fc10 N22_.out (hHeld.2.2.2.2.2.2.2.2.2.2.1)), (fc10 N22_.out (hHeld.2.2.2.2.2.2.2.2.2.2.2.1)), (fc10 N22_.out (hHeld.2.2.2.2.2.2.2.2.2.2.2.2.1)), (fc10 N22_.out (hHeld.2.2.2.2.2.2.2.2.2.2.2.2.2.1)), (fc10 N22_.out (hHeld.2.2.2.2.2.2.2.2.2.2.2.2.2.2.1)), (fc10 N22_.out (hHeld.2.2.2.2.2.2.2.2.2.2.2.2.2.2.2.1)), (fc10 N22_.out (hHeld.2.2.2.2.2.2.2.2.2.2.2.2.2.2.2.2.1)), (fc10 N22_.out (hHeld.2.2.2.2.2.2.2.2.2.2.2.2.2.2.2.2.2.1)), (fc10 N22_.out (hHeld.2.2.2.2.2.2.2.2.2.2.2.2.2.2.2.2.2.2.1)), (fc10 N22_.out (hHeld.2.2.2.2.2.2.2.2.2.2.2.2.2.2.2.2.2.2.2))⟩ (fun hHeld => ?_)
               clear hK K
               refine done_ (by kernel_rfl) ?_
               try go_wp2
               have n0_ : Aside0 (((((((((((((((((((((w88.setCell ⟨b473, 0, none⟩ (.int .u32 a0_0)).setCell ⟨b473, 1, none⟩ (.int .i32 a0_1)).setCell ⟨b473, 2, none⟩ (.int .i32 a0_2)).setCell ⟨b473, 3, none⟩ (.int .i32 a0_3)).setCell ⟨b473, 4, none⟩ (.int .i32 a0_4)).setCell ⟨b473, 5, none⟩ (.int .i32 a0_5)).setCell ⟨b473, 6, none⟩ (.int .i32 a0_6)).setCell ⟨b473, 7, none⟩ (.int .i32 a0_7)).setCell ⟨b473, 8, none⟩ (.int .i32 a0_8)).setCell ⟨b473, 9, none⟩ (.int .i32 a0_9)).setCell ⟨b474, 0, none⟩ (.int .u32 a1_0)).setCell ⟨b474, 1, none⟩ (.int .i32 a1_1)).setCell ⟨b474, 2, none⟩ (.int .i32 a1_2)).setCell ⟨b474, 3, none⟩ (.int .i32 a1_3)).setCell ⟨b474, 4, none⟩ (.int .i32 a1_4)).setCell ⟨b474, 5, none⟩ (.int .i32 a1_5)).setCell ⟨b474, 6, none⟩ (.int .i32 a1_6)).setCell ⟨b474, 7, none⟩ (.int .i32 a1_7)).setCell ⟨b474, 8, none⟩ (.int .i32 a1_8)).setCell ⟨b474, 9, none⟩ (.int .i32 a1_9)).heap[b452]? = some (.cells #[.int .u32 a0_0, .int .i32 a0_1, .int .i32 a0_2, .int .i32 a0_3, .int .i32 a0_4, .int .i32 a0_5, .int .i32 a0_6, .int .i32 a0_7, .int .i32 a0_8, .int .i32 a0_9] 26 (0, 0))) := ⟨by (with_reducible repeat first | apply bN | apply bD | apply bA); refine bR ?_ N20_.out _; (with_reducible repeat first | apply bN | apply bD | apply bA); refine bR ?_ N20_.out _; (with_reducible repeat first | apply bN | apply bD | apply bA); refine bR ?_ N20_.out _; (with_reducible repeat first | apply bN | apply bD | apply bA); refine bR ?_ N20_.out _; (with_reducible repeat first | apply bN | apply bD | apply bA); refine bR ?_ N20_.out _; (with_reducible repeat first | apply bN | apply bD | apply bA); refine bR ?_ N20_.out _; (with_reducible repeat first | apply bN | apply bD | apply bA); refine bR ?_ N20_.out _; (with_reducible repeat first | apply bN | apply bD | apply bA); refine bR ?_ N20_.out _; (with_reducible repeat first | apply bN | apply bD | apply bA); refine bR ?_ N20_.out _; (with_reducible repeat first | apply bN | apply bD | apply bA); refine bR ?_ N20_.out _; (with_reducible repeat first | apply bN | apply bD | apply bA); refine bR ?_ N12_.out _; (with_reducible repeat first | apply bN | apply bD | apply bA); refine bR ?_ N12_.out _; (with_reducible repeat first | apply bN | apply bD | apply bA); refine bR ?_ N12_.out _; (with_reducible repeat first | apply bN | apply bD | apply bA); refine bR ?_ N12_.out _; (with_reducible repeat first | apply bN | apply bD | apply bA); refine bR ?_ N12_.out _; (with_reducible repeat first | apply bN | apply bD | apply bA); refine bR ?_ N12_.out _; (with_reducible repeat first | apply bN | apply bD | apply bA); refine bR ?_ N12_.out _; (with_reducible repeat first | apply bN | apply bD | apply bA); refine bR ?_ N12_.out _; (with_reducible repeat first | apply bN | apply bD | apply bA); refine bR ?_ N12_.out _; (with_reducible repeat first | apply bN | apply bD | apply bA); refine bR ?_ N12_.out _; (with_reducible repeat first | apply bN | apply bD | apply bA); exact BK452.out⟩
               have n1_ : Aside0 (((((((((((((((((((((w88.setCell ⟨b473, 0, none⟩ (.int .u32 a0_0)).setCell ⟨b473, 1, none⟩ (.int .i32 a0_1)).setCell ⟨b473, 2, none⟩ (.int .i32 a0_2)).setCell ⟨b473, 3, none⟩ (.int .i32 a0_3)).setCell ⟨b473, 4, none⟩ (.int .i32 a0_4)).setCell ⟨b473, 5, none⟩ (.int .i32 a0_5)).setCell ⟨b473, 6, none⟩ (.int .i32 a0_6)).setCell ⟨b473, 7, none⟩ (.int .i32 a0_7)).setCell ⟨b473, 8, none⟩ (.int .i32 a0_8)).setCell ⟨b473, 9, none⟩ (.int .i32 a0_9)).setCell ⟨b474, 0, none⟩ (.int .u32 a1_0)).setCell ⟨b474, 1, none⟩ (.int .i32 a1_1)).setCell ⟨b474, 2, none⟩ (.int .i32 a1_2)).setCell ⟨b474, 3, none⟩ (.int .i32 a1_3)).setCell ⟨b474, 4, none⟩ (.int .i32 a1_4)).setCell ⟨b474, 5, none⟩ (.int .i32 a1_5)).setCell ⟨b474, 6, none⟩ (.int .i32 a1_6)).setCell ⟨b474, 7, none⟩ (.int .i32 a1_7)).setCell ⟨b474, 8, none⟩ (.int .i32 a1_8)).setCell ⟨b474, 9, none⟩ (.int .i32 a1_9)).heap[b453]? = some (.cells #[.int .u32 a1_0, .int .i32 a1_1, .int .i32 a1_2, .int .i32 a1_3, .int .i32 a1_4, .int .i32 a1_5, .int .i32 a1_6, .int .i32 a1_7, .int .i32 a1_8, .int .i32 a1_9] 26 (0, 0))) := ⟨by (with_reducible repeat first | apply bN | apply bD | apply bA); refine bR ?_ N22_.out _; (with_reducible repeat first | apply bN | apply bD | apply bA); refine bR ?_ N22_.out _; (with_reducible repeat first | apply bN | apply bD | apply bA); refine bR ?_ N22_.out _; (with_reducible repeat first | apply bN | apply bD | apply bA); refine bR ?_ N22_.out _; (with_reducible repeat first | apply bN | apply bD | apply bA); refine bR ?_ N22_.out _; (with_reducible repeat first | apply bN | apply bD | apply bA); refine bR ?_ N22_.out _; (with_reducible repeat first | apply bN | apply bD | apply bA); refine bR ?_ N22_.out _; (with_reducible repeat first | apply bN | apply bD | apply bA); refine bR ?_ N22_.out _; (with_reducible repeat first | apply bN | apply bD | apply bA); refine bR ?_ N22_.out _; (with_reducible repeat first | apply bN | apply bD | apply bA); refine bR ?_ N22_.out _; (with_reducible repeat first | apply bN | apply bD | apply bA); refine bR ?_ N14_.out _; (with_reducible repeat first | apply bN | apply bD | apply bA); refine bR ?_ N14_.out _; (with_reducible repeat first | apply bN | apply bD | apply bA); refine bR ?_ N14_.out _; (with_reducible repeat first | apply bN | apply bD | apply bA); refine bR ?_ N14_.out _; (with_reducible repeat first | apply bN | apply bD | apply bA); refine bR ?_ N14_.out _; (with_reducible repeat first | apply bN | apply bD | apply bA); refine bR ?_ N14_.out _; (with_reducible repeat first | apply bN | apply bD | apply bA); refine bR ?_ N14_.out _; (with_reducible repeat first | apply bN | apply bD | apply bA); refine bR ?_ N14_.out _; (with_reducible repeat first | apply bN | apply bD | apply bA); refine bR ?_ N14_.out _; (with_reducible repeat first | apply bN | apply bD | apply bA); refine bR ?_ N14_.out _; (with_reducible repeat first | apply bN | apply bD | apply bA); exact BK453.out⟩
               have n2_ : Aside0 (((((((((((((((((((((w88.setCell ⟨b473, 0, none⟩ (.int .u32 a0_0)).setCell ⟨b473, 1, none⟩ (.int .i32 a0_1)).setCell ⟨b473, 2, none⟩ (.int .i32 a0_2)).setCell ⟨b473, 3, none⟩ (.int .i32 a0_3)).setCell ⟨b473, 4, none⟩ (.int .i32 a0_4)).setCell ⟨b473, 5, none⟩ (.int .i32 a0_5)).setCell ⟨b473, 6, none⟩ (.int .i32 a0_6)).setCell ⟨b473, 7, none⟩ (.int .i32 a0_7)).setCell ⟨b473, 8, none⟩ (.int .i32 a0_8)).setCell ⟨b473, 9, none⟩ (.int .i32 a0_9)).setCell ⟨b474, 0, none⟩ (.int .u32 a1_0)).setCell ⟨b474, 1, none⟩ (.int .i32 a1_1)).setCell ⟨b474, 2, none⟩ (.int .i32 a1_2)).setCell ⟨b474, 3, none⟩ (.int .i32 a1_3)).setCell ⟨b474, 4, none⟩ (.int .i32 a1_4)).setCell ⟨b474, 5, none⟩ (.int .i32 a1_5)).setCell ⟨b474, 6, none⟩ (.int .i32 a1_6)).setCell ⟨b474, 7, none⟩ (.int .i32 a1_7)).setCell ⟨b474, 8, none⟩ (.int .i32 a1_8)).setCell ⟨b474, 9, none⟩ (.int .i32 a1_9)).heap[b463]? = some (.cells #[.int .u32 t457, .int .u32 t458, .int .i32 t459, .int .i32 t460, .int .i32 t461] 32 (0, 0))) := ⟨by (with_reducible repeat first | apply bN | apply bD | apply bA); refine bR ?_ N24_.out _; (with_reducible repeat first | apply bN | apply bD | apply bA); refine bR ?_ N24_.out _; (with_reducible repeat first | apply bN | apply bD | apply bA); refine bR ?_ N24_.out _; (with_reducible repeat first | apply bN | apply bD | apply bA); refine bR ?_ N24_.out _; (with_reducible repeat first | apply bN | apply bD | apply bA); refine bR ?_ N24_.out _; (with_reducible repeat first | apply bN | apply bD | apply bA); refine bR ?_ N24_.out _; (with_reducible repeat first | apply bN | apply bD | apply bA); refine bR ?_ N24_.out _; (with_reducible repeat first | apply bN | apply bD | apply bA); refine bR ?_ N24_.out _; (with_reducible repeat first | apply bN | apply bD | apply bA); refine bR ?_ N24_.out _; (with_reducible repeat first | apply bN | apply bD | apply bA); refine bR ?_ N24_.out _; (with_reducible repeat first | apply bN | apply bD | apply bA); refine bR ?_ N16_.out _; (with_reducible repeat first | apply bN | apply bD | apply bA); refine bR ?_ N16_.out _; (with_reducible repeat first | apply bN | apply bD | apply bA); refine bR ?_ N16_.out _; (with_reducible repeat first | apply bN | apply bD | apply bA); refine bR ?_ N16_.out _; (with_reducible repeat first | apply bN | apply bD | apply bA); refine bR ?_ N16_.out _; (with_reducible repeat first | apply bN | apply bD | apply bA); refine bR ?_ N16_.out _; (with_reducible repeat first | apply bN | apply bD | apply bA); refine bR ?_ N16_.out _; (with_reducible repeat first | apply bN | apply bD | apply bA); refine bR ?_ N16_.out _; (with_reducible repeat first | apply bN | apply bD | apply bA); refine bR ?_ N16_.out _; (with_reducible repeat first | apply bN | apply bD | apply bA); refine bR ?_ N16_.out _; (with_reducible repeat first | apply bN | apply bD | apply bA); exact BK463.out⟩
               have n3_ : Aside0 (((((((((((((((((((((w88.setCell ⟨b473, 0, none⟩ (.int .u32 a0_0)).setCell ⟨b473, 1, none⟩ (.int .i32 a0_1)).setCell ⟨b473, 2, none⟩ (.int .i32 a0_2)).setCell ⟨b473, 3, none⟩ (.int .i32 a0_3)).setCell ⟨b473, 4, none⟩ (.int .i32 a0_4)).setCell ⟨b473, 5, none⟩ (.int .i32 a0_5)).setCell ⟨b473, 6, none⟩ (.int .i32 a0_6)).setCell ⟨b473, 7, none⟩ (.int .i32 a0_7)).setCell ⟨b473, 8, none⟩ (.int .i32 a0_8)).setCell ⟨b473, 9, none⟩ (.int .i32 a0_9)).setCell ⟨b474, 0, none⟩ (.int .u32 a1_0)).setCell ⟨b474, 1, none⟩ (.int .i32 a1_1)).setCell ⟨b474, 2, none⟩ (.int .i32 a1_2)).setCell ⟨b474, 3, none⟩ (.int .i32 a1_3)).setCell ⟨b474, 4, none⟩ (.int .i32 a1_4)).setCell ⟨b474, 5, none⟩ (.int .i32 a1_5)).setCell ⟨b474, 6, none⟩ (.int .i32 a1_6)).setCell ⟨b474, 7, none⟩ (.int .i32 a1_7)).setCell ⟨b474, 8, none⟩ (.int .i32 a1_8)).setCell ⟨b474, 9, none⟩ (.int .i32 a1_9)).heap[b470]? = some (.cells #[.int .u32 t464, .int .u32 t465, .int .i32 t466, .int .i32 t467, .int .i32 t468] 32 (0, 0))) := ⟨by (with_reducible repeat first | apply bN | apply bD | apply bA); refine bR ?_ N26_.out _; (with_reducible repeat first | apply bN | apply bD | apply bA); refine bR ?_ N26_.out _; (with_reducible repeat first | apply bN | apply bD | apply bA); refine bR ?_ N26_.out _; (with_reducible repeat first | apply bN | apply bD | apply bA); refine bR ?_ N26_.out _; (with_reducible repeat first | apply bN | apply bD | apply bA); refine bR ?_ N26_.out _; (with_reducible repeat first | apply bN | apply bD | apply bA); refine bR ?_ N26_.out _; (with_reducible repeat first | apply bN | apply bD | apply bA); refine bR ?_ N26_.out _; (with_reducible repeat first | apply bN | apply bD | apply bA); refine bR ?_ N26_.out _; (with_reducible repeat first | apply bN | apply bD | apply bA); refine bR ?_ N26_.out _; (with_reducible repeat first | apply bN | apply bD | apply bA); refine bR ?_ N26_.out _; (with_reducible repeat first | apply bN | apply bD | apply bA); refine bR ?_ N18_.out _; (with_reducible repeat first | apply bN | apply bD | apply bA); refine bR ?_ N18_.out _; (with_reducible repeat first | apply bN | apply bD | apply bA); refine bR ?_ N18_.out _; (with_reducible repeat first | apply bN | apply bD | apply bA); refine bR ?_ N18_.out _; (with_reducible repeat first | apply bN | apply bD | apply bA); refine bR ?_ N18_.out _; (with_reducible repeat first | apply bN | apply bD | apply bA); refine bR ?_ N18_.out _; (with_reducible repeat first | apply bN | apply bD | apply bA); refine bR ?_ N18_.out _; (with_reducible repeat first | apply bN | apply bD | apply bA); refine bR ?_ N18_.out _; (with_reducible repeat first | apply bN | apply bD | apply bA); refine bR ?_ N18_.out _; (with_reducible repeat first | apply bN | apply bD | apply bA); refine bR ?_ N18_.out _; (with_reducible repeat first | apply bN | apply bD | apply bA); exact BK470.out⟩
               have n4_ : Aside0 (((((((((((((((((((((w88.setCell ⟨b473, 0, none⟩ (.int .u32 a0_0)).setCell ⟨b473, 1, none⟩ (.int .i32 a0_1)).setCell ⟨b473, 2, none⟩ (.int .i32 a0_2)).setCell ⟨b473, 3, none⟩ (.int .i32 a0_3)).setCell ⟨b473, 4, none⟩ (.int .i32 a0_4)).setCell ⟨b473, 5, none⟩ (.int .i32 a0_5)).setCell ⟨b473, 6, none⟩ (.int .i32 a0_6)).setCell ⟨b473, 7, none⟩ (.int .i32 a0_7)).setCell ⟨b473, 8, none⟩ (.int .i32 a0_8)).setCell ⟨b473, 9, none⟩ (.int .i32 a0_9)).setCell ⟨b474, 0, none⟩ (.int .u32 a1_0)).setCell ⟨b474, 1, none⟩ (.int .i32 a1_1)).setCell ⟨b474, 2, none⟩ (.int .i32 a1_2)).setCell ⟨b474, 3, none⟩ (.int .i32 a1_3)).setCell ⟨b474, 4, none⟩ (.int .i32 a1_4)).setCell ⟨b474, 5, none⟩ (.int .i32 a1_5)).setCell ⟨b474, 6, none⟩ (.int .i32 a1_6)).setCell ⟨b474, 7, none⟩ (.int .i32 a1_7)).setCell ⟨b474, 8, none⟩ (.int .i32 a1_8)).setCell ⟨b474, 9, none⟩ (.int .i32 a1_9)).heap[b473]? = some (.cells #[.int .u32 a0_0, .int .i32 a0_1, .int .i32 a0_2, .int .i32 a0_3, .int .i32 a0_4, .int .i32 a0_5, .int .i32 a0_6, .int .i32 a0_7, .int .i32 a0_8, .int .i32 a0_9] 26 (0, 0))) := ⟨by (with_reducible repeat first | apply bN | apply bD | apply bA); refine bR ?_ N28_.out _; (with_reducible repeat first | apply bN | apply bD | apply bA); refine bR ?_ N28_.out _; (with_reducible repeat first | apply bN | apply bD | apply bA); refine bR ?_ N28_.out _; (with_reducible repeat first | apply bN | apply bD | apply bA); refine bR ?_ N28_.out _; (with_reducible repeat first | apply bN | apply bD | apply bA); refine bR ?_ N28_.out _; (with_reducible repeat first | apply bN | apply bD | apply bA); refine bR ?_ N28_.out _; (with_reducible repeat first | apply bN | apply bD | apply bA); refine bR ?_ N28_.out _; (with_reducible repeat first | apply bN | apply bD | apply bA); refine bR ?_ N28_.out _; (with_reducible repeat first | apply bN | apply bD | apply bA); refine bR ?_ N28_.out _; (with_reducible repeat first | apply bN | apply bD | apply bA); refine bR ?_ N28_.out _; (with_reducible repeat first | apply bN | apply bD | apply bA); refine bP (cs := #[.int .u32 a0_0, .int .i32 a0_1, .int .i32 a0_2, .int .i32 a0_3, .int .i32 a0_4, .int .i32 a0_5, .int .i32 a0_6, .int .i32 a0_7, .int .i32 a0_8, .int .i32 0]) ?_ 9 _ rfl; (with_reducible repeat first | apply bN | apply bD | apply bA); refine bP (cs := #[.int .u32 a0_0, .int .i32 a0_1, .int .i32 a0_2, .int .i32 a0_3, .int .i32 a0_4, .int .i32 a0_5, .int .i32 a0_6, .int .i32 a0_7, .int .i32 0, .int .i32 0]) ?_ 8 _ rfl; (with_reducible repeat first | apply bN | apply bD | apply bA); refine bP (cs := #[.int .u32 a0_0, .int .i32 a0_1, .int .i32 a0_2, .int .i32 a0_3, .int .i32 a0_4, .int .i32 a0_5, .int .i32 a0_6, .int .i32 0, .int .i32 0, .int .i32 0]) ?_ 7 _ rfl; (with_reducible repeat first | apply bN | apply bD | apply bA); refine bP (cs := #[.int .u32 a0_0, .int .i32 a0_1, .int .i32 a0_2, .int .i32 a0_3, .int .i32 a0_4, .int .i32 a0_5, .int .i32 0, .int .i32 0, .int .i32 0, .int .i32 0]) ?_ 6 _ rfl; (with_reducible repeat first | apply bN | apply bD | apply bA); refine bP (cs := #[.int .u32 a0_0, .int .i32 a0_1, .int .i32 a0_2, .int .i32 a0_3, .int .i32 a0_4, .int .i32 0, .int .i32 0, .int .i32 0, .int .i32 0, .int .i32 0]) ?_ 5 _ rfl; (with_reducible repeat first | apply bN | apply bD | apply bA); refine bP (cs := #[.int .u32 a0_0, .int .i32 a0_1, .int .i32 a0_2, .int .i32 a0_3, .int .i32 0, .int .i32 0, .int .i32 0, .int .i32 0, .int .i32 0, .int .i32 0]) ?_ 4 _ rfl; (with_reducible repeat first | apply bN | apply bD | apply bA); refine bP (cs := #[.int .u32 a0_0, .int .i32 a0_1, .int .i32 a0_2, .int .i32 0, .int .i32 0, .int .i32 0, .int .i32 0, .int .i32 0, .int .i32 0, .int .i32 0]) ?_ 3 _ rfl; (with_reducible repeat first | apply bN | apply bD | apply bA); refine bP (cs := #[.int .u32 a0_0, .int .i32 a0_1, .int .i32 0, .int .i32 0, .int .i32 0, .int .i32 0, .int .i32 0, .int .i32 0, .int .i32 0, .int .i32 0]) ?_ 2 _ rfl; (with_reducible repeat first | apply bN | apply bD | apply bA); refine bP (cs := #[.int .u32 a0_0, .int .i32 0, .int .i32 0, .int .i32 0, .int .i32 0, .int .i32 0, .int .i32 0, .int .i32 0, .int .i32 0, .int .i32 0]) ?_ 1 _ rfl; (with_reducible repeat first | apply bN | apply bD | apply bA); refine bP (cs := #[.int .u32 0, .int .i32 0, .int .i32 0, .int .i32 0, .int .i32 0, .int .i32 0, .int .i32 0, .int .i32 0, .int .i32 0, .int .i32 0]) ?_ 0 _ rfl; (with_reducible repeat first | apply bN | apply bD | apply bA); exact BK473.out⟩
               have n5_ : Aside0 (((((((((((((((((((((w88.setCell ⟨b473, 0, none⟩ (.int .u32 a0_0)).setCell ⟨b473, 1, none⟩ (.int .i32 a0_1)).setCell ⟨b473, 2, none⟩ (.int .i32 a0_2)).setCell ⟨b473, 3, none⟩ (.int .i32 a0_3)).setCell ⟨b473, 4, none⟩ (.int .i32 a0_4)).setCell ⟨b473, 5, none⟩ (.int .i32 a0_5)).setCell ⟨b473, 6, none⟩ (.int .i32 a0_6)).setCell ⟨b473, 7, none⟩ (.int .i32 a0_7)).setCell ⟨b473, 8, none⟩ (.int .i32 a0_8)).setCell ⟨b473, 9, none⟩ (.int .i32 a0_9)).setCell ⟨b474, 0, none⟩ (.int .u32 a1_0)).setCell ⟨b474, 1, none⟩ (.int .i32 a1_1)).setCell ⟨b474, 2, none⟩ (.int .i32 a1_2)).setCell ⟨b474, 3, none⟩ (.int .i32 a1_3)).setCell ⟨b474, 4, none⟩ (.int .i32 a1_4)).setCell ⟨b474, 5, none⟩ (.int .i32 a1_5)).setCell ⟨b474, 6, none⟩ (.int .i32 a1_6)).setCell ⟨b474, 7, none⟩ (.int .i32 a1_7)).setCell ⟨b474, 8, none⟩ (.int .i32 a1_8)).setCell ⟨b474, 9, none⟩ (.int .i32 a1_9)).heap[b474]? = some (.cells #[.int .u32 a1_0, .int .i32 a1_1, .int .i32 a1_2, .int .i32 a1_3, .int .i32 a1_4, .int .i32 a1_5, .int .i32 a1_6, .int .i32 a1_7, .int .i32 a1_8, .int .i32 a1_9] 26 (0, 0))) := ⟨by (with_reducible repeat first | apply bN | apply bD | apply bA); refine bP (cs := #[.int .u32 a1_0, .int .i32 a1_1, .int .i32 a1_2, .int .i32 a1_3, .int .i32 a1_4, .int .i32 a1_5, .int .i32 a1_6, .int .i32 a1_7, .int .i32 a1_8, .int .i32 0]) ?_ 9 _ rfl; (with_reducible repeat first | apply bN | apply bD | apply bA); refine bP (cs := #[.int .u32 a1_0, .int .i32 a1_1, .int .i32 a1_2, .int .i32 a1_3, .int .i32 a1_4, .int .i32 a1_5, .int .i32 a1_6, .int .i32 a1_7, .int .i32 0, .int .i32 0]) ?_ 8 _ rfl; (with_reducible repeat first | apply bN | apply bD | apply bA); refine bP (cs := #[.int .u32 a1_0, .int .i32 a1_1, .int .i32 a1_2, .int .i32 a1_3, .int .i32 a1_4, .int .i32 a1_5, .int .i32 a1_6, .int .i32 0, .int .i32 0, .int .i32 0]) ?_ 7 _ rfl; (with_reducible repeat first | apply bN | apply bD | apply bA); refine bP (cs := #[.int .u32 a1_0, .int .i32 a1_1, .int .i32 a1_2, .int .i32 a1_3, .int .i32 a1_4, .int .i32 a1_5, .int .i32 0, .int .i32 0, .int .i32 0, .int .i32 0]) ?_ 6 _ rfl; (with_reducible repeat first | apply bN | apply bD | apply bA); refine bP (cs := #[.int .u32 a1_0, .int .i32 a1_1, .int .i32 a1_2, .int .i32 a1_3, .int .i32 a1_4, .int .i32 0, .int .i32 0, .int .i32 0, .int .i32 0, .int .i32 0]) ?_ 5 _ rfl; (with_reducible repeat first | apply bN | apply bD | apply bA); refine bP (cs := #[.int .u32 a1_0, .int .i32 a1_1, .int .i32 a1_2, .int .i32 a1_3, .int .i32 0, .int .i32 0, .int .i32 0, .int .i32 0, .int .i32 0, .int .i32 0]) ?_ 4 _ rfl; (with_reducible repeat first | apply bN | apply bD | apply bA); refine bP (cs := #[.int .u32 a1_0, .int .i32 a1_1, .int .i32 a1_2, .int .i32 0, .int .i32 0, .int .i32 0, .int .i32 0, .int .i32 0, .int .i32 0, .int .i32 0]) ?_ 3 _ rfl; (with_reducible repeat first | apply bN | apply bD | apply bA); refine bP (cs := #[.int .u32 a1_0, .int .i32 a1_1, .int .i32 0, .int .i32 0, .int .i32 0, .int .i32 0, .int .i32 0, .int .i32 0, .int .i32 0, .int .i32 0]) ?_ 2 _ rfl; (with_reducible repeat first | apply bN | apply bD | apply bA); refine bP (cs := #[.int .u32 a1_0, .int .i32 0, .int .i32 0, .int .i32 0, .int .i32 0, .int .i32 0, .int .i32 0, .int .i32 0, .int .i32 0, .int .i32 0]) ?_ 1 _ rfl; (with_reducible repeat first | apply bN | apply bD | apply bA); refine bP (cs := #[.int .u32 0, .int .i32 0, .int .i32 0, .int .i32 0, .int .i32 0, .int .i32 0, .int .i32 0, .int .i32 0, .int .i32 0, .int .i32 0]) ?_ 0 _ rfl; (with_reducible repeat first | apply bN | apply bD | apply bA); refine bR ?_ N29_.out _; (with_reducible repeat first | apply bN | apply bD | apply bA); refine bR ?_ N29_.out _; (with_reducible repeat first | apply bN | apply bD | apply bA); refine bR ?_ N29_.out _; (with_reducible repeat first | apply bN | apply bD | apply bA); refine bR ?_ N29_.out _; (with_reducible repeat first | apply bN | apply bD | apply bA); refine bR ?_ N29_.out _; (with_reducible repeat first | apply bN | apply bD | apply bA); refine bR ?_ N29_.out _; (with_reducible repeat first | apply bN | apply bD | apply bA); refine bR ?_ N29_.out _; (with_reducible repeat first | apply bN | apply bD | apply bA); refine bR ?_ N29_.out _; (with_reducible repeat first | apply bN | apply bD | apply bA); refine bR ?_ N29_.out _; (with_reducible repeat first | apply bN | apply bD | apply bA); refine bR ?_ N29_.out _; (with_reducible repeat first | apply bN | apply bD | apply bA); exact BK474.out⟩
               have n6_ : Aside0 (Below w.heap.size w ((((((((((((((((((((w88.setCell ⟨b473, 0, none⟩ (.int .u32 a0_0)).setCell ⟨b473, 1, none⟩ (.int .i32 a0_1)).setCell ⟨b473, 2, none⟩ (.int .i32 a0_2)).setCell ⟨b473, 3, none⟩ (.int .i32 a0_3)).setCell ⟨b473, 4, none⟩ (.int .i32 a0_4)).setCell ⟨b473, 5, none⟩ (.int .i32 a0_5)).setCell ⟨b473, 6, none⟩ (.int .i32 a0_6)).setCell ⟨b473, 7, none⟩ (.int .i32 a0_7)).setCell ⟨b473, 8, none⟩ (.int .i32 a0_8)).setCell ⟨b473, 9, none⟩ (.int .i32 a0_9)).setCell ⟨b474, 0, none⟩ (.int .u32 a1_0)).setCell ⟨b474, 1, none⟩ (.int .i32 a1_1)).setCell ⟨b474, 2, none⟩ (.int .i32 a1_2)).setCell ⟨b474, 3, none⟩ (.int .i32 a1_3)).setCell ⟨b474, 4, none⟩ (.int .i32 a1_4)).setCell ⟨b474, 5, none⟩ (.int .i32 a1_5)).setCell ⟨b474, 6, none⟩ (.int .i32 a1_6)).setCell ⟨b474, 7, none⟩ (.int .i32 a1_7)).setCell ⟨b474, 8, none⟩ (.int .i32 a1_8)).setCell ⟨b474, 9, none⟩ (.int .i32 a1_9))) := ⟨by repeat (first | (with_reducible first | exact HB.out | apply lA | apply lN | apply lD | refine lS ?_ GE452.out | refine lS ?_ GE453.out | refine lS ?_ GE463.out | refine lS ?_ GE470.out | refine lS ?_ GE473.out | refine lS ?_ GE474.out) | exact HB.out)⟩
               (try clear BK452)
               (try clear BK453)
               (try clear BK463)
               (try clear BK470)
               (try clear BK473)
               (try clear BK474)
               (try clear HB)
               generalize ((((((((((((((((((((w88.setCell ⟨b473, 0, none⟩ (.int .u32 a0_0)).setCell ⟨b473, 1, none⟩ (.int .i32 a0_1)).setCell ⟨b473, 2, none⟩ (.int .i32 a0_2)).setCell ⟨b473, 3, none⟩ (.int .i32 a0_3)).setCell ⟨b473, 4, none⟩ (.int .i32 a0_4)).setCell ⟨b473, 5, none⟩ (.int .i32 a0_5)).setCell ⟨b473, 6, none⟩ (.int .i32 a0_6)).setCell ⟨b473, 7, none⟩ (.int .i32 a0_7)).setCell ⟨b473, 8, none⟩ (.int .i32 a0_8)).setCell ⟨b473, 9, none⟩ (.int .i32 a0_9)).setCell ⟨b474, 0, none⟩ (.int .u32 a1_0)).setCell ⟨b474, 1, none⟩ (.int .i32 a1_1)).setCell ⟨b474, 2, none⟩ (.int .i32 a1_2)).setCell ⟨b474, 3, none⟩ (.int .i32 a1_3)).setCell ⟨b474, 4, none⟩ (.int .i32 a1_4)).setCell ⟨b474, 5, none⟩ (.int .i32 a1_5)).setCell ⟨b474, 6, none⟩ (.int .i32 a1_6)).setCell ⟨b474, 7, none⟩ (.int .i32 a1_7)).setCell ⟨b474, 8, none⟩ (.int .i32 a1_8)).setCell ⟨b474, 9, none⟩ (.int .i32 a1_9)) = w109 at n0_ n1_ n2_ n3_ n4_ n5_ n6_ ⊢
               have BK452 := n0_
               have BK453 := n1_
               have BK463 := n2_
               have BK470 := n3_
               have BK473 := n4_
               have BK474 := n5_
               have HB := n6_
               clear n0_ n1_ n2_ n3_ n4_ n5_ n6_
               have n0_ := aM (bD BK452.out)
               have n1_ := aM (bD BK453.out)
               have n2_ := aM (bD BK463.out)
               have n3_ := aM (bD BK470.out)
               have n4_ := aM (bD BK473.out)
               have n5_ := aM (bD BK474.out)
               have n6_ := aM (lD HB.out)
               clear BK452
               clear BK453
               clear BK463
               clear BK470
               clear BK473
               clear BK474
               clear HB
               have BK452 := n0_
               have BK453 := n1_
               have BK463 := n2_
               have BK470 := n3_
               have BK473 := n4_
               have BK474 := n5_
               have HB := n6_
               clear n0_ n1_ n2_ n3_ n4_ n5_ n6_
               refine start_ (n := 8) (S := fun w' => w'.cell? ⟨b453, 0, none⟩ = some (.int .u32 a1_0) ∧ w'.cell? ⟨b453, 1, none⟩ = some (.int .i32 a1_1) ∧ w'.cell? ⟨b453, 2, none⟩ = some (.int .i32 a1_2) ∧ w'.cell? ⟨b453, 3, none⟩ = some (.int .i32 a1_3) ∧ w'.cell? ⟨b453, 4, none⟩ = some (.int .i32 a1_4) ∧ w'.cell? ⟨b453, 5, none⟩ = some (.int .i32 a1_5) ∧ w'.cell? ⟨b453, 6, none⟩ = some (.int .i32 a1_6) ∧ w'.cell? ⟨b453, 7, none⟩ = some (.int .i32 a1_7) ∧ w'.cell? ⟨b453, 8, none⟩ = some (.int .i32 a1_8) ∧ w'.cell? ⟨b453, 9, none⟩ = some (.int .i32 a1_9) ∧ w'.cell? ⟨b452, 0, none⟩ = some (.int .u32 a0_0) ∧ w'.cell? ⟨b452, 1, none⟩ = some (.int .i32 a0_1) ∧ w'.cell? ⟨b452, 2, none⟩ = some (.int .i32 a0_2) ∧ w'.cell? ⟨b452, 3, none⟩ = some (.int .i32 a0_3) ∧ w'.cell? ⟨b452, 4, none⟩ = some (.int .i32 a0_4) ∧ w'.cell? ⟨b452, 5, none⟩ = some (.int .i32 a0_5) ∧ w'.cell? ⟨b452, 6, none⟩ = some (.int .i32 a0_6) ∧ w'.cell? ⟨b452, 7, none⟩ = some (.int .i32 a0_7) ∧ w'.cell? ⟨b452, 8, none⟩ = some (.int .i32 a0_8) ∧ w'.cell? ⟨b452, 9, none⟩ = some (.int .i32 a0_9)) (ds := []) #[F,F,F,F,F,F,F,F] (by kernel_rfl) rfl rfl ⟨(bC BK453.out 0).trans rfl, (bC BK453.out 1).trans rfl, (bC BK453.out 2).trans rfl, (bC BK453.out 3).trans rfl, (bC BK453.out 4).trans rfl, (bC BK453.out 5).trans rfl, (bC BK453.out 6).trans rfl, (bC BK453.out 7).trans rfl, (bC BK453.out 8).trans rfl, (bC BK453.out 9).trans rfl, (bC BK452.out 0).trans rfl, (bC BK452.out 1).trans rfl, (bC BK452.out 2).trans rfl, (bC BK452.out 3).trans rfl, (bC BK452.out 4).trans rfl, (bC BK452.out 5).trans rfl, (bC BK452.out 6).trans rfl, (bC BK452.out 7).trans rfl, (bC BK452.out 8).trans rfl, (bC BK452.out 9).trans rfl⟩ (fun hHeld => ?_); refine with_tabW billiardlaw14_ContactSymmetric.tab10 billiardlaw14_ContactSymmetric.bits10 (fun HT_ HW_ => ?_)
               generalize w109.drew = w110 at BK452 BK453 BK463 BK470 BK473 BK474 HB hHeld ⊢
               refine pure_ (i := 0) (N := some 74) (v := ?_) (a' := ?_) #[T,F,F,F,F,F,F,F] rfl rfl (any_of HT_.out (by kernel_rfl)) (fun _ _ _ h => h) (Or.inl ⟨by rfl, ?_⟩) ?_ ?_
               rotate_left
               ·intro w'
                go_simp
                with_reducible rfl
               rotate_left
               ·simp only [Act.put, sA, sB, sC, i64_w, i32_w]
                rfl
               refine pure_ (i := 2) (N := some 76) (v := ?_) (a' := ?_) #[T,F,T,F,F,F,F,F] rfl rfl (any_of HT_.out (by kernel_rfl)) (fun _ _ _ h => h) (Or.inl ⟨by rfl, ?_⟩) ?_ ?_
               rotate_left
               ·intro w'
                go_simp
                with_reducible rfl
               rotate_left
               ·simp only [Act.put, sA, sB, sC, i64_w, i32_w]
                rfl
               refine take_ (i := 1) (N := some 75) (v := ?_) (a' := ?_) #[T,T,T,F,F,F,F,F] rfl rfl (take_ofW HT_.out HW_.out (by kernel_rfl)) (fun _ _ _ h => h) (Or.inl ⟨by rfl, ?_⟩) hHeld ?_ ?_
               rotate_left
               ·rintro w' ⟨s0, s1, s2, s3, s4, s5, s6, s7, s8, s9, s10, s11, s12, s13, s14, s15, s16, s17, s18, s19⟩
                go_simp
                with_reducible rfl
               rotate_left
               ·simp only [Act.put, sA, sB, sC, i64_w, i32_w]
                rfl
               refine pure_ (i := 4) (N := some 78) (v := ?_) (a' := ?_) #[T,T,T,F,T,F,F,F] rfl rfl (any_of HT_.out (by kernel_rfl)) (fun _ _ _ h => h) (Or.inl ⟨by rfl, ?_⟩) ?_ ?_
               rotate_left
               ·intro w'
                go_simp
                with_reducible rfl
               rotate_left
               ·simp only [Act.put, sA, sB, sC, i64_w, i32_w]
                rfl
               refine take_ (i := 3) (N := some 77) (v := ?_) (a' := ?_) #[T,T,T,T,T,F,F,F] rfl rfl (take_ofW HT_.out HW_.out (by kernel_rfl)) (fun _ _ _ h => h) (Or.inl ⟨by rfl, ?_⟩) hHeld ?_ ?_
               rotate_left
               ·rintro w' ⟨s0, s1, s2, s3, s4, s5, s6, s7, s8, s9, s10, s11, s12, s13, s14, s15, s16, s17, s18, s19⟩
                go_simp
                with_reducible rfl
               rotate_left
               ·simp only [Act.put, sA, sB, sC, i64_w, i32_w]
                rfl
               refine one_ (i := 5) (N := none) #[T,T,T,T,T,T,F,F] rfl rfl (one_of HT_.out (by kernel_rfl)) (by decide) (fun K hK => ?_)
               have hs111 : w110.cell? ⟨b473, 0, none⟩ = some (.int .u32 a0_0) := (bC BK473.out 0).trans rfl
               have hfs111 := bF BK473.out 0
               have hns111_0 := N12_.out
               have hns111_1 := N14_.out
               have hns111_2 := N16_.out
               have hns111_3 := N18_.out
               have hns111_5 := N29_.out
               have hms111_0 := N13_.out
               have hms111_1 := N15_.out
               have hms111_2 := N17_.out
               have hms111_3 := N19_.out
               have hms111_5 := N28_.out
               refine skip_ (w1 := ?_) (by rfl) rfl ?_ ?_
               rotate_left
               ·go_simp
                rfl
               refine hK.out _ _ ⟨((cF (p := ⟨b473, _, none⟩) N14_.out _).trans (hHeld.1)), ((cF (p := ⟨b473, _, none⟩) N14_.out _).trans (hHeld.2.1)), ((cF (p := ⟨b473, _, none⟩) N14_.out _).trans (hHeld.2.2.1)), ((cF (p := ⟨b473, _, none⟩) N14_.out _).trans (hHeld.2.2.2.1)), ((cF (p := ⟨b473, _, none⟩) N14_.out _).trans (hHeld.2.2.2.2.1)), ((cF (p := ⟨b473, _, none⟩) N14_.out _).trans (hHeld.2.2.2.2.2.1)), ((cF (p := ⟨b473, _, none⟩) N14_.out _).trans (hHeld.2.2.2.2.2.2.1)), ((cF (p := ⟨b473, _, none⟩) N14_.out _).trans (hHeld.2.2.2.2.2.2.2.1)), ((cF (p := ⟨b473, _, none⟩) N14_.out _).trans (hHeld.2.2.2.2.2.2.2.2.1)), ((cF (p := ⟨b473, _, none⟩) N14_.out _).trans (hHeld.2.2.2.2.2.2.2.2.2.1)), ((cF (p := ⟨b473, _, none⟩) N12_.out _).trans (hHeld.2.2.2.2.2.2.2.2.2.2.1)), ((cF (p := ⟨b473, _, none⟩) N12_.out _).trans (hHeld.2.2.2.2.2.2.2.2.2.2.2.1)), ((cF (p := ⟨b473, _, none⟩) N12_.out _).trans (hHeld.2.2.2.2.2.2.2.2.2.2.2.2.1)), ((cF (p := ⟨b473, _, none⟩) N12_.out _).trans (hHeld.2.2.2.2.2.2.2.2.2.2.2.2.2.1)), ((cF (p := ⟨b473, _, none⟩) N12_.out _).trans (hHeld.2.2.2.2.2.2.2.2.2.2.2.2.2.2.1)), ((cF (p := ⟨b473, _, none⟩) N12_.out _).trans (hHeld.2.2.2.2.2.2.2.2.2.2.2.2.2.2.2.1)), ((cF (p := ⟨b473, _, none⟩) N12_.out _).trans (hHeld.2.2.2.2.2.2.2.2.2.2.2.2.2.2.2.2.1)), ((cF (p := ⟨b473, _, none⟩) N12_.out _).trans (hHeld.2.2.2.2.2.2.2.2.2.2.2.2.2.2.2.2.2.1)), ((cF (p := ⟨b473, _, none⟩) N12_.out _).trans (hHeld.2.2.2.2.2.2.2.2.2.2.2.2.2.2.2.2.2.2.1)), ((cF (p := ⟨b473, _, none⟩) N12_.out _).trans (hHeld.2.2.2.2.2.2.2.2.2.2.2.2.2.2.2.2.2.2.2))⟩ (fun hHeld => ?_)
               clear hK K
               refine pure_ (i := 6) (N := some 79) (v := ?_) (a' := ?_) #[T,T,T,T,T,T,T,F] rfl rfl (any_of HT_.out (by kernel_rfl)) (fun _ _ _ h => h) (Or.inl ⟨by rfl, ?_⟩) ?_ ?_
               rotate_left
               ·intro w'
                go_simp
                with_reducible rfl
               rotate_left
               ·simp only [Act.put, sA, sB, sC, i64_w, i32_w]
                rfl
               refine one_ (i := 7) (N := none) #[T,T,T,T,T,T,T,T] rfl rfl (one_of HT_.out (by kernel_rfl)) (by decide) (fun K hK => ?_)
               have hs112 : w110.cell? ⟨b474, 0, none⟩ = some (.int .u32 a1_0) := (bC BK474.out 0).trans rfl
               have hfs112 := bF BK474.out 0
               have hns112_0 := N20_.out
               have hns112_1 := N22_.out
               have hns112_2 := N24_.out
               have hns112_3 := N26_.out
               have hns112_4 := N28_.out
               have hms112_0 := N21_.out
               have hms112_1 := N23_.out
               have hms112_2 := N25_.out
               have hms112_3 := N27_.out
               have hms112_4 := N29_.out
               refine skip_ (w1 := ?_) (by rfl) rfl ?_ ?_
               rotate_left
               ·go_simp
                rfl
               refine hK.out _ _ ⟨((cF (p := ⟨b474, _, none⟩) N22_.out _).trans (hHeld.1)), ((cF (p := ⟨b474, _, none⟩) N22_.out _).trans (hHeld.2.1)), ((cF (p := ⟨b474, _, none⟩) N22_.out _).trans (hHeld.2.2.1)), ((cF (p := ⟨b474, _, none⟩) N22_.out _).trans (hHeld.2.2.2.1)), ((cF (p := ⟨b474, _, none⟩) N22_.out _).trans (hHeld.2.2.2.2.1)), ((cF (p := ⟨b474, _, none⟩) N22_.out _).trans (hHeld.2.2.2.2.2.1)), ((cF (p := ⟨b474, _, none⟩) N22_.out _).trans (hHeld.2.2.2.2.2.2.1)), ((cF (p := ⟨b474, _, none⟩) N22_.out _).trans (hHeld.2.2.2.2.2.2.2.1)), ((cF (p := ⟨b474, _, none⟩) N22_.out _).trans (hHeld.2.2.2.2.2.2.2.2.1)), ((cF (p := ⟨b474, _, none⟩) N22_.out _).trans (hHeld.2.2.2.2.2.2.2.2.2.1)), ((cF (p := ⟨b474, _, none⟩) N20_.out _).trans (hHeld.2.2.2.2.2.2.2.2.2.2.1)), ((cF (p := ⟨b474, _, none⟩) N20_.out _).trans (hHeld.2.2.2.2.2.2.2.2.2.2.2.1)), ((cF (p := ⟨b474, _, none⟩) N20_.out _).trans (hHeld.2.2.2.2.2.2.2.2.2.2.2.2.1)), ((cF (p := ⟨b474, _, none⟩) N20_.out _).trans (hHeld.2.2.2.2.2.2.2.2.2.2.2.2.2.1)), ((cF (p := ⟨b474, _, none⟩) N20_.out _).trans (hHeld.2.2.2.2.2.2.2.2.2.2.2.2.2.2.1)), ((cF (p := ⟨b474, _, none⟩) N20_.out _).trans (hHeld.2.2.2.2.2.2.2.2.2.2.2.2.2.2.2.1)), ((cF (p := ⟨b474, _, none⟩) N20_.out _).trans (hHeld.2.2.2.2.2.2.2.2.2.2.2.2.2.2.2.2.1)), ((cF (p := ⟨b474, _, none⟩) N20_.out _).trans (hHeld.2.2.2.2.2.2.2.2.2.2.2.2.2.2.2.2.2.1)), ((cF (p := ⟨b474, _, none⟩) N20_.out _).trans (hHeld.2.2.2.2.2.2.2.2.2.2.2.2.2.2.2.2.2.2.1)), ((cF (p := ⟨b474, _, none⟩) N20_.out _).trans (hHeld.2.2.2.2.2.2.2.2.2.2.2.2.2.2.2.2.2.2.2))⟩ (fun hHeld => ?_)
               clear hK K
               refine done_ (done_of HT_.out (by kernel_rfl)) ?_
               have hnb113 := N13_.out
               have hnc113 := N12_.out
               have hnb114 := N15_.out
               have hnc114 := N14_.out
               have hnb115 := N17_.out
               have hnc115 := N16_.out
               have hnb116 := N19_.out
               have hnc116 := N18_.out
               have hnb117 := N28_.out
               have hnc117 := N29_.out
               have hcz118_0 : w110.cell? ⟨b473, 0, none⟩ = some (.int .u32 a0_0) := (bC BK473.out 0).trans rfl
               have hcz118_1 : w110.cell? ⟨b473, 1, none⟩ = some (.int .i32 a0_1) := (bC BK473.out 1).trans rfl
               have hcz118_2 : w110.cell? ⟨b473, 2, none⟩ = some (.int .i32 a0_2) := (bC BK473.out 2).trans rfl
               have hcz118_3 : w110.cell? ⟨b473, 3, none⟩ = some (.int .i32 a0_3) := (bC BK473.out 3).trans rfl
               have hcz118_4 : w110.cell? ⟨b473, 4, none⟩ = some (.int .i32 a0_4) := (bC BK473.out 4).trans rfl
               have hcz118_5 : w110.cell? ⟨b473, 5, none⟩ = some (.int .i32 a0_5) := (bC BK473.out 5).trans rfl
               have hcz118_6 : w110.cell? ⟨b473, 6, none⟩ = some (.int .i32 a0_6) := (bC BK473.out 6).trans rfl
               have hcz118_7 : w110.cell? ⟨b473, 7, none⟩ = some (.int .i32 a0_7) := (bC BK473.out 7).trans rfl
               have hcz118_8 : w110.cell? ⟨b473, 8, none⟩ = some (.int .i32 a0_8) := (bC BK473.out 8).trans rfl
               have hcz118_9 : w110.cell? ⟨b473, 9, none⟩ = some (.int .i32 a0_9) := (bC BK473.out 9).trans rfl
               have hfz118_0 := bF BK473.out 0
               have hfz118_1 := bF BK473.out 1
               have hfz118_2 := bF BK473.out 2
               have hfz118_3 := bF BK473.out 3
               have hfz118_4 := bF BK473.out 4
               have hfz118_5 := bF BK473.out 5
               have hfz118_6 := bF BK473.out 6
               have hfz118_7 := bF BK473.out 7
               have hfz118_8 := bF BK473.out 8
               have hfz118_9 := bF BK473.out 9
               have hnb119 := N21_.out
               have hnc119 := N20_.out
               have hnb120 := N23_.out
               have hnc120 := N22_.out
               have hnb121 := N25_.out
               have hnc121 := N24_.out
               have hnb122 := N27_.out
               have hnc122 := N26_.out
               have hcz123_0 : w110.cell? ⟨b474, 0, none⟩ = some (.int .u32 a1_0) := (bC BK474.out 0).trans rfl
               have hcz123_1 : w110.cell? ⟨b474, 1, none⟩ = some (.int .i32 a1_1) := (bC BK474.out 1).trans rfl
               have hcz123_2 : w110.cell? ⟨b474, 2, none⟩ = some (.int .i32 a1_2) := (bC BK474.out 2).trans rfl
               have hcz123_3 : w110.cell? ⟨b474, 3, none⟩ = some (.int .i32 a1_3) := (bC BK474.out 3).trans rfl
               have hcz123_4 : w110.cell? ⟨b474, 4, none⟩ = some (.int .i32 a1_4) := (bC BK474.out 4).trans rfl
               have hcz123_5 : w110.cell? ⟨b474, 5, none⟩ = some (.int .i32 a1_5) := (bC BK474.out 5).trans rfl
               have hcz123_6 : w110.cell? ⟨b474, 6, none⟩ = some (.int .i32 a1_6) := (bC BK474.out 6).trans rfl
               have hcz123_7 : w110.cell? ⟨b474, 7, none⟩ = some (.int .i32 a1_7) := (bC BK474.out 7).trans rfl
               have hcz123_8 : w110.cell? ⟨b474, 8, none⟩ = some (.int .i32 a1_8) := (bC BK474.out 8).trans rfl
               have hcz123_9 : w110.cell? ⟨b474, 9, none⟩ = some (.int .i32 a1_9) := (bC BK474.out 9).trans rfl
               have hfz123_0 := bF BK474.out 0
               have hfz123_1 := bF BK474.out 1
               have hfz123_2 := bF BK474.out 2
               have hfz123_3 := bF BK474.out 3
               have hfz123_4 := bF BK474.out 4
               have hfz123_5 := bF BK474.out 5
               have hfz123_6 := bF BK474.out 6
               have hfz123_7 := bF BK474.out 7
               have hfz123_8 := bF BK474.out 8
               have hfz123_9 := bF BK474.out 9
               try go_wp2_with (first | ((with_reducible refine gate_callee (f := 10) rfl ?_); refine goesL_ (some 83) rfl rfl Try.func10 (by kernel_rfl) rfl #[.agg #[.int .u32 a1_0, .int .i32 a0_1, .int .i32 a0_2, .int .i32 a0_3, .int .i32 a0_4, .int .i32 a0_5, .int .i32 a0_6, .int .i32 a0_7, .int .i32 a0_8, .int .i32 a0_9], .agg #[.int .u32 a0_0, .int .i32 a1_1, .int .i32 a1_2, .int .i32 a1_3, .int .i32 a1_4, .int .i32 a1_5, .int .i32 a1_6, .int .i32 a1_7, .int .i32 a1_8, .int .i32 a1_9]] rfl (by (try simp only [List.map_toArray, List.map_cons, List.map_nil]); first | done | rfl | (simp only [List.length_drop, List.length_take]; rfl)) ?_; (with_reducible refine (contact_Of.calls kj48 a1_0 a0_1 a0_2 a0_3 a0_4 a0_5 a0_6 a0_7 a0_8 a0_9 a0_0 a1_1 a1_2 a1_3 a1_4 a1_5 a1_6 a1_7 a1_8 a1_9 t475 t476 t477 t478 t479 true _ A79.out).mono ?_); rintro e w124 ⟨rfl, hb⟩; refine ⟨_, rfl, ?_⟩; have n0_ := aM (bB (g := b452) (o := .cells #[.int .u32 a0_0, .int .i32 a0_1, .int .i32 a0_2, .int .i32 a0_3, .int .i32 a0_4, .int .i32 a0_5, .int .i32 a0_6, .int .i32 a0_7, .int .i32 a0_8, .int .i32 a0_9] 26 (0, 0)) (by (with_reducible repeat first | apply bN | apply bD | apply bA); refine bR ?_ N20_.out _; (with_reducible repeat first | apply bN | apply bD | apply bA); refine bR ?_ N12_.out _; (with_reducible repeat first | apply bN | apply bD | apply bA); exact BK452.out) hb); have n1_ := aM (bB (g := b453) (o := .cells #[.int .u32 a1_0, .int .i32 a1_1, .int .i32 a1_2, .int .i32 a1_3, .int .i32 a1_4, .int .i32 a1_5, .int .i32 a1_6, .int .i32 a1_7, .int .i32 a1_8, .int .i32 a1_9] 26 (0, 0)) (by (with_reducible repeat first | apply bN | apply bD | apply bA); refine bR ?_ N22_.out _; (with_reducible repeat first | apply bN | apply bD | apply bA); refine bR ?_ N14_.out _; (with_reducible repeat first | apply bN | apply bD | apply bA); exact BK453.out) hb); have n2_ := aM (bB (g := b463) (o := .cells #[.int .u32 t457, .int .u32 t458, .int .i32 t459, .int .i32 t460, .int .i32 t461] 32 (0, 0)) (by (with_reducible repeat first | apply bN | apply bD | apply bA); refine bR ?_ N24_.out _; (with_reducible repeat first | apply bN | apply bD | apply bA); refine bR ?_ N16_.out _; (with_reducible repeat first | apply bN | apply bD | apply bA); exact BK463.out) hb); have n3_ := aM (bB (g := b470) (o := .cells #[.int .u32 t464, .int .u32 t465, .int .i32 t466, .int .i32 t467, .int .i32 t468] 32 (0, 0)) (by (with_reducible repeat first | apply bN | apply bD | apply bA); refine bR ?_ N26_.out _; (with_reducible repeat first | apply bN | apply bD | apply bA); refine bR ?_ N18_.out _; (with_reducible repeat first | apply bN | apply bD | apply bA); exact BK470.out) hb); have n4_ := aM (bB (g := b473) (o := .cells #[.int .u32 a1_0, .int .i32 a0_1, .int .i32 a0_2, .int .i32 a0_3, .int .i32 a0_4, .int .i32 a0_5, .int .i32 a0_6, .int .i32 a0_7, .int .i32 a0_8, .int .i32 a0_9] 26 (0, 0)) (by (with_reducible repeat first | apply bN | apply bD | apply bA); refine bR ?_ N28_.out _; (with_reducible repeat first | apply bN | apply bD | apply bA); refine bP (cs := #[.int .u32 a0_0, .int .i32 a0_1, .int .i32 a0_2, .int .i32 a0_3, .int .i32 a0_4, .int .i32 a0_5, .int .i32 a0_6, .int .i32 a0_7, .int .i32 a0_8, .int .i32 a0_9]) ?_ 0 _ rfl; (with_reducible repeat first | apply bN | apply bD | apply bA); exact BK473.out) hb); have n5_ := aM (bB (g := b474) (o := .cells #[.int .u32 a0_0, .int .i32 a1_1, .int .i32 a1_2, .int .i32 a1_3, .int .i32 a1_4, .int .i32 a1_5, .int .i32 a1_6, .int .i32 a1_7, .int .i32 a1_8, .int .i32 a1_9] 26 (0, 0)) (by (with_reducible repeat first | apply bN | apply bD | apply bA); refine bP (cs := #[.int .u32 a1_0, .int .i32 a1_1, .int .i32 a1_2, .int .i32 a1_3, .int .i32 a1_4, .int .i32 a1_5, .int .i32 a1_6, .int .i32 a1_7, .int .i32 a1_8, .int .i32 a1_9]) ?_ 0 _ rfl; (with_reducible repeat first | apply bN | apply bD | apply bA); refine bR ?_ N29_.out _; (with_reducible repeat first | apply bN | apply bD | apply bA); exact BK474.out) hb); have n6_ := aM (lT (by repeat (first | (with_reducible first | exact HB.out | apply lA | apply lN | apply lD | refine lS ?_ GE452.out | refine lS ?_ GE453.out | refine lS ?_ GE463.out | refine lS ?_ GE470.out | refine lS ?_ GE473.out | refine lS ?_ GE474.out) | exact HB.out)) hb); clear BK452; clear BK453; clear BK463; clear BK470; clear BK473; clear BK474; clear HB; have BK452 := n0_; have BK453 := n1_; have BK463 := n2_; have BK470 := n3_; have BK473 := n4_; have BK474 := n5_; have HB := n6_; clear n0_ n1_ n2_ n3_ n4_ n5_ n6_; (try clear hb); (try clear hb2); (try clear hk); (try clear hi)) | ((with_reducible refine gate_dst (N := 11) rfl ?_); refine box_event ?hg (N := 11) ?hd (cs := #[.int .u32 0, .int .u32 0, .int .i32 0, .int .i32 0, .int .i32 0]) (t := 32) ?hr ?_; (case hd => rfl); (case hg => rfl); (case hr => first | (go_simp; done) | (go_simp; rfl)); intro b481 hg w125 hbox hb; have n0_ := aM (bB (by (with_reducible repeat first | apply bN | apply bD | apply bA); exact BK452.out) hb); have n1_ := aM (bB (by (with_reducible repeat first | apply bN | apply bD | apply bA); exact BK453.out) hb); have n2_ := aM (bB (by (with_reducible repeat first | apply bN | apply bD | apply bA); exact BK463.out) hb); have n3_ := aM (bB (by (with_reducible repeat first | apply bN | apply bD | apply bA); exact BK470.out) hb); have n4_ := aM (bB (by (with_reducible repeat first | apply bN | apply bD | apply bA); exact BK473.out) hb); have n5_ := aM (bB (by (with_reducible repeat first | apply bN | apply bD | apply bA); exact BK474.out) hb); have n6_ := aM (lT (by repeat (first | (with_reducible first | exact HB.out | apply lA | apply lN | apply lD | refine lS ?_ GE452.out | refine lS ?_ GE453.out | refine lS ?_ GE463.out | refine lS ?_ GE470.out | refine lS ?_ GE473.out | refine lS ?_ GE474.out) | exact HB.out)) hb); have n7_ := aM (hbox); have n8_ := aM ((by rw [hg]; exact (lZ (by repeat (first | (with_reducible first | exact HB.out | apply lA | apply lN | apply lD | refine lS ?_ GE452.out | refine lS ?_ GE453.out | refine lS ?_ GE463.out | refine lS ?_ GE470.out | refine lS ?_ GE473.out | refine lS ?_ GE474.out) | exact HB.out))) : w.heap.size ≤ b481)); have n9_ := aM ((by rw [hg]; exact (lZ (by repeat (first | (with_reducible first | exact HB.out | apply lA | apply lN | apply lD | refine lS ?_ GE452.out | refine lS ?_ GE453.out | refine lS ?_ GE463.out | refine lS ?_ GE470.out | refine lS ?_ GE473.out | refine lS ?_ GE474.out) | exact HB.out))) : w.heap.size ≤ b481)); have n10_ := aM ((by rw [hg]; exact Nat.ne_of_lt (bL (g := b452) (by (with_reducible repeat first | apply bN | apply bD | apply bA); exact BK452.out)) : b452 ≠ b481)); have n11_ := aM ((by rw [hg]; exact Nat.ne_of_gt (bL (g := b452) (by (with_reducible repeat first | apply bN | apply bD | apply bA); exact BK452.out)) : b481 ≠ b452)); have n12_ := aM ((by rw [hg]; exact Nat.ne_of_lt (bL (g := b453) (by (with_reducible repeat first | apply bN | apply bD | apply bA); exact BK453.out)) : b453 ≠ b481)); have n13_ := aM ((by rw [hg]; exact Nat.ne_of_gt (bL (g := b453) (by (with_reducible repeat first | apply bN | apply bD | apply bA); exact BK453.out)) : b481 ≠ b453)); have n14_ := aM ((by rw [hg]; exact Nat.ne_of_lt (bL (g := b463) (by (with_reducible repeat first | apply bN | apply bD | apply bA); exact BK463.out)) : b463 ≠ b481)); have n15_ := aM ((by rw [hg]; exact Nat.ne_of_gt (bL (g := b463) (by (with_reducible repeat first | apply bN | apply bD | apply bA); exact BK463.out)) : b481 ≠ b463)); have n16_ := aM ((by rw [hg]; exact Nat.ne_of_lt (bL (g := b470) (by (with_reducible repeat first | apply bN | apply bD | apply bA); exact BK470.out)) : b470 ≠ b481)); have n17_ := aM ((by rw [hg]; exact Nat.ne_of_gt (bL (g := b470) (by (with_reducible repeat first | apply bN | apply bD | apply bA); exact BK470.out)) : b481 ≠ b470)); have n18_ := aM ((by rw [hg]; exact Nat.ne_of_lt (bL (g := b473) (by (with_reducible repeat first | apply bN | apply bD | apply bA); exact BK473.out)) : b473 ≠ b481)); have n19_ := aM ((by rw [hg]; exact Nat.ne_of_gt (bL (g := b473) (by (with_reducible repeat first | apply bN | apply bD | apply bA); exact BK473.out)) : b481 ≠ b473)); have n20_ := aM ((by rw [hg]; exact Nat.ne_of_lt (bL (g := b474) (by (with_reducible repeat first | apply bN | apply bD | apply bA); exact BK474.out)) : b474 ≠ b481)); have n21_ := aM ((by rw [hg]; exact Nat.ne_of_gt (bL (g := b474) (by (with_reducible repeat first | apply bN | apply bD | apply bA); exact BK474.out)) : b481 ≠ b474)); clear BK452; clear BK453; clear BK463; clear BK470; clear BK473; clear BK474; clear HB; have BK452 := n0_; have BK453 := n1_; have BK463 := n2_; have BK470 := n3_; have BK473 := n4_; have BK474 := n5_; have HB := n6_; have BK481 := n7_; have GW481 := n8_; have GE481 := n9_; have N30_ := n10_; have N31_ := n11_; have N32_ := n12_; have N33_ := n13_; have N34_ := n14_; have N35_ := n15_; have N36_ := n16_; have N37_ := n17_; have N38_ := n18_; have N39_ := n19_; have N40_ := n20_; have N41_ := n21_; clear n0_ n1_ n2_ n3_ n4_ n5_ n6_ n7_ n8_ n9_ n10_ n11_ n12_ n13_ n14_ n15_ n16_ n17_ n18_ n19_ n20_ n21_; clear hb hbox hg; have hnb126 := N31_.out; have hnc126 := N30_.out; have hnb127 := N33_.out; have hnc127 := N32_.out; have hnb128 := N35_.out; have hnc128 := N34_.out; have hnb129 := N37_.out; have hnc129 := N36_.out; have hnb130 := N39_.out; have hnc130 := N38_.out; have hnb131 := N41_.out; have hnc131 := N40_.out; have hcz132_0 : w125.cell? ⟨b481, 0, none⟩ = some (.int .u32 0) := (bC BK481.out 0).trans rfl; have hcz132_1 : w125.cell? ⟨b481, 1, none⟩ = some (.int .u32 0) := (bC BK481.out 1).trans rfl; have hcz132_2 : w125.cell? ⟨b481, 2, none⟩ = some (.int .i32 0) := (bC BK481.out 2).trans rfl; have hcz132_3 : w125.cell? ⟨b481, 3, none⟩ = some (.int .i32 0) := (bC BK481.out 3).trans rfl; have hcz132_4 : w125.cell? ⟨b481, 4, none⟩ = some (.int .i32 0) := (bC BK481.out 4).trans rfl; have hfz132_0 := bF BK481.out 0; have hfz132_1 := bF BK481.out 1; have hfz132_2 := bF BK481.out 2; have hfz132_3 := bF BK481.out 3; have hfz132_4 := bF BK481.out 4; have hnb133 := N3_.out; have hnc133 := N2_.out; have hnb134 := N5_.out; have hnc134 := N4_.out; have hnb135 := N10_.out; have hnc135 := N11_.out; have hcz136_0 : w125.cell? ⟨b463, 0, none⟩ = some (.int .u32 t457) := (bC BK463.out 0).trans rfl; have hcz136_1 : w125.cell? ⟨b463, 1, none⟩ = some (.int .u32 t458) := (bC BK463.out 1).trans rfl; have hcz136_2 : w125.cell? ⟨b463, 2, none⟩ = some (.int .i32 t459) := (bC BK463.out 2).trans rfl; have hcz136_3 : w125.cell? ⟨b463, 3, none⟩ = some (.int .i32 t460) := (bC BK463.out 3).trans rfl; have hcz136_4 : w125.cell? ⟨b463, 4, none⟩ = some (.int .i32 t461) := (bC BK463.out 4).trans rfl; have hfz136_0 := bF BK463.out 0; have hfz136_1 := bF BK463.out 1; have hfz136_2 := bF BK463.out 2; have hfz136_3 := bF BK463.out 3; have hfz136_4 := bF BK463.out 4))
               go_ret
               exact ⟨by first | rfl | (simp [errW_none, errW_some] <;> rfl) | (simp [*, errW_none, errW_some] <;> rfl), by repeat (first | (with_reducible first | exact HB.out | apply lA | apply lN | apply lD | refine lS ?_ GE452.out | refine lS ?_ GE453.out | refine lS ?_ GE463.out | refine lS ?_ GE470.out | refine lS ?_ GE473.out | refine lS ?_ GE474.out | refine lS ?_ GE481.out) | exact HB.out)⟩
              ·rw [if_neg c84] at H
               have c84b0 : decide ((-1) ≤ (wrap32 (t478 + t460))) = false := decide_eq_false c84
               clear c84
               exact absurd ((Option.some.inj H).trans HR.out) (by decide)
             ·rw [if_neg c83] at H
              have c83b0 : decide ((wrap32 (t477 + t459)) ≤ 0) = false := decide_eq_false c83
              clear c83
              exact absurd ((Option.some.inj H).trans HR.out) (by decide)
            ·rw [if_neg c82] at H
             have c82b0 : decide ((-1) ≤ (wrap32 (t477 + t459))) = false := decide_eq_false c82
             clear c82
             exact absurd ((Option.some.inj H).trans HR.out) (by decide)
           ·rw [if_neg c81] at H
            have c81b0 : (t479 == t461) = false := beq_eq_false_iff_ne.mpr c81
            have c81b1 : (t479 != t461) = true := bne_iff_ne.mpr c81
            exact absurd ((Option.some.inj H).trans HR.out) (by decide)
          ·replace c80 := Bool.eq_false_iff.mpr c80
           subst c80
           have H1 : (some false) = some r := by rw [if_neg (show ¬ (false = true) by decide)] at H; exact H
           clear H
           have H := H1
           clear H1
           exact absurd ((Option.some.inj H).trans HR.out) (by decide)

/-- THE ONE PURE STATEMENT of billiardlaw14_ContactSymmetric: yours. -/
def billiardlaw14_ContactSymmetric.Pure : Prop := ∀ (a0_0 : Int) (a0_1 : Int) (a0_2 : Int) (a0_3 : Int) (a0_4 : Int) (a0_5 : Int) (a0_6 : Int) (a0_7 : Int) (a0_8 : Int) (a0_9 : Int) (a1_0 : Int) (a1_1 : Int) (a1_2 : Int) (a1_3 : Int) (a1_4 : Int) (a1_5 : Int) (a1_6 : Int) (a1_7 : Int) (a1_8 : Int) (a1_9 : Int), (Lit.int .u32 a0_0).wf = true → (Lit.int .i32 a0_1).wf = true → (Lit.int .i32 a0_2).wf = true → (Lit.int .i32 a0_3).wf = true → (Lit.int .i32 a0_4).wf = true → (Lit.int .i32 a0_5).wf = true → (Lit.int .i32 a0_6).wf = true → (Lit.int .i32 a0_7).wf = true → (Lit.int .i32 a0_8).wf = true → (Lit.int .i32 a0_9).wf = true → (Lit.int .u32 a1_0).wf = true → (Lit.int .i32 a1_1).wf = true → (Lit.int .i32 a1_2).wf = true → (Lit.int .i32 a1_3).wf = true → (Lit.int .i32 a1_4).wf = true → (Lit.int .i32 a1_5).wf = true → (Lit.int .i32 a1_6).wf = true → (Lit.int .i32 a1_7).wf = true → (Lit.int .i32 a1_8).wf = true → (Lit.int .i32 a1_9).wf = true → ∃ k, billiardlaw14_ContactSymmetric.f k a0_0 a0_1 a0_2 a0_3 a0_4 a0_5 a0_6 a0_7 a0_8 a0_9 a1_0 a1_1 a1_2 a1_3 a1_4 a1_5 a1_6 a1_7 a1_8 a1_9 = some true
theorem billiardlaw14_ContactSymmetric.walk (P : billiardlaw14_ContactSymmetric.Pure) (a0_0 : Int) (a0_1 : Int) (a0_2 : Int) (a0_3 : Int) (a0_4 : Int) (a0_5 : Int) (a0_6 : Int) (a0_7 : Int) (a0_8 : Int) (a0_9 : Int) (a1_0 : Int) (a1_1 : Int) (a1_2 : Int) (a1_3 : Int) (a1_4 : Int) (a1_5 : Int) (a1_6 : Int) (a1_7 : Int) (a1_8 : Int) (a1_9 : Int) (w : World) (w0_0 : (Lit.int .u32 a0_0).wf = true) (w0_1 : (Lit.int .i32 a0_1).wf = true) (w0_2 : (Lit.int .i32 a0_2).wf = true) (w0_3 : (Lit.int .i32 a0_3).wf = true) (w0_4 : (Lit.int .i32 a0_4).wf = true) (w0_5 : (Lit.int .i32 a0_5).wf = true) (w0_6 : (Lit.int .i32 a0_6).wf = true) (w0_7 : (Lit.int .i32 a0_7).wf = true) (w0_8 : (Lit.int .i32 a0_8).wf = true) (w0_9 : (Lit.int .i32 a0_9).wf = true) (w1_0 : (Lit.int .u32 a1_0).wf = true) (w1_1 : (Lit.int .i32 a1_1).wf = true) (w1_2 : (Lit.int .i32 a1_2).wf = true) (w1_3 : (Lit.int .i32 a1_3).wf = true) (w1_4 : (Lit.int .i32 a1_4).wf = true) (w1_5 : (Lit.int .i32 a1_5).wf = true) (w1_6 : (Lit.int .i32 a1_6).wf = true) (w1_7 : (Lit.int .i32 a1_7).wf = true) (w1_8 : (Lit.int .i32 a1_8).wf = true) (w1_9 : (Lit.int .i32 a1_9).wf = true) :
  Calls Try.prog 5 #[.agg #[.int .u32 a0_0, .int .i32 a0_1, .int .i32 a0_2, .int .i32 a0_3, .int .i32 a0_4, .int .i32 a0_5, .int .i32 a0_6, .int .i32 a0_7, .int .i32 a0_8, .int .i32 a0_9], .agg #[.int .u32 a1_0, .int .i32 a1_1, .int .i32 a1_2, .int .i32 a1_3, .int .i32 a1_4, .int .i32 a1_5, .int .i32 a1_6, .int .i32 a1_7, .int .i32 a1_8, .int .i32 a1_9]] w fun e w' => e = .returned (.bool true) ∧ Below w.heap.size w w' := by
 obtain ⟨k, h⟩ := P a0_0 a0_1 a0_2 a0_3 a0_4 a0_5 a0_6 a0_7 a0_8 a0_9 a1_0 a1_1 a1_2 a1_3 a1_4 a1_5 a1_6 a1_7 a1_8 a1_9 w0_0 w0_1 w0_2 w0_3 w0_4 w0_5 w0_6 w0_7 w0_8 w0_9 w1_0 w1_1 w1_2 w1_3 w1_4 w1_5 w1_6 w1_7 w1_8 w1_9
 refine (billiardlaw14_ContactSymmetric.calls k a0_0 a0_1 a0_2 a0_3 a0_4 a0_5 a0_6 a0_7 a0_8 a0_9 a1_0 a1_1 a1_2 a1_3 a1_4 a1_5 a1_6 a1_7 a1_8 a1_9 true w h rfl).mono ?_
 rintro e w' ⟨rfl, hd⟩
 exact ⟨rfl, hd⟩

end Go.Proofs.Ytahbfafnodeimaa.Q
