-- PRINTED by print.py (a twelfth state) out of the translation. Not trusted: Lean checks it.
import Derived.Test.YtcbdcgghccjdpaaQ0
import Derived.Test.YtcbdcgghccjdpaaMspec
import Derived.Test.YtcbdcgghccjdpaaQE0
import Derived.Test.YtcbdcgghccjdpaaQE1
import Derived.Test.YtcbdcgghccjdpaaQbilliardlaw17
import Derived.Test.YtcbdcgghccjdpaaQbilliardref11
import Derived.Test.YtcbdcgghccjdpaaQbilliardref17
import Derived.Test.YtcbdcgghccjdpaaQjacobi
import Derived.Test.YtcbdcgghccjdpaaMslice
namespace Go.Proofs.Ytcbdcgghccjdpaa.Q
open Go.RowKit Go.Proofs.YtcbdcgghccjdpaaW.PrintWords Go.Proofs.YtcbdcgghccjdpaaW.PrintLast Go.Proofs.YtcbdcgghccjdpaaW.PrintMore
open Go.Proofs.YtcbdcgghccjdpaaW.PrintWords renaming blk_drewN → bN, blk_drew → bD, blk_alloc → bA, blk_cell → bC, blk_frozen → bF, blk_put → bP, cell_far → cF, below_alloc → lA, pw_below_drewN → lN, below_drew1 → lD, below_set → lS, below_step → lT, below_size → lZ, Aside0.mk → aM
open List renaming setIfInBounds_toArray → sA, set_cons_zero → sB, set_cons_succ → sC
open Bool renaming true → T, false → F
attribute [local go_sem] max2_int min2_int max_two min_two max_three min_three max_four min_four   -- for this text's walks alone
set_option linter.unusedVariables false
set_option linter.unusedSimpArgs false

attribute [local go_sem high] eqA39 eqA44
/-! ### billiardlaw17_JacobiVelocities: function 5 -/
-- IMPORT Derived.Test.YtcbdcgghccjdpaaMslice
mutual
def billiardlaw17_JacobiVelocities.j0 : Nat → List (S41) → List (S44) → Bool → Option (Bool)
 | 0, _, _, _ => none
 | k + 1, x1, x5, x29 => if x29 = true then ((billiardlaw17_awake.f k).bind fun t351 => (some t351)) else ((jacobi_Solve.f k x5 x1).bind fun bt352 => (if (bt352.1.length : Int) = (x5.length : Int) then (billiardlaw17_JacobiVelocities.l0 k x1 x5 bt352.1 0) else (some false)))
def billiardlaw17_JacobiVelocities.l0 : Nat → List (S41) → List (S44) → List (S44) → Int → Option (Bool)
 | 0, _, _, _, _ => none
 | k + 1, x1, x5, x7, x9 => if x9 < (x5.length : Int) then (if 0 ≤ x9 then (if x9 < (x7.length : Int) then (billiardlaw17_JacobiVelocities.l1 k x1 x5 x7 x9 false 0 ((rd_T44 x7 x9).f0) ((rd_T44 x7 x9).f1) ((rd_T44 x7 x9).f2.f0) ((rd_T44 x7 x9).f2.f1) ((rd_T44 x7 x9).f3) ((rd_T44 x7 x9).f4) ((rd_T44 x7 x9).f5.f0) ((rd_T44 x7 x9).f5.f1) ((rd_T44 x5 x9).f6.f0) ((rd_T44 x5 x9).f6.f1)) else (none)) else (none)) else (some true)
def billiardlaw17_JacobiVelocities.l1 : Nat → List (S41) → List (S44) → List (S44) → Int → Bool → Int → Int → Int → Int → Int → Int → Int → Int → Int → Int → Int → Option (Bool)
 | 0, _, _, _, _, _, _, _, _, _, _, _, _, _, _, _, _ => none
 | k + 1, x1, x5, x7, x9, x11, x12, x358000, x358001, x358002, x358003, x358004, x358005, x358006, x358007, x358008, x358009 => if x12 < (x1.length : Int) then (if x11 = true then (billiardlaw17_JacobiVelocities.l1 k x1 x5 x7 x9 true (wrap64 (x12 + 1)) x358000 x358001 x358002 x358003 x358004 x358005 x358006 x358007 x358008 x358009) else (if 0 ≤ x12 then (if 0 ≤ x9 then (if x9 < (x5.length : Int) then (if ((rd_T41 x1 x12).f0.f0) = ((rd_T44 x5 x9).f0) then (billiardlaw17_JacobiVelocities.l1 k x1 x5 x7 x9 true (wrap64 (x12 + 1)) x358000 x358001 x358002 x358003 x358004 x358005 x358006 x358007 x358008 x358009) else (billiardlaw17_JacobiVelocities.l1 k x1 x5 x7 x9 (((rd_T41 x1 x12).f0.f1) == ((rd_T44 x5 x9).f0)) (wrap64 (x12 + 1)) x358000 x358001 x358002 x358003 x358004 x358005 x358006 x358007 x358008 x358009)) else (none)) else (none)) else (none))) else (if 0 ≤ x9 then (if x9 < (x5.length : Int) then (if (!(x358000 == ((rd_T44 x5 x9).f0)) || (!(x358001 == ((rd_T44 x5 x9).f1)) || ((!(x358002 == ((rd_T44 x5 x9).f2.f0)) || (!(x358003 == ((rd_T44 x5 x9).f2.f1)))) || (!(x358004 == ((rd_T44 x5 x9).f3)) || (!(x358005 == ((rd_T44 x5 x9).f4)) || ((!(x358006 == ((rd_T44 x5 x9).f5.f0)) || (!(x358007 == ((rd_T44 x5 x9).f5.f1)))) || ((!(x358008 == ((rd_T44 x5 x9).f6.f0)) || (!(x358009 == ((rd_T44 x5 x9).f6.f1))))))))))) = true then (billiardlaw17_JacobiVelocities.j3 k x1 x5 x7 x9 true) else (if ((rd_T44 x5 x9).f3) = 0 then (if x9 < (x7.length : Int) then (billiardlaw17_JacobiVelocities.j3 k x1 x5 x7 x9 (!(((rd_T44 x7 x9).f6.f0) == ((rd_T44 x5 x9).f6.f0)) || (!(((rd_T44 x7 x9).f6.f1) == ((rd_T44 x5 x9).f6.f1))))) else (none)) else (if x11 = true then (billiardlaw17_JacobiVelocities.j3 k x1 x5 x7 x9 false) else (if x9 < (x7.length : Int) then (billiardlaw17_JacobiVelocities.j3 k x1 x5 x7 x9 (!(((rd_T44 x7 x9).f6.f0) == ((rd_T44 x5 x9).f6.f0)) || (!(((rd_T44 x7 x9).f6.f1) == ((rd_T44 x5 x9).f6.f1))))) else (none))))) else (none)) else (none))
def billiardlaw17_JacobiVelocities.j3 : Nat → List (S41) → List (S44) → List (S44) → Int → Bool → Option (Bool)
 | 0, _, _, _, _, _ => none
 | k + 1, x1, x5, x7, x9, x123 => if x123 = true then (some false) else (if 0 ≤ x9 then (if x9 < (x7.length : Int) then (if ((rd_T44 x7 x9).f6.f0) < (-16777216) then (some false) else (if ((rd_T44 x7 x9).f6.f0) > 16777216 then (some false) else (if ((rd_T44 x7 x9).f6.f1) < (-16777216) then (some false) else (if ((rd_T44 x7 x9).f6.f1) > 16777216 then (some false) else (billiardlaw17_JacobiVelocities.l0 k x1 x5 x7 (wrap64 (x9 + 1))))))) else (none)) else (none))
end
def billiardlaw17_JacobiVelocities.f (k : Nat) (l0 : List (S44)) (l1 : List (S41)) : Option (Bool) := (billiardref11_View.f k l0).bind fun bt345 => ((billiardlaw17_awake.f k).bind fun t349 => (if t349 = true then (if bt345.2 = true then ((billiardref17_Right.f k bt345.1 l1).bind fun t350 => (billiardlaw17_JacobiVelocities.j0 k l1 bt345.1 (!t350))) else (billiardlaw17_JacobiVelocities.j0 k l1 bt345.1 true)) else (billiardlaw17_JacobiVelocities.j0 k l1 bt345.1 true)))
theorem billiardlaw17_JacobiVelocities.mono_l : ∀ k, (∀ y0 y1 y2, LeO (billiardlaw17_JacobiVelocities.j0 k y0 y1 y2) (billiardlaw17_JacobiVelocities.j0 (k + 1) y0 y1 y2)) ∧ (∀ y0 y1 y2 y3, LeO (billiardlaw17_JacobiVelocities.l0 k y0 y1 y2 y3) (billiardlaw17_JacobiVelocities.l0 (k + 1) y0 y1 y2 y3)) ∧ (∀ y0 y1 y2 y3 y4 y5 y6 y7 y8 y9 y10 y11 y12 y13 y14 y15, LeO (billiardlaw17_JacobiVelocities.l1 k y0 y1 y2 y3 y4 y5 y6 y7 y8 y9 y10 y11 y12 y13 y14 y15) (billiardlaw17_JacobiVelocities.l1 (k + 1) y0 y1 y2 y3 y4 y5 y6 y7 y8 y9 y10 y11 y12 y13 y14 y15)) ∧ (∀ y0 y1 y2 y3 y4, LeO (billiardlaw17_JacobiVelocities.j3 k y0 y1 y2 y3 y4) (billiardlaw17_JacobiVelocities.j3 (k + 1) y0 y1 y2 y3 y4))
 | 0 => ⟨fun _ _ _ r h => by simp [billiardlaw17_JacobiVelocities.j0] at h, fun _ _ _ _ r h => by simp [billiardlaw17_JacobiVelocities.l0] at h, fun _ _ _ _ _ _ _ _ _ _ _ _ _ _ _ _ r h => by simp [billiardlaw17_JacobiVelocities.l1] at h, fun _ _ _ _ _ r h => by simp [billiardlaw17_JacobiVelocities.j3] at h⟩
 | k + 1 => by
  obtain ⟨ih0, ih1, ih2, ih3⟩ := billiardlaw17_JacobiVelocities.mono_l k
  refine ⟨?_, ?_, ?_, ?_⟩
  ·intro y0 y1 y2
   unfold billiardlaw17_JacobiVelocities.j0
   repeat' first
   | (with_reducible exact ih0 _ _ _)
   | (with_reducible exact ih1 _ _ _ _)
   | (with_reducible exact ih2 _ _ _ _ _ _ _ _ _ _ _ _ _ _ _ _)
   | (with_reducible exact ih3 _ _ _ _ _)
   | (with_reducible exact billiardlaw17_awake.mono _)
   | (with_reducible exact billiardref11_View.mono _ _)
   | (with_reducible exact billiardref17_Right.mono _ _ _)
   | (with_reducible exact jacobi_Solve.mono _ _ _)
   | (with_reducible exact LeO.refl _)
   | (with_reducible exact LeO.none _)
   | (with_reducible refine LeO.ite ?_ ?_)
   | (with_reducible refine LeO.bind ?_ (fun _ => ?_))
   | exact ih0 _ _ _
   | exact ih1 _ _ _ _
   | exact ih2 _ _ _ _ _ _ _ _ _ _ _ _ _ _ _ _
   | exact ih3 _ _ _ _ _
   | exact billiardlaw17_awake.mono _
   | exact billiardref11_View.mono _ _
   | exact billiardref17_Right.mono _ _ _
   | exact jacobi_Solve.mono _ _ _
   | exact LeO.none _
   | refine LeO.ite ?_ ?_
   | refine LeO.bind ?_ (fun _ => ?_)
  ·intro y0 y1 y2 y3
   unfold billiardlaw17_JacobiVelocities.l0
   repeat' first
   | (with_reducible exact ih0 _ _ _)
   | (with_reducible exact ih1 _ _ _ _)
   | (with_reducible exact ih2 _ _ _ _ _ _ _ _ _ _ _ _ _ _ _ _)
   | (with_reducible exact ih3 _ _ _ _ _)
   | (with_reducible exact billiardlaw17_awake.mono _)
   | (with_reducible exact billiardref11_View.mono _ _)
   | (with_reducible exact billiardref17_Right.mono _ _ _)
   | (with_reducible exact jacobi_Solve.mono _ _ _)
   | (with_reducible exact LeO.refl _)
   | (with_reducible exact LeO.none _)
   | (with_reducible refine LeO.ite ?_ ?_)
   | (with_reducible refine LeO.bind ?_ (fun _ => ?_))
   | exact ih0 _ _ _
   | exact ih1 _ _ _ _
   | exact ih2 _ _ _ _ _ _ _ _ _ _ _ _ _ _ _ _
   | exact ih3 _ _ _ _ _
   | exact billiardlaw17_awake.mono _
   | exact billiardref11_View.mono _ _
   | exact billiardref17_Right.mono _ _ _
   | exact jacobi_Solve.mono _ _ _
   | exact LeO.none _
   | refine LeO.ite ?_ ?_
   | refine LeO.bind ?_ (fun _ => ?_)
  ·intro y0 y1 y2 y3 y4 y5 y6 y7 y8 y9 y10 y11 y12 y13 y14 y15
   unfold billiardlaw17_JacobiVelocities.l1
   repeat' first
   | (with_reducible exact ih0 _ _ _)
   | (with_reducible exact ih1 _ _ _ _)
   | (with_reducible exact ih2 _ _ _ _ _ _ _ _ _ _ _ _ _ _ _ _)
   | (with_reducible exact ih3 _ _ _ _ _)
   | (with_reducible exact billiardlaw17_awake.mono _)
   | (with_reducible exact billiardref11_View.mono _ _)
   | (with_reducible exact billiardref17_Right.mono _ _ _)
   | (with_reducible exact jacobi_Solve.mono _ _ _)
   | (with_reducible exact LeO.refl _)
   | (with_reducible exact LeO.none _)
   | (with_reducible refine LeO.ite ?_ ?_)
   | (with_reducible refine LeO.bind ?_ (fun _ => ?_))
   | exact ih0 _ _ _
   | exact ih1 _ _ _ _
   | exact ih2 _ _ _ _ _ _ _ _ _ _ _ _ _ _ _ _
   | exact ih3 _ _ _ _ _
   | exact billiardlaw17_awake.mono _
   | exact billiardref11_View.mono _ _
   | exact billiardref17_Right.mono _ _ _
   | exact jacobi_Solve.mono _ _ _
   | exact LeO.none _
   | refine LeO.ite ?_ ?_
   | refine LeO.bind ?_ (fun _ => ?_)
  ·intro y0 y1 y2 y3 y4
   unfold billiardlaw17_JacobiVelocities.j3
   repeat' first
   | (with_reducible exact ih0 _ _ _)
   | (with_reducible exact ih1 _ _ _ _)
   | (with_reducible exact ih2 _ _ _ _ _ _ _ _ _ _ _ _ _ _ _ _)
   | (with_reducible exact ih3 _ _ _ _ _)
   | (with_reducible exact billiardlaw17_awake.mono _)
   | (with_reducible exact billiardref11_View.mono _ _)
   | (with_reducible exact billiardref17_Right.mono _ _ _)
   | (with_reducible exact jacobi_Solve.mono _ _ _)
   | (with_reducible exact LeO.refl _)
   | (with_reducible exact LeO.none _)
   | (with_reducible refine LeO.ite ?_ ?_)
   | (with_reducible refine LeO.bind ?_ (fun _ => ?_))
   | exact ih0 _ _ _
   | exact ih1 _ _ _ _
   | exact ih2 _ _ _ _ _ _ _ _ _ _ _ _ _ _ _ _
   | exact ih3 _ _ _ _ _
   | exact billiardlaw17_awake.mono _
   | exact billiardref11_View.mono _ _
   | exact billiardref17_Right.mono _ _ _
   | exact jacobi_Solve.mono _ _ _
   | exact LeO.none _
   | refine LeO.ite ?_ ?_
   | refine LeO.bind ?_ (fun _ => ?_)
theorem billiardlaw17_JacobiVelocities.mono : ∀ a0 a1 k, LeO (billiardlaw17_JacobiVelocities.f k a0 a1) (billiardlaw17_JacobiVelocities.f (k + 1) a0 a1) := by
 intro a0 a1 k
 obtain ⟨ih0, ih1, ih2, ih3⟩ := billiardlaw17_JacobiVelocities.mono_l k
 unfold billiardlaw17_JacobiVelocities.f
 repeat' first
   | (with_reducible exact ih0 _ _ _)
   | (with_reducible exact ih1 _ _ _ _)
   | (with_reducible exact ih2 _ _ _ _ _ _ _ _ _ _ _ _ _ _ _ _)
   | (with_reducible exact ih3 _ _ _ _ _)
   | (with_reducible exact billiardlaw17_awake.mono _)
   | (with_reducible exact billiardref11_View.mono _ _)
   | (with_reducible exact billiardref17_Right.mono _ _ _)
   | (with_reducible exact jacobi_Solve.mono _ _ _)
   | (with_reducible exact LeO.refl _)
   | (with_reducible exact LeO.none _)
   | (with_reducible refine LeO.ite ?_ ?_)
   | (with_reducible refine LeO.bind ?_ (fun _ => ?_))
   | exact ih0 _ _ _
   | exact ih1 _ _ _ _
   | exact ih2 _ _ _ _ _ _ _ _ _ _ _ _ _ _ _ _
   | exact ih3 _ _ _ _ _
   | exact billiardlaw17_awake.mono _
   | exact billiardref11_View.mono _ _
   | exact billiardref17_Right.mono _ _ _
   | exact jacobi_Solve.mono _ _ _
   | exact LeO.none _
   | refine LeO.ite ?_ ?_
   | refine LeO.bind ?_ (fun _ => ?_)
theorem billiardlaw17_JacobiVelocities.j3.dead {k : Nat} {p0 : List (S41)} {p1 : List (S44)} {p2 : List (S44)} {p3 : Int} {r : Bool} (h : billiardlaw17_JacobiVelocities.j3 k p0 p1 p2 p3 true = some r) (hr : r = true) : False := by
 cases k with
 | zero => simp only [billiardlaw17_JacobiVelocities.j3] at h; cases h
 | succ k =>
  have e : billiardlaw17_JacobiVelocities.j3 (k + 1) p0 p1 p2 p3 true = some false := by simp only [billiardlaw17_JacobiVelocities.j3]; rfl
  rw [e, hr] at h; cases h
set_option maxHeartbeats 8000000 in
set_option maxRecDepth 100000 in
theorem billiardlaw17_JacobiVelocities.calls (k : Nat) (A0 : Option Addr) (c0 : Nat) (l0 : List (S44)) (A1 : Option Addr) (c1 : Nat) (l1 : List (S41)) (r : Bool) (w : World) (hr0 : Kd.C k44 w A0 l0.length l0) (hc0 : l0.length ≤ c0) (hr1 : Kd.C k41 w A1 l1.length l1) (hc1 : l1.length ≤ c1) (h : billiardlaw17_JacobiVelocities.f k l0 l1 = some r) (hr : r = true) :
  Calls Try.prog 5 #[.slice A0 l0.length c0, .slice A1 l1.length c1] w fun e w' => e = .returned (.bool r) ∧ Below w.heap.size w w' := by
 have HR := aM hr
 clear hr
 have hu44 := Try.underlying44
 have hu39 := Try.underlying39
 have HR0 := aM hr0
 have HC0 := aM hc0
 clear hr0 hc0
 have HR1 := aM hr1
 have HC1 := aM hc1
 clear hr1 hc1
 have HB := aM (Below.refl w.heap.size w)
 have H : ((billiardref11_View.f k l0).bind fun bt345 => ((billiardlaw17_awake.f k).bind fun t349 => (if t349 = true then (if bt345.2 = true then ((billiardref17_Right.f k bt345.1 l1).bind fun t350 => (billiardlaw17_JacobiVelocities.j0 k l1 bt345.1 (!t350))) else (billiardlaw17_JacobiVelocities.j0 k l1 bt345.1 true)) else (billiardlaw17_JacobiVelocities.j0 k l1 bt345.1 true)))) = some r := h
 clear h
 replace H := Option.bind_eq_some_iff.mp H
 obtain ⟨⟨t345, t346⟩, A30, H⟩ := H
 try dsimp only at H
 have A3 := aM A30
 clear A30
 have HC4 := aM H
 clear H
 go_enter Try.func5, Try.ntmps5
 go_upto_region 2 with (first | (go_at_call 8; (with_reducible refine (billiardref11_View.calls k _ _ l0 t345 t346 _ ?side1 ?side2 A3.out).mono ?_); (case side1 => repeat (first | exact HR0.out | (with_reducible refine Kd.C_alloc ?_ _) | (with_reducible refine Kd.C_drewN ?_ _) | (with_reducible refine Kd.C_drew ?_))); (case side2 => exact HC0.out); rintro e w5 ⟨v347, rfl, ho0, hb⟩; have n0_ := aM (Kd.R_lower ho0 (lZ (by repeat (first | (with_reducible first | exact HB.out | apply lA | apply lN | apply lD) | exact HB.out)))); have n1_ := aM (lT (by repeat (first | (with_reducible first | exact HB.out | apply lA | apply lN | apply lD) | exact HB.out)) hb); clear HB; have HO348 := n0_; have HB := n1_; clear n0_ n1_; (try clear hb); (try clear hb2); (try clear hk); (try clear hi); (try clear ho0)))
 (try simp only [Act.put, sA, sB, sC])
 go_cut [29] (fun v29 wc => ∃ (kq : Nat) (x29_3 : Bool), v29 = .bool x29_3 ∧ Aside0 (billiardlaw17_JacobiVelocities.j0 kq l1 t345 x29_3 = some r) ∧ Aside0 (kq ≤ k) ∧ Aside0 (Kd.R k44 44 wc w.heap.size (fun _ => True) v347 t345) ∧ Aside0 (Below w.heap.size w wc))
 case first =>
  have H := HC4.out
  clear HC4
  replace H := Option.bind_eq_some_iff.mp H
  obtain ⟨t349, A60, H⟩ := H
  try dsimp only at H
  have A6 := aM A60
  clear A60
  by_cases c7 : t349 = true
  ·subst c7
   rw [if_pos rfl] at H
   by_cases c8 : t346 = true
   ·subst c8
    rw [if_pos rfl] at H
    replace H := Option.bind_eq_some_iff.mp H
    obtain ⟨t350, A90, H⟩ := H
    try dsimp only at H
    have A9 := aM A90
    clear A90
    have H' := aM H
    clear H
    go_wp2_with (first | (go_at_call 9; (with_reducible refine (billiardlaw17_awake.calls k  true _ A6.out).mono ?_); rintro e w10 ⟨rfl, hb⟩; have n0_ := aM (Kd.R_below (by (with_reducible repeat (first | apply Kd.R_alloc | apply Kd.R_drewN | apply Kd.R_drew)); exact HO348.out) hb); have n1_ := aM (lT (by repeat (first | (with_reducible first | exact HB.out | apply lA | apply lN | apply lD) | exact HB.out)) hb); clear HO348; clear HB; have HO348 := n0_; have HB := n1_; clear n0_ n1_; (try clear hb); (try clear hb2); (try clear hk); (try clear hi); obtain ⟨Ao11, co11, eo11⟩ := Kd.R_slice HO348.out; subst eo11) | (go_at_call 10; (with_reducible refine (billiardref17_Right.calls k _ _ t345 _ _ l1 t350 _ ?side1 ?side2 ?side3 ?side4 A9.out).mono ?_); (case side1 => repeat (first | exact (Kd.R_reads' HO348.out).2.2 | (with_reducible refine Kd.C_alloc ?_ _) | (with_reducible refine Kd.C_drewN ?_ _) | (with_reducible refine Kd.C_drew ?_))); (case side2 => exact (Kd.R_reads' HO348.out).2.1); (case side3 => repeat (first | exact (Kd.C_below HR1.out HB.out) | (with_reducible refine Kd.C_alloc ?_ _) | (with_reducible refine Kd.C_drewN ?_ _) | (with_reducible refine Kd.C_drew ?_))); (case side4 => exact HC1.out); rintro e w12 ⟨rfl, hb⟩; have n0_ := aM (Kd.R_below (by (with_reducible repeat (first | apply Kd.R_alloc | apply Kd.R_drewN | apply Kd.R_drew)); exact HO348.out) hb); have n1_ := aM (lT (by repeat (first | (with_reducible first | exact HB.out | apply lA | apply lN | apply lD) | exact HB.out)) hb); clear HO348; clear HB; have HO348 := n0_; have HB := n1_; clear n0_ n1_; (try clear hb); (try clear hb2); (try clear hk); (try clear hi)))
    go_meet
    case rel => exact ⟨_, (!t350), (by first | rfl | (simp; done) | (simp [*]; done)), H', ⟨by first | omega | exact Nat.le_refl _⟩, ⟨by (with_reducible repeat (first | apply Kd.R_alloc | apply Kd.R_drewN | apply Kd.R_drew)); exact HO348.out⟩, ⟨by repeat (first | (with_reducible first | exact HB.out | apply lA | apply lN | apply lD) | exact HB.out)⟩⟩
   ·replace c8 := Bool.eq_false_iff.mpr c8
    subst c8
    rw [if_neg (show ¬ (false = true) by decide)] at H
    have H' := aM H
    clear H
    go_wp2_with (first | (go_at_call 9; (with_reducible refine (billiardlaw17_awake.calls k  true _ A6.out).mono ?_); rintro e w13 ⟨rfl, hb⟩; have n0_ := aM (Kd.R_below (by (with_reducible repeat (first | apply Kd.R_alloc | apply Kd.R_drewN | apply Kd.R_drew)); exact HO348.out) hb); have n1_ := aM (lT (by repeat (first | (with_reducible first | exact HB.out | apply lA | apply lN | apply lD) | exact HB.out)) hb); clear HO348; clear HB; have HO348 := n0_; have HB := n1_; clear n0_ n1_; (try clear hb); (try clear hb2); (try clear hk); (try clear hi)))
    go_meet
    case rel => exact ⟨_, (true), (by first | rfl | (simp; done) | (simp [*]; done)), H', ⟨by first | omega | exact Nat.le_refl _⟩, ⟨by (with_reducible repeat (first | apply Kd.R_alloc | apply Kd.R_drewN | apply Kd.R_drew)); exact HO348.out⟩, ⟨by repeat (first | (with_reducible first | exact HB.out | apply lA | apply lN | apply lD) | exact HB.out)⟩⟩
  ·replace c7 := Bool.eq_false_iff.mpr c7
   subst c7
   exact absurd (billiardlaw17_awake.only A6.out) (by decide)
 case rest =>
  clear HC4
  try clear c1
  try clear p2
  try clear c5
  try clear c7
  try clear c8
  obtain ⟨kq, x29_3, rfl, HA, HJ3, HO_5, HB⟩ := hcut
  cases kq with
  | zero => exact absurd HA.out (by simp [billiardlaw17_JacobiVelocities.j0])
  | succ kj3 =>
   have H := HA.out
   clear HA
   simp only [billiardlaw17_JacobiVelocities.j0] at H
   by_cases c14 : x29_3 = true
   ·subst c14
    rw [if_pos rfl] at H
    replace H := Option.bind_eq_some_iff.mp H
    obtain ⟨t351, A150, H⟩ := H
    try dsimp only at H
    have A15 := aM A150
    clear A150
    obtain rfl := Option.some.inj H
    go_wp2_with (first | (go_at_call 9; (with_reducible refine (billiardlaw17_awake.calls kj3  t351 _ A15.out).mono ?_); rintro e w16 ⟨rfl, hb⟩; have n0_ := aM (Kd.R_below (by (with_reducible repeat (first | apply Kd.R_alloc | apply Kd.R_drewN | apply Kd.R_drew)); exact HO_5.out) hb); have n1_ := aM (lT (by repeat (first | (with_reducible first | exact HB.out | apply lA | apply lN | apply lD) | exact HB.out)) hb); clear HO_5; clear HB; have HO_5 := n0_; have HB := n1_; clear n0_ n1_; (try clear hb); (try clear hb2); (try clear hk); (try clear hi)))
    go_ret
    exact ⟨by first | rfl | (simp [errW_none, errW_some] <;> rfl) | (simp [*, errW_none, errW_some] <;> rfl), by repeat (first | (with_reducible first | exact HB.out | apply lA | apply lN | apply lD) | exact HB.out)⟩
   ·replace c14 := Bool.eq_false_iff.mpr c14
    subst c14
    rw [if_neg (show ¬ (false = true) by decide)] at H
    replace H := Option.bind_eq_some_iff.mp H
    obtain ⟨⟨t352, t355⟩, A170, H⟩ := H
    try dsimp only at H
    have A17 := aM A170
    clear A170
    by_cases c18 : (t352.length : Int) = (t345.length : Int)
    ·rw [if_pos c18] at H
     have c18b0 : ((t352.length : Int) == (t345.length : Int)) = true := beq_iff_eq.mpr c18
     have c18b1 : ((t352.length : Int) != (t345.length : Int)) = false := bne_eq_false_iff_eq.mpr c18
     have c18b2 : (t352.length == t345.length) = true := by first | simpa using c18 | (simp at c18 ⊢; omega)
     clear c18
     have H' := aM H
     clear H
     obtain ⟨Ao19, co19, eo19⟩ := Kd.R_slice HO_5.out
     subst eo19
     go_wp2_with (first | (go_at_call 14; (with_reducible refine (jacobi_Solve.calls kj3 (fun k_ => some k_ = (.slice Ao19 t345.length co19 : Value).ownBlock) _ _ t345 _ _ l1 t352 t355 _ ?side1 ?side2 ?side3 A17.out).mono ?_); (case side1 => exact Kd.R_V (Kd.R_tight rfl (HO_5.out))); (case side2 => repeat (first | exact (Kd.C_below HR1.out HB.out) | (with_reducible refine Kd.C_alloc ?_ _) | (with_reducible refine Kd.C_drewN ?_ _) | (with_reducible refine Kd.C_drew ?_))); (case side3 => exact HC1.out); rintro e w20 ⟨v353, rfl, ho0, hb⟩; have n0_ := aM (Kd.R_below (by (with_reducible repeat (first | apply Kd.R_alloc | apply Kd.R_drewN | apply Kd.R_drew)); exact HO_5.out) hb); have n1_ := aM (Kd.V_lower (Kd.V_mono (ok' := fun k_ => True) ho0 (fun k_ hk_ => trivial)) (lZ (by repeat (first | (with_reducible first | exact HB.out | apply lA | apply lN | apply lD) | exact HB.out)))); have n2_ := aM (lT (by repeat (first | (with_reducible first | exact HB.out | apply lA | apply lN | apply lD) | exact HB.out)) hb); clear HO_5; clear HB; have HO_5 := n0_; have HO354 := n1_; have HB := n2_; clear n0_ n1_ n2_; (try clear hb); (try clear hb2); (try clear hk); (try clear hi); (try clear ho0); obtain ⟨Ao21, co21, eo21⟩ := Kd.V_slice HO354.out; subst eo21))
     go_loopg [9] kj3 (fun kq v9 w' => ∃ (x9_2 : Int), v9 = .int .i64 x9_2 ∧ Aside0 (billiardlaw17_JacobiVelocities.l0 kq l1 t345 t352 x9_2 = some r) ∧ Aside0 (kq ≤ kj3) ∧ Aside0 (Kd.R k44 44 w' w.heap.size (fun _ => True) (.slice Ao19 t345.length co19) t345) ∧ Aside0 (Kd.V k44 44 w' w.heap.size (fun _ => True) (.slice Ao21 t352.length co21) t352) ∧ Aside0 (Below w.heap.size w w'))
     case atStart => exact ⟨(0), (by first | rfl | (simp; done) | (simp [*]; done)), H', ⟨Nat.le_refl _⟩, ⟨by (with_reducible repeat (first | apply Kd.R_alloc | apply Kd.R_drewN | apply Kd.R_drew)); exact HO_5.out⟩, ⟨by (with_reducible repeat (first | apply Kd.V_alloc | apply Kd.V_drewN | apply Kd.V_drew)); exact HO354.out⟩, ⟨by repeat (first | (with_reducible first | exact HB.out | apply lA | apply lN | apply lD) | exact HB.out)⟩⟩
     case round =>
      clear H'
      try clear c1
      try clear p2
      try clear c5
      try clear c7
      try clear c8
      try clear c14
      try clear c18
      try clear c18b0
      try clear c18b1
      try clear c18b2
      try clear p2
      obtain ⟨x9_2, rfl, HA, HK2, HO_5, HO_7, HB⟩ := hrel
      cases gk with
      | zero => exact absurd HA.out (by simp [billiardlaw17_JacobiVelocities.l0])
      | succ k2 =>
       have H := HA.out
       clear HA
       simp only [billiardlaw17_JacobiVelocities.l0] at H
       by_cases c22 : x9_2 < (t345.length : Int)
       ·rw [if_pos c22] at H
        have c22b0 : decide (x9_2 < (t345.length : Int)) = true := decide_eq_true c22
        clear c22
        by_cases c23 : 0 ≤ x9_2
        ·rw [if_pos c23] at H
         have c23b0 : decide (0 ≤ x9_2) = true := decide_eq_true c23
         clear c23
         by_cases c24 : x9_2 < (t352.length : Int)
         ·rw [if_pos c24] at H
          have c24b0 : decide (x9_2 < (t352.length : Int)) = true := decide_eq_true c24
          clear c24
          have H' := aM H
          clear H
          have p356 : 0 ≤ (x9_2 : Int) := of_decide_eq_true (by first | (with_reducible assumption) | assumption)
          have q356 : x9_2 < (t352.length : Int) := of_decide_eq_true (by first | (with_reducible assumption) | assumption)
          obtain ⟨ad356, e356, hx356_0, hx356_1, hx356_2, hx356_3, hx356_4, hx356_5, hx356_6, hx356_7, hx356_8, hx356_9⟩ := at_T44 (Kd.V_reads' HO_7.out).2.2 x9_2 p356 q356
          cases e356
          replace p356 := eq_true p356
          replace q356 := eq_true q356
          go_wp2_with (first | ((with_reducible refine gate_dst (N := 10) rfl ?_); refine box_event ?hg (N := 10) ?hd (cs := #[.int .u32 0, .int .i32 0, .int .i32 0, .int .i32 0, .int .i32 0, .int .i32 0, .int .i32 0, .int .i32 0, .int .i32 0, .int .i32 0]) (t := 44) ?hr ?_; (case hd => rfl); (case hg => rfl); (case hr => first | (go_simp; done) | (go_simp; rfl)); intro b357 hg w25 hbox hb; have n0_ := aM (Kd.R_below (Kd.R_elderB (by (with_reducible repeat (first | apply Kd.R_alloc | apply Kd.R_drewN | apply Kd.R_drew)); exact HO_5.out) b357 (Nat.le_of_eq hg.symm)) hb); have n1_ := aM (Kd.V_below (Kd.V_elderB (by (with_reducible repeat (first | apply Kd.V_alloc | apply Kd.V_drewN | apply Kd.V_drew)); exact HO_7.out) b357 (Nat.le_of_eq hg.symm)) hb); have n2_ := aM (lT (by repeat (first | (with_reducible first | exact HB.out | apply lA | apply lN | apply lD) | exact HB.out)) hb); have n3_ := aM (hbox); have n4_ := aM ((by rw [hg]; exact (lZ (by repeat (first | (with_reducible first | exact HB.out | apply lA | apply lN | apply lD) | exact HB.out))) : w.heap.size ≤ b357)); have n5_ := aM ((by rw [hg]; exact (lZ (by repeat (first | (with_reducible first | exact HB.out | apply lA | apply lN | apply lD) | exact HB.out))) : w.heap.size ≤ b357)); clear HO_5; clear HO_7; clear HB; have HO_5 := n0_; have HO_7 := n1_; have HB := n2_; have BK357 := n3_; have GW357 := n4_; have GE357 := n5_; clear n0_ n1_ n2_ n3_ n4_ n5_; clear hb hbox hg; obtain ⟨hcz26_0, hcz26_1, hcz26_2, hcz26_3, hcz26_4, hcz26_5, hcz26_6, hcz26_7, hcz26_8, hcz26_9, hfz26_0, hfz26_1, hfz26_2, hfz26_3, hfz26_4, hfz26_5, hfz26_6, hfz26_7, hfz26_8, hfz26_9⟩ := kD10 BK357.out; have p358 : 0 ≤ (x9_2 : Int) := of_decide_eq_true (by first | (with_reducible assumption) | assumption); have q358 : x9_2 < (t345.length : Int) := of_decide_eq_true (by first | (with_reducible assumption) | assumption); obtain ⟨ad358, e358, hx358_0, hx358_1, hx358_2, hx358_3, hx358_4, hx358_5, hx358_6, hx358_7, hx358_8, hx358_9⟩ := at_T44 (Kd.R_reads' HO_5.out).2.2 x9_2 p358 q358; cases e358; have hn358_0 : ad358.block ≠ b357 := Kd.own_blk (by first | exact Kd.R_ne HO_5.out BK357.out (by decide) | (intro e_; have k_ := HO_5.out.1 _ e_.symm; first | exact k_.2 rfl | exact k_.1 rfl | exact k_.1.2 rfl | exact k_.2.2 rfl | exact k_.1.1 rfl)); have hn358_1 := hn358_0; have hn358_2 := hn358_0; have hn358_3 := hn358_0; have hn358_4 := hn358_0; have hn358_5 := hn358_0; have hn358_6 := hn358_0; have hn358_7 := hn358_0; have hn358_8 := hn358_0; have hn358_9 := hn358_0; replace hx358_0 := (cF (p := ⟨b357, 0, none⟩) (by first | exact nA hn358_0 | exact hn358_0) (.int .u32 ((rd_T44 t352 x9_2).f0))).trans hx358_0; replace hx358_1 := (cF (p := ⟨b357, 0, none⟩) (by first | exact nA hn358_0 | exact hn358_0) (.int .u32 ((rd_T44 t352 x9_2).f0))).trans hx358_1; replace hx358_2 := (cF (p := ⟨b357, 0, none⟩) (by first | exact nA hn358_0 | exact hn358_0) (.int .u32 ((rd_T44 t352 x9_2).f0))).trans hx358_2; replace hx358_3 := (cF (p := ⟨b357, 0, none⟩) (by first | exact nA hn358_0 | exact hn358_0) (.int .u32 ((rd_T44 t352 x9_2).f0))).trans hx358_3; replace hx358_4 := (cF (p := ⟨b357, 0, none⟩) (by first | exact nA hn358_0 | exact hn358_0) (.int .u32 ((rd_T44 t352 x9_2).f0))).trans hx358_4; replace hx358_5 := (cF (p := ⟨b357, 0, none⟩) (by first | exact nA hn358_0 | exact hn358_0) (.int .u32 ((rd_T44 t352 x9_2).f0))).trans hx358_5; replace hx358_6 := (cF (p := ⟨b357, 0, none⟩) (by first | exact nA hn358_0 | exact hn358_0) (.int .u32 ((rd_T44 t352 x9_2).f0))).trans hx358_6; replace hx358_7 := (cF (p := ⟨b357, 0, none⟩) (by first | exact nA hn358_0 | exact hn358_0) (.int .u32 ((rd_T44 t352 x9_2).f0))).trans hx358_7; replace hx358_8 := (cF (p := ⟨b357, 0, none⟩) (by first | exact nA hn358_0 | exact hn358_0) (.int .u32 ((rd_T44 t352 x9_2).f0))).trans hx358_8; replace hx358_9 := (cF (p := ⟨b357, 0, none⟩) (by first | exact nA hn358_0 | exact hn358_0) (.int .u32 ((rd_T44 t352 x9_2).f0))).trans hx358_9; replace hx358_0 := (cF (p := ⟨b357, 1, none⟩) (by first | exact nA hn358_1 | exact hn358_1) (.int .i32 ((rd_T44 t352 x9_2).f1))).trans hx358_0; replace hx358_1 := (cF (p := ⟨b357, 1, none⟩) (by first | exact nA hn358_1 | exact hn358_1) (.int .i32 ((rd_T44 t352 x9_2).f1))).trans hx358_1; replace hx358_2 := (cF (p := ⟨b357, 1, none⟩) (by first | exact nA hn358_1 | exact hn358_1) (.int .i32 ((rd_T44 t352 x9_2).f1))).trans hx358_2; replace hx358_3 := (cF (p := ⟨b357, 1, none⟩) (by first | exact nA hn358_1 | exact hn358_1) (.int .i32 ((rd_T44 t352 x9_2).f1))).trans hx358_3; replace hx358_4 := (cF (p := ⟨b357, 1, none⟩) (by first | exact nA hn358_1 | exact hn358_1) (.int .i32 ((rd_T44 t352 x9_2).f1))).trans hx358_4; replace hx358_5 := (cF (p := ⟨b357, 1, none⟩) (by first | exact nA hn358_1 | exact hn358_1) (.int .i32 ((rd_T44 t352 x9_2).f1))).trans hx358_5; replace hx358_6 := (cF (p := ⟨b357, 1, none⟩) (by first | exact nA hn358_1 | exact hn358_1) (.int .i32 ((rd_T44 t352 x9_2).f1))).trans hx358_6; replace hx358_7 := (cF (p := ⟨b357, 1, none⟩) (by first | exact nA hn358_1 | exact hn358_1) (.int .i32 ((rd_T44 t352 x9_2).f1))).trans hx358_7; replace hx358_8 := (cF (p := ⟨b357, 1, none⟩) (by first | exact nA hn358_1 | exact hn358_1) (.int .i32 ((rd_T44 t352 x9_2).f1))).trans hx358_8; replace hx358_9 := (cF (p := ⟨b357, 1, none⟩) (by first | exact nA hn358_1 | exact hn358_1) (.int .i32 ((rd_T44 t352 x9_2).f1))).trans hx358_9; replace hx358_0 := (cF (p := ⟨b357, 2, none⟩) (by first | exact nA hn358_2 | exact hn358_2) (.int .i32 ((rd_T44 t352 x9_2).f2.f0))).trans hx358_0; replace hx358_1 := (cF (p := ⟨b357, 2, none⟩) (by first | exact nA hn358_2 | exact hn358_2) (.int .i32 ((rd_T44 t352 x9_2).f2.f0))).trans hx358_1; replace hx358_2 := (cF (p := ⟨b357, 2, none⟩) (by first | exact nA hn358_2 | exact hn358_2) (.int .i32 ((rd_T44 t352 x9_2).f2.f0))).trans hx358_2; replace hx358_3 := (cF (p := ⟨b357, 2, none⟩) (by first | exact nA hn358_2 | exact hn358_2) (.int .i32 ((rd_T44 t352 x9_2).f2.f0))).trans hx358_3; replace hx358_4 := (cF (p := ⟨b357, 2, none⟩) (by first | exact nA hn358_2 | exact hn358_2) (.int .i32 ((rd_T44 t352 x9_2).f2.f0))).trans hx358_4; replace hx358_5 := (cF (p := ⟨b357, 2, none⟩) (by first | exact nA hn358_2 | exact hn358_2) (.int .i32 ((rd_T44 t352 x9_2).f2.f0))).trans hx358_5; replace hx358_6 := (cF (p := ⟨b357, 2, none⟩) (by first | exact nA hn358_2 | exact hn358_2) (.int .i32 ((rd_T44 t352 x9_2).f2.f0))).trans hx358_6; replace hx358_7 := (cF (p := ⟨b357, 2, none⟩) (by first | exact nA hn358_2 | exact hn358_2) (.int .i32 ((rd_T44 t352 x9_2).f2.f0))).trans hx358_7; replace hx358_8 := (cF (p := ⟨b357, 2, none⟩) (by first | exact nA hn358_2 | exact hn358_2) (.int .i32 ((rd_T44 t352 x9_2).f2.f0))).trans hx358_8; replace hx358_9 := (cF (p := ⟨b357, 2, none⟩) (by first | exact nA hn358_2 | exact hn358_2) (.int .i32 ((rd_T44 t352 x9_2).f2.f0))).trans hx358_9; replace hx358_0 := (cF (p := ⟨b357, 3, none⟩) (by first | exact nA hn358_3 | exact hn358_3) (.int .i32 ((rd_T44 t352 x9_2).f2.f1))).trans hx358_0; replace hx358_1 := (cF (p := ⟨b357, 3, none⟩) (by first | exact nA hn358_3 | exact hn358_3) (.int .i32 ((rd_T44 t352 x9_2).f2.f1))).trans hx358_1; replace hx358_2 := (cF (p := ⟨b357, 3, none⟩) (by first | exact nA hn358_3 | exact hn358_3) (.int .i32 ((rd_T44 t352 x9_2).f2.f1))).trans hx358_2; replace hx358_3 := (cF (p := ⟨b357, 3, none⟩) (by first | exact nA hn358_3 | exact hn358_3) (.int .i32 ((rd_T44 t352 x9_2).f2.f1))).trans hx358_3; replace hx358_4 := (cF (p := ⟨b357, 3, none⟩) (by first | exact nA hn358_3 | exact hn358_3) (.int .i32 ((rd_T44 t352 x9_2).f2.f1))).trans hx358_4; replace hx358_5 := (cF (p := ⟨b357, 3, none⟩) (by first | exact nA hn358_3 | exact hn358_3) (.int .i32 ((rd_T44 t352 x9_2).f2.f1))).trans hx358_5; replace hx358_6 := (cF (p := ⟨b357, 3, none⟩) (by first | exact nA hn358_3 | exact hn358_3) (.int .i32 ((rd_T44 t352 x9_2).f2.f1))).trans hx358_6; replace hx358_7 := (cF (p := ⟨b357, 3, none⟩) (by first | exact nA hn358_3 | exact hn358_3) (.int .i32 ((rd_T44 t352 x9_2).f2.f1))).trans hx358_7; replace hx358_8 := (cF (p := ⟨b357, 3, none⟩) (by first | exact nA hn358_3 | exact hn358_3) (.int .i32 ((rd_T44 t352 x9_2).f2.f1))).trans hx358_8; replace hx358_9 := (cF (p := ⟨b357, 3, none⟩) (by first | exact nA hn358_3 | exact hn358_3) (.int .i32 ((rd_T44 t352 x9_2).f2.f1))).trans hx358_9; replace hx358_0 := (cF (p := ⟨b357, 4, none⟩) (by first | exact nA hn358_4 | exact hn358_4) (.int .i32 ((rd_T44 t352 x9_2).f3))).trans hx358_0; replace hx358_1 := (cF (p := ⟨b357, 4, none⟩) (by first | exact nA hn358_4 | exact hn358_4) (.int .i32 ((rd_T44 t352 x9_2).f3))).trans hx358_1; replace hx358_2 := (cF (p := ⟨b357, 4, none⟩) (by first | exact nA hn358_4 | exact hn358_4) (.int .i32 ((rd_T44 t352 x9_2).f3))).trans hx358_2; replace hx358_3 := (cF (p := ⟨b357, 4, none⟩) (by first | exact nA hn358_4 | exact hn358_4) (.int .i32 ((rd_T44 t352 x9_2).f3))).trans hx358_3; replace hx358_4 := (cF (p := ⟨b357, 4, none⟩) (by first | exact nA hn358_4 | exact hn358_4) (.int .i32 ((rd_T44 t352 x9_2).f3))).trans hx358_4; replace hx358_5 := (cF (p := ⟨b357, 4, none⟩) (by first | exact nA hn358_4 | exact hn358_4) (.int .i32 ((rd_T44 t352 x9_2).f3))).trans hx358_5; replace hx358_6 := (cF (p := ⟨b357, 4, none⟩) (by first | exact nA hn358_4 | exact hn358_4) (.int .i32 ((rd_T44 t352 x9_2).f3))).trans hx358_6; replace hx358_7 := (cF (p := ⟨b357, 4, none⟩) (by first | exact nA hn358_4 | exact hn358_4) (.int .i32 ((rd_T44 t352 x9_2).f3))).trans hx358_7; replace hx358_8 := (cF (p := ⟨b357, 4, none⟩) (by first | exact nA hn358_4 | exact hn358_4) (.int .i32 ((rd_T44 t352 x9_2).f3))).trans hx358_8; replace hx358_9 := (cF (p := ⟨b357, 4, none⟩) (by first | exact nA hn358_4 | exact hn358_4) (.int .i32 ((rd_T44 t352 x9_2).f3))).trans hx358_9; replace hx358_0 := (cF (p := ⟨b357, 5, none⟩) (by first | exact nA hn358_5 | exact hn358_5) (.int .i32 ((rd_T44 t352 x9_2).f4))).trans hx358_0; replace hx358_1 := (cF (p := ⟨b357, 5, none⟩) (by first | exact nA hn358_5 | exact hn358_5) (.int .i32 ((rd_T44 t352 x9_2).f4))).trans hx358_1; replace hx358_2 := (cF (p := ⟨b357, 5, none⟩) (by first | exact nA hn358_5 | exact hn358_5) (.int .i32 ((rd_T44 t352 x9_2).f4))).trans hx358_2; replace hx358_3 := (cF (p := ⟨b357, 5, none⟩) (by first | exact nA hn358_5 | exact hn358_5) (.int .i32 ((rd_T44 t352 x9_2).f4))).trans hx358_3; replace hx358_4 := (cF (p := ⟨b357, 5, none⟩) (by first | exact nA hn358_5 | exact hn358_5) (.int .i32 ((rd_T44 t352 x9_2).f4))).trans hx358_4; replace hx358_5 := (cF (p := ⟨b357, 5, none⟩) (by first | exact nA hn358_5 | exact hn358_5) (.int .i32 ((rd_T44 t352 x9_2).f4))).trans hx358_5; replace hx358_6 := (cF (p := ⟨b357, 5, none⟩) (by first | exact nA hn358_5 | exact hn358_5) (.int .i32 ((rd_T44 t352 x9_2).f4))).trans hx358_6; replace hx358_7 := (cF (p := ⟨b357, 5, none⟩) (by first | exact nA hn358_5 | exact hn358_5) (.int .i32 ((rd_T44 t352 x9_2).f4))).trans hx358_7; replace hx358_8 := (cF (p := ⟨b357, 5, none⟩) (by first | exact nA hn358_5 | exact hn358_5) (.int .i32 ((rd_T44 t352 x9_2).f4))).trans hx358_8; replace hx358_9 := (cF (p := ⟨b357, 5, none⟩) (by first | exact nA hn358_5 | exact hn358_5) (.int .i32 ((rd_T44 t352 x9_2).f4))).trans hx358_9; replace hx358_0 := (cF (p := ⟨b357, 6, none⟩) (by first | exact nA hn358_6 | exact hn358_6) (.int .i32 ((rd_T44 t352 x9_2).f5.f0))).trans hx358_0; replace hx358_1 := (cF (p := ⟨b357, 6, none⟩) (by first | exact nA hn358_6 | exact hn358_6) (.int .i32 ((rd_T44 t352 x9_2).f5.f0))).trans hx358_1; replace hx358_2 := (cF (p := ⟨b357, 6, none⟩) (by first | exact nA hn358_6 | exact hn358_6) (.int .i32 ((rd_T44 t352 x9_2).f5.f0))).trans hx358_2; replace hx358_3 := (cF (p := ⟨b357, 6, none⟩) (by first | exact nA hn358_6 | exact hn358_6) (.int .i32 ((rd_T44 t352 x9_2).f5.f0))).trans hx358_3; replace hx358_4 := (cF (p := ⟨b357, 6, none⟩) (by first | exact nA hn358_6 | exact hn358_6) (.int .i32 ((rd_T44 t352 x9_2).f5.f0))).trans hx358_4; replace hx358_5 := (cF (p := ⟨b357, 6, none⟩) (by first | exact nA hn358_6 | exact hn358_6) (.int .i32 ((rd_T44 t352 x9_2).f5.f0))).trans hx358_5; replace hx358_6 := (cF (p := ⟨b357, 6, none⟩) (by first | exact nA hn358_6 | exact hn358_6) (.int .i32 ((rd_T44 t352 x9_2).f5.f0))).trans hx358_6; replace hx358_7 := (cF (p := ⟨b357, 6, none⟩) (by first | exact nA hn358_6 | exact hn358_6) (.int .i32 ((rd_T44 t352 x9_2).f5.f0))).trans hx358_7; replace hx358_8 := (cF (p := ⟨b357, 6, none⟩) (by first | exact nA hn358_6 | exact hn358_6) (.int .i32 ((rd_T44 t352 x9_2).f5.f0))).trans hx358_8; replace hx358_9 := (cF (p := ⟨b357, 6, none⟩) (by first | exact nA hn358_6 | exact hn358_6) (.int .i32 ((rd_T44 t352 x9_2).f5.f0))).trans hx358_9; replace hx358_0 := (cF (p := ⟨b357, 7, none⟩) (by first | exact nA hn358_7 | exact hn358_7) (.int .i32 ((rd_T44 t352 x9_2).f5.f1))).trans hx358_0; replace hx358_1 := (cF (p := ⟨b357, 7, none⟩) (by first | exact nA hn358_7 | exact hn358_7) (.int .i32 ((rd_T44 t352 x9_2).f5.f1))).trans hx358_1; replace hx358_2 := (cF (p := ⟨b357, 7, none⟩) (by first | exact nA hn358_7 | exact hn358_7) (.int .i32 ((rd_T44 t352 x9_2).f5.f1))).trans hx358_2; replace hx358_3 := (cF (p := ⟨b357, 7, none⟩) (by first | exact nA hn358_7 | exact hn358_7) (.int .i32 ((rd_T44 t352 x9_2).f5.f1))).trans hx358_3; replace hx358_4 := (cF (p := ⟨b357, 7, none⟩) (by first | exact nA hn358_7 | exact hn358_7) (.int .i32 ((rd_T44 t352 x9_2).f5.f1))).trans hx358_4; replace hx358_5 := (cF (p := ⟨b357, 7, none⟩) (by first | exact nA hn358_7 | exact hn358_7) (.int .i32 ((rd_T44 t352 x9_2).f5.f1))).trans hx358_5; replace hx358_6 := (cF (p := ⟨b357, 7, none⟩) (by first | exact nA hn358_7 | exact hn358_7) (.int .i32 ((rd_T44 t352 x9_2).f5.f1))).trans hx358_6; replace hx358_7 := (cF (p := ⟨b357, 7, none⟩) (by first | exact nA hn358_7 | exact hn358_7) (.int .i32 ((rd_T44 t352 x9_2).f5.f1))).trans hx358_7; replace hx358_8 := (cF (p := ⟨b357, 7, none⟩) (by first | exact nA hn358_7 | exact hn358_7) (.int .i32 ((rd_T44 t352 x9_2).f5.f1))).trans hx358_8; replace hx358_9 := (cF (p := ⟨b357, 7, none⟩) (by first | exact nA hn358_7 | exact hn358_7) (.int .i32 ((rd_T44 t352 x9_2).f5.f1))).trans hx358_9; replace hx358_0 := (cF (p := ⟨b357, 8, none⟩) (by first | exact nA hn358_8 | exact hn358_8) (.int .i32 ((rd_T44 t352 x9_2).f6.f0))).trans hx358_0; replace hx358_1 := (cF (p := ⟨b357, 8, none⟩) (by first | exact nA hn358_8 | exact hn358_8) (.int .i32 ((rd_T44 t352 x9_2).f6.f0))).trans hx358_1; replace hx358_2 := (cF (p := ⟨b357, 8, none⟩) (by first | exact nA hn358_8 | exact hn358_8) (.int .i32 ((rd_T44 t352 x9_2).f6.f0))).trans hx358_2; replace hx358_3 := (cF (p := ⟨b357, 8, none⟩) (by first | exact nA hn358_8 | exact hn358_8) (.int .i32 ((rd_T44 t352 x9_2).f6.f0))).trans hx358_3; replace hx358_4 := (cF (p := ⟨b357, 8, none⟩) (by first | exact nA hn358_8 | exact hn358_8) (.int .i32 ((rd_T44 t352 x9_2).f6.f0))).trans hx358_4; replace hx358_5 := (cF (p := ⟨b357, 8, none⟩) (by first | exact nA hn358_8 | exact hn358_8) (.int .i32 ((rd_T44 t352 x9_2).f6.f0))).trans hx358_5; replace hx358_6 := (cF (p := ⟨b357, 8, none⟩) (by first | exact nA hn358_8 | exact hn358_8) (.int .i32 ((rd_T44 t352 x9_2).f6.f0))).trans hx358_6; replace hx358_7 := (cF (p := ⟨b357, 8, none⟩) (by first | exact nA hn358_8 | exact hn358_8) (.int .i32 ((rd_T44 t352 x9_2).f6.f0))).trans hx358_7; replace hx358_8 := (cF (p := ⟨b357, 8, none⟩) (by first | exact nA hn358_8 | exact hn358_8) (.int .i32 ((rd_T44 t352 x9_2).f6.f0))).trans hx358_8; replace hx358_9 := (cF (p := ⟨b357, 8, none⟩) (by first | exact nA hn358_8 | exact hn358_8) (.int .i32 ((rd_T44 t352 x9_2).f6.f0))).trans hx358_9; replace hx358_0 := (cF (p := ⟨b357, 9, none⟩) (by first | exact nA hn358_9 | exact hn358_9) (.int .i32 ((rd_T44 t352 x9_2).f6.f1))).trans hx358_0; replace hx358_1 := (cF (p := ⟨b357, 9, none⟩) (by first | exact nA hn358_9 | exact hn358_9) (.int .i32 ((rd_T44 t352 x9_2).f6.f1))).trans hx358_1; replace hx358_2 := (cF (p := ⟨b357, 9, none⟩) (by first | exact nA hn358_9 | exact hn358_9) (.int .i32 ((rd_T44 t352 x9_2).f6.f1))).trans hx358_2; replace hx358_3 := (cF (p := ⟨b357, 9, none⟩) (by first | exact nA hn358_9 | exact hn358_9) (.int .i32 ((rd_T44 t352 x9_2).f6.f1))).trans hx358_3; replace hx358_4 := (cF (p := ⟨b357, 9, none⟩) (by first | exact nA hn358_9 | exact hn358_9) (.int .i32 ((rd_T44 t352 x9_2).f6.f1))).trans hx358_4; replace hx358_5 := (cF (p := ⟨b357, 9, none⟩) (by first | exact nA hn358_9 | exact hn358_9) (.int .i32 ((rd_T44 t352 x9_2).f6.f1))).trans hx358_5; replace hx358_6 := (cF (p := ⟨b357, 9, none⟩) (by first | exact nA hn358_9 | exact hn358_9) (.int .i32 ((rd_T44 t352 x9_2).f6.f1))).trans hx358_6; replace hx358_7 := (cF (p := ⟨b357, 9, none⟩) (by first | exact nA hn358_9 | exact hn358_9) (.int .i32 ((rd_T44 t352 x9_2).f6.f1))).trans hx358_7; replace hx358_8 := (cF (p := ⟨b357, 9, none⟩) (by first | exact nA hn358_9 | exact hn358_9) (.int .i32 ((rd_T44 t352 x9_2).f6.f1))).trans hx358_8; replace hx358_9 := (cF (p := ⟨b357, 9, none⟩) (by first | exact nA hn358_9 | exact hn358_9) (.int .i32 ((rd_T44 t352 x9_2).f6.f1))).trans hx358_9; (try have hy358_0 := fun (n_ : Nat) => (show ((((((((((((w25.drewN n_).setCell ⟨b357, 0, none⟩ (.int .u32 ((rd_T44 t352 x9_2).f0))).setCell ⟨b357, 1, none⟩ (.int .i32 ((rd_T44 t352 x9_2).f1))).setCell ⟨b357, 2, none⟩ (.int .i32 ((rd_T44 t352 x9_2).f2.f0))).setCell ⟨b357, 3, none⟩ (.int .i32 ((rd_T44 t352 x9_2).f2.f1))).setCell ⟨b357, 4, none⟩ (.int .i32 ((rd_T44 t352 x9_2).f3))).setCell ⟨b357, 5, none⟩ (.int .i32 ((rd_T44 t352 x9_2).f4))).setCell ⟨b357, 6, none⟩ (.int .i32 ((rd_T44 t352 x9_2).f5.f0))).setCell ⟨b357, 7, none⟩ (.int .i32 ((rd_T44 t352 x9_2).f5.f1))).setCell ⟨b357, 8, none⟩ (.int .i32 ((rd_T44 t352 x9_2).f6.f0))).setCell ⟨b357, 9, none⟩ (.int .i32 ((rd_T44 t352 x9_2).f6.f1)))).cell? _ = some _ from (cellH (by (repeat with_reducible apply setH); exact rfl)).trans hx358_0)); (try have hy358_1 := fun (n_ : Nat) => (show ((((((((((((w25.drewN n_).setCell ⟨b357, 0, none⟩ (.int .u32 ((rd_T44 t352 x9_2).f0))).setCell ⟨b357, 1, none⟩ (.int .i32 ((rd_T44 t352 x9_2).f1))).setCell ⟨b357, 2, none⟩ (.int .i32 ((rd_T44 t352 x9_2).f2.f0))).setCell ⟨b357, 3, none⟩ (.int .i32 ((rd_T44 t352 x9_2).f2.f1))).setCell ⟨b357, 4, none⟩ (.int .i32 ((rd_T44 t352 x9_2).f3))).setCell ⟨b357, 5, none⟩ (.int .i32 ((rd_T44 t352 x9_2).f4))).setCell ⟨b357, 6, none⟩ (.int .i32 ((rd_T44 t352 x9_2).f5.f0))).setCell ⟨b357, 7, none⟩ (.int .i32 ((rd_T44 t352 x9_2).f5.f1))).setCell ⟨b357, 8, none⟩ (.int .i32 ((rd_T44 t352 x9_2).f6.f0))).setCell ⟨b357, 9, none⟩ (.int .i32 ((rd_T44 t352 x9_2).f6.f1)))).cell? _ = some _ from (cellH (by (repeat with_reducible apply setH); exact rfl)).trans hx358_1)); (try have hy358_2 := fun (n_ : Nat) => (show ((((((((((((w25.drewN n_).setCell ⟨b357, 0, none⟩ (.int .u32 ((rd_T44 t352 x9_2).f0))).setCell ⟨b357, 1, none⟩ (.int .i32 ((rd_T44 t352 x9_2).f1))).setCell ⟨b357, 2, none⟩ (.int .i32 ((rd_T44 t352 x9_2).f2.f0))).setCell ⟨b357, 3, none⟩ (.int .i32 ((rd_T44 t352 x9_2).f2.f1))).setCell ⟨b357, 4, none⟩ (.int .i32 ((rd_T44 t352 x9_2).f3))).setCell ⟨b357, 5, none⟩ (.int .i32 ((rd_T44 t352 x9_2).f4))).setCell ⟨b357, 6, none⟩ (.int .i32 ((rd_T44 t352 x9_2).f5.f0))).setCell ⟨b357, 7, none⟩ (.int .i32 ((rd_T44 t352 x9_2).f5.f1))).setCell ⟨b357, 8, none⟩ (.int .i32 ((rd_T44 t352 x9_2).f6.f0))).setCell ⟨b357, 9, none⟩ (.int .i32 ((rd_T44 t352 x9_2).f6.f1)))).cell? _ = some _ from (cellH (by (repeat with_reducible apply setH); exact rfl)).trans hx358_2)); (try have hy358_3 := fun (n_ : Nat) => (show ((((((((((((w25.drewN n_).setCell ⟨b357, 0, none⟩ (.int .u32 ((rd_T44 t352 x9_2).f0))).setCell ⟨b357, 1, none⟩ (.int .i32 ((rd_T44 t352 x9_2).f1))).setCell ⟨b357, 2, none⟩ (.int .i32 ((rd_T44 t352 x9_2).f2.f0))).setCell ⟨b357, 3, none⟩ (.int .i32 ((rd_T44 t352 x9_2).f2.f1))).setCell ⟨b357, 4, none⟩ (.int .i32 ((rd_T44 t352 x9_2).f3))).setCell ⟨b357, 5, none⟩ (.int .i32 ((rd_T44 t352 x9_2).f4))).setCell ⟨b357, 6, none⟩ (.int .i32 ((rd_T44 t352 x9_2).f5.f0))).setCell ⟨b357, 7, none⟩ (.int .i32 ((rd_T44 t352 x9_2).f5.f1))).setCell ⟨b357, 8, none⟩ (.int .i32 ((rd_T44 t352 x9_2).f6.f0))).setCell ⟨b357, 9, none⟩ (.int .i32 ((rd_T44 t352 x9_2).f6.f1)))).cell? _ = some _ from (cellH (by (repeat with_reducible apply setH); exact rfl)).trans hx358_3)); (try have hy358_4 := fun (n_ : Nat) => (show ((((((((((((w25.drewN n_).setCell ⟨b357, 0, none⟩ (.int .u32 ((rd_T44 t352 x9_2).f0))).setCell ⟨b357, 1, none⟩ (.int .i32 ((rd_T44 t352 x9_2).f1))).setCell ⟨b357, 2, none⟩ (.int .i32 ((rd_T44 t352 x9_2).f2.f0))).setCell ⟨b357, 3, none⟩ (.int .i32 ((rd_T44 t352 x9_2).f2.f1))).setCell ⟨b357, 4, none⟩ (.int .i32 ((rd_T44 t352 x9_2).f3))).setCell ⟨b357, 5, none⟩ (.int .i32 ((rd_T44 t352 x9_2).f4))).setCell ⟨b357, 6, none⟩ (.int .i32 ((rd_T44 t352 x9_2).f5.f0))).setCell ⟨b357, 7, none⟩ (.int .i32 ((rd_T44 t352 x9_2).f5.f1))).setCell ⟨b357, 8, none⟩ (.int .i32 ((rd_T44 t352 x9_2).f6.f0))).setCell ⟨b357, 9, none⟩ (.int .i32 ((rd_T44 t352 x9_2).f6.f1)))).cell? _ = some _ from (cellH (by (repeat with_reducible apply setH); exact rfl)).trans hx358_4)); (try have hy358_5 := fun (n_ : Nat) => (show ((((((((((((w25.drewN n_).setCell ⟨b357, 0, none⟩ (.int .u32 ((rd_T44 t352 x9_2).f0))).setCell ⟨b357, 1, none⟩ (.int .i32 ((rd_T44 t352 x9_2).f1))).setCell ⟨b357, 2, none⟩ (.int .i32 ((rd_T44 t352 x9_2).f2.f0))).setCell ⟨b357, 3, none⟩ (.int .i32 ((rd_T44 t352 x9_2).f2.f1))).setCell ⟨b357, 4, none⟩ (.int .i32 ((rd_T44 t352 x9_2).f3))).setCell ⟨b357, 5, none⟩ (.int .i32 ((rd_T44 t352 x9_2).f4))).setCell ⟨b357, 6, none⟩ (.int .i32 ((rd_T44 t352 x9_2).f5.f0))).setCell ⟨b357, 7, none⟩ (.int .i32 ((rd_T44 t352 x9_2).f5.f1))).setCell ⟨b357, 8, none⟩ (.int .i32 ((rd_T44 t352 x9_2).f6.f0))).setCell ⟨b357, 9, none⟩ (.int .i32 ((rd_T44 t352 x9_2).f6.f1)))).cell? _ = some _ from (cellH (by (repeat with_reducible apply setH); exact rfl)).trans hx358_5)); (try have hy358_6 := fun (n_ : Nat) => (show ((((((((((((w25.drewN n_).setCell ⟨b357, 0, none⟩ (.int .u32 ((rd_T44 t352 x9_2).f0))).setCell ⟨b357, 1, none⟩ (.int .i32 ((rd_T44 t352 x9_2).f1))).setCell ⟨b357, 2, none⟩ (.int .i32 ((rd_T44 t352 x9_2).f2.f0))).setCell ⟨b357, 3, none⟩ (.int .i32 ((rd_T44 t352 x9_2).f2.f1))).setCell ⟨b357, 4, none⟩ (.int .i32 ((rd_T44 t352 x9_2).f3))).setCell ⟨b357, 5, none⟩ (.int .i32 ((rd_T44 t352 x9_2).f4))).setCell ⟨b357, 6, none⟩ (.int .i32 ((rd_T44 t352 x9_2).f5.f0))).setCell ⟨b357, 7, none⟩ (.int .i32 ((rd_T44 t352 x9_2).f5.f1))).setCell ⟨b357, 8, none⟩ (.int .i32 ((rd_T44 t352 x9_2).f6.f0))).setCell ⟨b357, 9, none⟩ (.int .i32 ((rd_T44 t352 x9_2).f6.f1)))).cell? _ = some _ from (cellH (by (repeat with_reducible apply setH); exact rfl)).trans hx358_6)); (try have hy358_7 := fun (n_ : Nat) => (show ((((((((((((w25.drewN n_).setCell ⟨b357, 0, none⟩ (.int .u32 ((rd_T44 t352 x9_2).f0))).setCell ⟨b357, 1, none⟩ (.int .i32 ((rd_T44 t352 x9_2).f1))).setCell ⟨b357, 2, none⟩ (.int .i32 ((rd_T44 t352 x9_2).f2.f0))).setCell ⟨b357, 3, none⟩ (.int .i32 ((rd_T44 t352 x9_2).f2.f1))).setCell ⟨b357, 4, none⟩ (.int .i32 ((rd_T44 t352 x9_2).f3))).setCell ⟨b357, 5, none⟩ (.int .i32 ((rd_T44 t352 x9_2).f4))).setCell ⟨b357, 6, none⟩ (.int .i32 ((rd_T44 t352 x9_2).f5.f0))).setCell ⟨b357, 7, none⟩ (.int .i32 ((rd_T44 t352 x9_2).f5.f1))).setCell ⟨b357, 8, none⟩ (.int .i32 ((rd_T44 t352 x9_2).f6.f0))).setCell ⟨b357, 9, none⟩ (.int .i32 ((rd_T44 t352 x9_2).f6.f1)))).cell? _ = some _ from (cellH (by (repeat with_reducible apply setH); exact rfl)).trans hx358_7)); (try have hy358_8 := fun (n_ : Nat) => (show ((((((((((((w25.drewN n_).setCell ⟨b357, 0, none⟩ (.int .u32 ((rd_T44 t352 x9_2).f0))).setCell ⟨b357, 1, none⟩ (.int .i32 ((rd_T44 t352 x9_2).f1))).setCell ⟨b357, 2, none⟩ (.int .i32 ((rd_T44 t352 x9_2).f2.f0))).setCell ⟨b357, 3, none⟩ (.int .i32 ((rd_T44 t352 x9_2).f2.f1))).setCell ⟨b357, 4, none⟩ (.int .i32 ((rd_T44 t352 x9_2).f3))).setCell ⟨b357, 5, none⟩ (.int .i32 ((rd_T44 t352 x9_2).f4))).setCell ⟨b357, 6, none⟩ (.int .i32 ((rd_T44 t352 x9_2).f5.f0))).setCell ⟨b357, 7, none⟩ (.int .i32 ((rd_T44 t352 x9_2).f5.f1))).setCell ⟨b357, 8, none⟩ (.int .i32 ((rd_T44 t352 x9_2).f6.f0))).setCell ⟨b357, 9, none⟩ (.int .i32 ((rd_T44 t352 x9_2).f6.f1)))).cell? _ = some _ from (cellH (by (repeat with_reducible apply setH); exact rfl)).trans hx358_8)); (try have hy358_9 := fun (n_ : Nat) => (show ((((((((((((w25.drewN n_).setCell ⟨b357, 0, none⟩ (.int .u32 ((rd_T44 t352 x9_2).f0))).setCell ⟨b357, 1, none⟩ (.int .i32 ((rd_T44 t352 x9_2).f1))).setCell ⟨b357, 2, none⟩ (.int .i32 ((rd_T44 t352 x9_2).f2.f0))).setCell ⟨b357, 3, none⟩ (.int .i32 ((rd_T44 t352 x9_2).f2.f1))).setCell ⟨b357, 4, none⟩ (.int .i32 ((rd_T44 t352 x9_2).f3))).setCell ⟨b357, 5, none⟩ (.int .i32 ((rd_T44 t352 x9_2).f4))).setCell ⟨b357, 6, none⟩ (.int .i32 ((rd_T44 t352 x9_2).f5.f0))).setCell ⟨b357, 7, none⟩ (.int .i32 ((rd_T44 t352 x9_2).f5.f1))).setCell ⟨b357, 8, none⟩ (.int .i32 ((rd_T44 t352 x9_2).f6.f0))).setCell ⟨b357, 9, none⟩ (.int .i32 ((rd_T44 t352 x9_2).f6.f1)))).cell? _ = some _ from (cellH (by (repeat with_reducible apply setH); exact rfl)).trans hx358_9)); clear hn358_0; clear hn358_1; clear hn358_2; clear hn358_3; clear hn358_4; clear hn358_5; clear hn358_6; clear hn358_7; clear hn358_8; clear hn358_9; replace p358 := eq_true p358; replace q358 := eq_true q358))
          go_loopg [11, 12] k2 (fun kq v11 v12 w' => ∃ (x11_3 : Bool) (x12_3 : Int), v11 = .bool x11_3 ∧ v12 = .int .i64 x12_3 ∧ Aside0 (billiardlaw17_JacobiVelocities.l1 kq l1 t345 t352 x9_2 x11_3 x12_3 ((rd_T44 t352 x9_2).f0) ((rd_T44 t352 x9_2).f1) ((rd_T44 t352 x9_2).f2.f0) ((rd_T44 t352 x9_2).f2.f1) ((rd_T44 t352 x9_2).f3) ((rd_T44 t352 x9_2).f4) ((rd_T44 t352 x9_2).f5.f0) ((rd_T44 t352 x9_2).f5.f1) ((rd_T44 t345 x9_2).f6.f0) ((rd_T44 t345 x9_2).f6.f1) = some r) ∧ Aside0 (kq ≤ k2) ∧ Aside0 (Kd.R k44 44 w' w.heap.size (fun k_ => k_ ≠ b357) (.slice (some ad358) t345.length co19) t345) ∧ Aside0 (Kd.V k44 44 w' w.heap.size (fun k_ => k_ ≠ b357) (.slice (some ad356) t352.length co21) t352) ∧ Aside0 (w'.heap[b357]? = some (.cells #[.int .u32 ((rd_T44 t352 x9_2).f0), .int .i32 ((rd_T44 t352 x9_2).f1), .int .i32 ((rd_T44 t352 x9_2).f2.f0), .int .i32 ((rd_T44 t352 x9_2).f2.f1), .int .i32 ((rd_T44 t352 x9_2).f3), .int .i32 ((rd_T44 t352 x9_2).f4), .int .i32 ((rd_T44 t352 x9_2).f5.f0), .int .i32 ((rd_T44 t352 x9_2).f5.f1), .int .i32 ((rd_T44 t345 x9_2).f6.f0), .int .i32 ((rd_T44 t345 x9_2).f6.f1)] 44 (0, 0))) ∧ Aside0 (Below w.heap.size w w'))
          case atStart => exact ⟨(false), (0), (by first | rfl | (simp; done) | (simp [*]; done)), (by first | rfl | (simp; done) | (simp [*]; done)), H', ⟨Nat.le_refl _⟩, ⟨by (with_reducible repeat (first | apply Kd.R_alloc | apply Kd.R_drewN | apply Kd.R_drew)); exact Kd.R_mono (Kd.R_far (p := ⟨b357, 9, none⟩) (Kd.R_far (p := ⟨b357, 8, none⟩) (Kd.R_far (p := ⟨b357, 9, none⟩) (Kd.R_far (p := ⟨b357, 8, none⟩) (Kd.R_far (p := ⟨b357, 7, none⟩) (Kd.R_far (p := ⟨b357, 6, none⟩) (Kd.R_far (p := ⟨b357, 5, none⟩) (Kd.R_far (p := ⟨b357, 4, none⟩) (Kd.R_far (p := ⟨b357, 3, none⟩) (Kd.R_far (p := ⟨b357, 2, none⟩) (Kd.R_far (p := ⟨b357, 1, none⟩) (Kd.R_far (p := ⟨b357, 0, none⟩) (Kd.R_mono HO_5.out (fun k_ hk => (⟨hk, hk.2⟩ : _ ∧ k_ ≠ b357))) (fun _ hk => hk.2) (.int .u32 ((rd_T44 t352 x9_2).f0))) (fun _ hk => hk.2) (.int .i32 ((rd_T44 t352 x9_2).f1))) (fun _ hk => hk.2) (.int .i32 ((rd_T44 t352 x9_2).f2.f0))) (fun _ hk => hk.2) (.int .i32 ((rd_T44 t352 x9_2).f2.f1))) (fun _ hk => hk.2) (.int .i32 ((rd_T44 t352 x9_2).f3))) (fun _ hk => hk.2) (.int .i32 ((rd_T44 t352 x9_2).f4))) (fun _ hk => hk.2) (.int .i32 ((rd_T44 t352 x9_2).f5.f0))) (fun _ hk => hk.2) (.int .i32 ((rd_T44 t352 x9_2).f5.f1))) (fun _ hk => hk.2) (.int .i32 ((rd_T44 t352 x9_2).f6.f0))) (fun _ hk => hk.2) (.int .i32 ((rd_T44 t352 x9_2).f6.f1))) (fun _ hk => hk.2) (.int .i32 ((rd_T44 t345 x9_2).f6.f0))) (fun _ hk => hk.2) (.int .i32 ((rd_T44 t345 x9_2).f6.f1))) (fun _ hk => hk.1.2)⟩, ⟨by (with_reducible repeat (first | apply Kd.V_alloc | apply Kd.V_drewN | apply Kd.V_drew)); exact Kd.V_mono (Kd.V_far (p := ⟨b357, 9, none⟩) (Kd.V_far (p := ⟨b357, 8, none⟩) (Kd.V_far (p := ⟨b357, 9, none⟩) (Kd.V_far (p := ⟨b357, 8, none⟩) (Kd.V_far (p := ⟨b357, 7, none⟩) (Kd.V_far (p := ⟨b357, 6, none⟩) (Kd.V_far (p := ⟨b357, 5, none⟩) (Kd.V_far (p := ⟨b357, 4, none⟩) (Kd.V_far (p := ⟨b357, 3, none⟩) (Kd.V_far (p := ⟨b357, 2, none⟩) (Kd.V_far (p := ⟨b357, 1, none⟩) (Kd.V_far (p := ⟨b357, 0, none⟩) (Kd.V_mono HO_7.out (fun k_ hk => (⟨hk, hk.2⟩ : _ ∧ k_ ≠ b357))) (fun _ hk => hk.2) (.int .u32 ((rd_T44 t352 x9_2).f0))) (fun _ hk => hk.2) (.int .i32 ((rd_T44 t352 x9_2).f1))) (fun _ hk => hk.2) (.int .i32 ((rd_T44 t352 x9_2).f2.f0))) (fun _ hk => hk.2) (.int .i32 ((rd_T44 t352 x9_2).f2.f1))) (fun _ hk => hk.2) (.int .i32 ((rd_T44 t352 x9_2).f3))) (fun _ hk => hk.2) (.int .i32 ((rd_T44 t352 x9_2).f4))) (fun _ hk => hk.2) (.int .i32 ((rd_T44 t352 x9_2).f5.f0))) (fun _ hk => hk.2) (.int .i32 ((rd_T44 t352 x9_2).f5.f1))) (fun _ hk => hk.2) (.int .i32 ((rd_T44 t352 x9_2).f6.f0))) (fun _ hk => hk.2) (.int .i32 ((rd_T44 t352 x9_2).f6.f1))) (fun _ hk => hk.2) (.int .i32 ((rd_T44 t345 x9_2).f6.f0))) (fun _ hk => hk.2) (.int .i32 ((rd_T44 t345 x9_2).f6.f1))) (fun _ hk => hk.1.2)⟩, ⟨by (with_reducible repeat first | apply bN | apply bD | apply bA); refine bP (cs := #[.int .u32 ((rd_T44 t352 x9_2).f0), .int .i32 ((rd_T44 t352 x9_2).f1), .int .i32 ((rd_T44 t352 x9_2).f2.f0), .int .i32 ((rd_T44 t352 x9_2).f2.f1), .int .i32 ((rd_T44 t352 x9_2).f3), .int .i32 ((rd_T44 t352 x9_2).f4), .int .i32 ((rd_T44 t352 x9_2).f5.f0), .int .i32 ((rd_T44 t352 x9_2).f5.f1), .int .i32 ((rd_T44 t345 x9_2).f6.f0), .int .i32 ((rd_T44 t352 x9_2).f6.f1)]) ?_ 9 _ rfl; (with_reducible repeat first | apply bN | apply bD | apply bA); refine bP (cs := #[.int .u32 ((rd_T44 t352 x9_2).f0), .int .i32 ((rd_T44 t352 x9_2).f1), .int .i32 ((rd_T44 t352 x9_2).f2.f0), .int .i32 ((rd_T44 t352 x9_2).f2.f1), .int .i32 ((rd_T44 t352 x9_2).f3), .int .i32 ((rd_T44 t352 x9_2).f4), .int .i32 ((rd_T44 t352 x9_2).f5.f0), .int .i32 ((rd_T44 t352 x9_2).f5.f1), .int .i32 ((rd_T44 t352 x9_2).f6.f0), .int .i32 ((rd_T44 t352 x9_2).f6.f1)]) ?_ 8 _ rfl; (with_reducible repeat first | apply bN | apply bD | apply bA); refine bP (cs := #[.int .u32 ((rd_T44 t352 x9_2).f0), .int .i32 ((rd_T44 t352 x9_2).f1), .int .i32 ((rd_T44 t352 x9_2).f2.f0), .int .i32 ((rd_T44 t352 x9_2).f2.f1), .int .i32 ((rd_T44 t352 x9_2).f3), .int .i32 ((rd_T44 t352 x9_2).f4), .int .i32 ((rd_T44 t352 x9_2).f5.f0), .int .i32 ((rd_T44 t352 x9_2).f5.f1), .int .i32 ((rd_T44 t352 x9_2).f6.f0), .int .i32 0]) ?_ 9 _ rfl; (with_reducible repeat first | apply bN | apply bD | apply bA); refine bP (cs := #[.int .u32 ((rd_T44 t352 x9_2).f0), .int .i32 ((rd_T44 t352 x9_2).f1), .int .i32 ((rd_T44 t352 x9_2).f2.f0), .int .i32 ((rd_T44 t352 x9_2).f2.f1), .int .i32 ((rd_T44 t352 x9_2).f3), .int .i32 ((rd_T44 t352 x9_2).f4), .int .i32 ((rd_T44 t352 x9_2).f5.f0), .int .i32 ((rd_T44 t352 x9_2).f5.f1), .int .i32 0, .int .i32 0]) ?_ 8 _ rfl; (with_reducible repeat first | apply bN | apply bD | apply bA); refine bP (cs := #[.int .u32 ((rd_T44 t352 x9_2).f0), .int .i32 ((rd_T44 t352 x9_2).f1), .int .i32 ((rd_T44 t352 x9_2).f2.f0), .int .i32 ((rd_T44 t352 x9_2).f2.f1), .int .i32 ((rd_T44 t352 x9_2).f3), .int .i32 ((rd_T44 t352 x9_2).f4), .int .i32 ((rd_T44 t352 x9_2).f5.f0), .int .i32 0, .int .i32 0, .int .i32 0]) ?_ 7 _ rfl; (with_reducible repeat first | apply bN | apply bD | apply bA); refine bP (cs := #[.int .u32 ((rd_T44 t352 x9_2).f0), .int .i32 ((rd_T44 t352 x9_2).f1), .int .i32 ((rd_T44 t352 x9_2).f2.f0), .int .i32 ((rd_T44 t352 x9_2).f2.f1), .int .i32 ((rd_T44 t352 x9_2).f3), .int .i32 ((rd_T44 t352 x9_2).f4), .int .i32 0, .int .i32 0, .int .i32 0, .int .i32 0]) ?_ 6 _ rfl; (with_reducible repeat first | apply bN | apply bD | apply bA); refine bP (cs := #[.int .u32 ((rd_T44 t352 x9_2).f0), .int .i32 ((rd_T44 t352 x9_2).f1), .int .i32 ((rd_T44 t352 x9_2).f2.f0), .int .i32 ((rd_T44 t352 x9_2).f2.f1), .int .i32 ((rd_T44 t352 x9_2).f3), .int .i32 0, .int .i32 0, .int .i32 0, .int .i32 0, .int .i32 0]) ?_ 5 _ rfl; (with_reducible repeat first | apply bN | apply bD | apply bA); refine bP (cs := #[.int .u32 ((rd_T44 t352 x9_2).f0), .int .i32 ((rd_T44 t352 x9_2).f1), .int .i32 ((rd_T44 t352 x9_2).f2.f0), .int .i32 ((rd_T44 t352 x9_2).f2.f1), .int .i32 0, .int .i32 0, .int .i32 0, .int .i32 0, .int .i32 0, .int .i32 0]) ?_ 4 _ rfl; (with_reducible repeat first | apply bN | apply bD | apply bA); refine bP (cs := #[.int .u32 ((rd_T44 t352 x9_2).f0), .int .i32 ((rd_T44 t352 x9_2).f1), .int .i32 ((rd_T44 t352 x9_2).f2.f0), .int .i32 0, .int .i32 0, .int .i32 0, .int .i32 0, .int .i32 0, .int .i32 0, .int .i32 0]) ?_ 3 _ rfl; (with_reducible repeat first | apply bN | apply bD | apply bA); refine bP (cs := #[.int .u32 ((rd_T44 t352 x9_2).f0), .int .i32 ((rd_T44 t352 x9_2).f1), .int .i32 0, .int .i32 0, .int .i32 0, .int .i32 0, .int .i32 0, .int .i32 0, .int .i32 0, .int .i32 0]) ?_ 2 _ rfl; (with_reducible repeat first | apply bN | apply bD | apply bA); refine bP (cs := #[.int .u32 ((rd_T44 t352 x9_2).f0), .int .i32 0, .int .i32 0, .int .i32 0, .int .i32 0, .int .i32 0, .int .i32 0, .int .i32 0, .int .i32 0, .int .i32 0]) ?_ 1 _ rfl; (with_reducible repeat first | apply bN | apply bD | apply bA); refine bP (cs := #[.int .u32 0, .int .i32 0, .int .i32 0, .int .i32 0, .int .i32 0, .int .i32 0, .int .i32 0, .int .i32 0, .int .i32 0, .int .i32 0]) ?_ 0 _ rfl; (with_reducible repeat first | apply bN | apply bD | apply bA); exact BK357.out⟩, ⟨by repeat (first | (with_reducible first | exact HB.out | apply lA | apply lN | apply lD | refine lS ?_ GE357.out) | exact HB.out)⟩⟩
          case round =>
           clear H'
           try clear c1
           try clear c2
           try clear p2
           try clear p3
           try clear q3
           try clear hx3
           try clear c5
           try clear c7
           try clear c8
           try clear c14
           try clear c18
           try clear c18b0
           try clear c18b1
           try clear c18b2
           try clear c22
           try clear c22b0
           try clear c23
           try clear c23b0
           try clear c24
           try clear c24b0
           try clear hcz26_0
           try clear hcz26_1
           try clear hcz26_2
           try clear hcz26_3
           try clear hcz26_4
           try clear hcz26_5
           try clear hcz26_6
           try clear hcz26_7
           try clear hcz26_8
           try clear hcz26_9
           try clear hfz26_0
           try clear hfz26_1
           try clear hfz26_2
           try clear hfz26_3
           try clear hfz26_4
           try clear hfz26_5
           try clear hfz26_6
           try clear hfz26_7
           try clear hfz26_8
           try clear hfz26_9
           try clear hx356_0
           try clear hx356_1
           try clear hx356_2
           try clear hx356_3
           try clear hx356_4
           try clear hx356_5
           try clear hx356_6
           try clear hx356_7
           try clear hx356_8
           try clear hx356_9
           try clear hx358_0
           try clear hx358_1
           try clear hx358_2
           try clear hx358_3
           try clear hx358_4
           try clear hx358_5
           try clear hx358_6
           try clear hx358_7
           try clear hx358_8
           try clear hx358_9
           try clear p2
           try clear p356
           try clear p358
           try clear q356
           try clear q358
           obtain ⟨x11_3, x12_3, rfl, rfl, HA, HK3, HO_5, HO_7, BK357, HB⟩ := hrel
           cases gk with
           | zero => exact absurd HA.out (by simp [billiardlaw17_JacobiVelocities.l1])
           | succ k3 =>
            have H := HA.out
            clear HA
            simp only [billiardlaw17_JacobiVelocities.l1] at H
            by_cases c27 : x12_3 < (l1.length : Int)
            ·rw [if_pos c27] at H
             have c27b0 : decide (x12_3 < (l1.length : Int)) = true := decide_eq_true c27
             clear c27
             by_cases c28 : x11_3 = true
             ·subst c28
              rw [if_pos rfl] at H
              have H' := aM H
              clear H
              go_wp2
              repeat (go_quiet (fail); try go_wp2)
              go_roundg k3
              case measure => have := HJ3.out; have := HK2.out; have := HK3.out; omega
              case rel => exact ⟨(true), (wrap64 (x12_3 + 1)), (by first | rfl | (simp; done) | (simp [*]; done)), (by first | rfl | (simp; done) | (simp [*]; done)), H', ⟨by have := HJ3.out; have := HK2.out; have := HK3.out; omega⟩, ⟨by (with_reducible repeat (first | apply Kd.R_alloc | apply Kd.R_drewN | apply Kd.R_drew)); exact HO_5.out⟩, ⟨by (with_reducible repeat (first | apply Kd.V_alloc | apply Kd.V_drewN | apply Kd.V_drew)); exact HO_7.out⟩, ⟨by (with_reducible repeat first | apply bN | apply bD | apply bA); exact BK357.out⟩, ⟨by repeat (first | (with_reducible first | exact HB.out | apply lA | apply lN | apply lD | refine lS ?_ GE357.out) | exact HB.out)⟩⟩
             ·replace c28 := Bool.eq_false_iff.mpr c28
              subst c28
              rw [if_neg (show ¬ (false = true) by decide)] at H
              by_cases c29 : 0 ≤ x12_3
              ·rw [if_pos c29] at H
               have c29b0 : decide (0 ≤ x12_3) = true := decide_eq_true c29
               clear c29
               by_cases c30 : 0 ≤ x9_2
               ·rw [if_pos c30] at H
                have c30b0 : decide (0 ≤ x9_2) = true := decide_eq_true c30
                clear c30
                by_cases c31 : x9_2 < (t345.length : Int)
                ·rw [if_pos c31] at H
                 have c31b0 : decide (x9_2 < (t345.length : Int)) = true := decide_eq_true c31
                 clear c31
                 by_cases c32 : ((rd_T41 l1 x12_3).f0.f0) = ((rd_T44 t345 x9_2).f0)
                 ·rw [if_pos c32] at H
                  have c32b0 : (((rd_T41 l1 x12_3).f0.f0) == ((rd_T44 t345 x9_2).f0)) = true := beq_iff_eq.mpr c32
                  have c32b1 : (((rd_T41 l1 x12_3).f0.f0) != ((rd_T44 t345 x9_2).f0)) = false := bne_eq_false_iff_eq.mpr c32
                  clear c32
                  have H' := aM H
                  clear H
                  have p359 : 0 ≤ (x12_3 : Int) := of_decide_eq_true (by first | (with_reducible assumption) | assumption)
                  have q359 : x12_3 < (l1.length : Int) := of_decide_eq_true (by first | (with_reducible assumption) | assumption)
                  obtain ⟨ad359, e359, hx359_0, hx359_1, hx359_2, hx359_3, hx359_4⟩ := at_T41 HR1.out x12_3 p359 q359
                  cases e359
                  replace hx359_0 := (HB.out.cell (World.block_lt_of_cell? w _ hx359_0)).trans hx359_0
                  replace hx359_1 := (HB.out.cell (World.block_lt_of_cell? w _ hx359_1)).trans hx359_1
                  replace hx359_2 := (HB.out.cell (World.block_lt_of_cell? w _ hx359_2)).trans hx359_2
                  replace hx359_3 := (HB.out.cell (World.block_lt_of_cell? w _ hx359_3)).trans hx359_3
                  replace hx359_4 := (HB.out.cell (World.block_lt_of_cell? w _ hx359_4)).trans hx359_4
                  replace p359 := eq_true p359
                  replace q359 := eq_true q359
                  have p360 : 0 ≤ (x9_2 : Int) := of_decide_eq_true (by first | (with_reducible assumption) | assumption)
                  have q360 : x9_2 < (t345.length : Int) := of_decide_eq_true (by first | (with_reducible assumption) | assumption)
                  obtain ⟨ad360, e360, hx360_0, hx360_1, hx360_2, hx360_3, hx360_4, hx360_5, hx360_6, hx360_7, hx360_8, hx360_9⟩ := at_T44 (Kd.R_reads' HO_5.out).2.2 x9_2 p360 q360
                  obtain rfl : ad358 = ad360 := (by injection e360)
                  replace p360 := eq_true p360
                  replace q360 := eq_true q360
                  go_wp2
                  repeat (go_quiet (fail); try go_wp2)
                  go_roundg k3
                  case measure => have := HJ3.out; have := HK2.out; have := HK3.out; omega
                  case rel => exact ⟨(true), (wrap64 (x12_3 + 1)), (by first | rfl | (simp; done) | (simp [*]; done)), (by first | rfl | (simp; done) | (simp [*]; done)), H', ⟨by have := HJ3.out; have := HK2.out; have := HK3.out; omega⟩, ⟨by (with_reducible repeat (first | apply Kd.R_alloc | apply Kd.R_drewN | apply Kd.R_drew)); exact HO_5.out⟩, ⟨by (with_reducible repeat (first | apply Kd.V_alloc | apply Kd.V_drewN | apply Kd.V_drew)); exact HO_7.out⟩, ⟨by (with_reducible repeat first | apply bN | apply bD | apply bA); exact BK357.out⟩, ⟨by repeat (first | (with_reducible first | exact HB.out | apply lA | apply lN | apply lD | refine lS ?_ GE357.out) | exact HB.out)⟩⟩
                 ·rw [if_neg c32] at H
                  have c32b0 : (((rd_T41 l1 x12_3).f0.f0) == ((rd_T44 t345 x9_2).f0)) = false := beq_eq_false_iff_ne.mpr c32
                  have c32b1 : (((rd_T41 l1 x12_3).f0.f0) != ((rd_T44 t345 x9_2).f0)) = true := bne_iff_ne.mpr c32
                  have H' := aM H
                  clear H
                  have p359 : 0 ≤ (x12_3 : Int) := of_decide_eq_true (by first | (with_reducible assumption) | assumption)
                  have q359 : x12_3 < (l1.length : Int) := of_decide_eq_true (by first | (with_reducible assumption) | assumption)
                  obtain ⟨ad359, e359, hx359_0, hx359_1, hx359_2, hx359_3, hx359_4⟩ := at_T41 HR1.out x12_3 p359 q359
                  cases e359
                  replace hx359_0 := (HB.out.cell (World.block_lt_of_cell? w _ hx359_0)).trans hx359_0
                  replace hx359_1 := (HB.out.cell (World.block_lt_of_cell? w _ hx359_1)).trans hx359_1
                  replace hx359_2 := (HB.out.cell (World.block_lt_of_cell? w _ hx359_2)).trans hx359_2
                  replace hx359_3 := (HB.out.cell (World.block_lt_of_cell? w _ hx359_3)).trans hx359_3
                  replace hx359_4 := (HB.out.cell (World.block_lt_of_cell? w _ hx359_4)).trans hx359_4
                  replace p359 := eq_true p359
                  replace q359 := eq_true q359
                  have p360 : 0 ≤ (x9_2 : Int) := of_decide_eq_true (by first | (with_reducible assumption) | assumption)
                  have q360 : x9_2 < (t345.length : Int) := of_decide_eq_true (by first | (with_reducible assumption) | assumption)
                  obtain ⟨ad360, e360, hx360_0, hx360_1, hx360_2, hx360_3, hx360_4, hx360_5, hx360_6, hx360_7, hx360_8, hx360_9⟩ := at_T44 (Kd.R_reads' HO_5.out).2.2 x9_2 p360 q360
                  obtain rfl : ad358 = ad360 := (by injection e360)
                  replace p360 := eq_true p360
                  replace q360 := eq_true q360
                  have p361 : 0 ≤ (x12_3 : Int) := of_decide_eq_true (by first | (with_reducible assumption) | assumption)
                  have q361 : x12_3 < (l1.length : Int) := of_decide_eq_true (by first | (with_reducible assumption) | assumption)
                  obtain ⟨ad361, e361, hx361_0, hx361_1, hx361_2, hx361_3, hx361_4⟩ := at_T41 HR1.out x12_3 p361 q361
                  obtain rfl : ad359 = ad361 := (by injection e361)
                  replace hx361_0 := (HB.out.cell (World.block_lt_of_cell? w _ hx361_0)).trans hx361_0
                  replace hx361_1 := (HB.out.cell (World.block_lt_of_cell? w _ hx361_1)).trans hx361_1
                  replace hx361_2 := (HB.out.cell (World.block_lt_of_cell? w _ hx361_2)).trans hx361_2
                  replace hx361_3 := (HB.out.cell (World.block_lt_of_cell? w _ hx361_3)).trans hx361_3
                  replace hx361_4 := (HB.out.cell (World.block_lt_of_cell? w _ hx361_4)).trans hx361_4
                  replace p361 := eq_true p361
                  replace q361 := eq_true q361
                  have p362 : 0 ≤ (x9_2 : Int) := of_decide_eq_true (by first | (with_reducible assumption) | assumption)
                  have q362 : x9_2 < (t345.length : Int) := of_decide_eq_true (by first | (with_reducible assumption) | assumption)
                  obtain ⟨ad362, e362, hx362_0, hx362_1, hx362_2, hx362_3, hx362_4, hx362_5, hx362_6, hx362_7, hx362_8, hx362_9⟩ := at_T44 (Kd.R_reads' HO_5.out).2.2 x9_2 p362 q362
                  obtain rfl : ad358 = ad362 := (by injection e362)
                  replace p362 := eq_true p362
                  replace q362 := eq_true q362
                  go_wp2
                  repeat (go_quiet (fail); try go_wp2)
                  go_roundg k3
                  case measure => have := HJ3.out; have := HK2.out; have := HK3.out; omega
                  case rel => exact ⟨((((rd_T41 l1 x12_3).f0.f1) == ((rd_T44 t345 x9_2).f0))), (wrap64 (x12_3 + 1)), (by first | rfl | (simp; done) | (simp [*]; done)), (by first | rfl | (simp; done) | (simp [*]; done)), H', ⟨by have := HJ3.out; have := HK2.out; have := HK3.out; omega⟩, ⟨by (with_reducible repeat (first | apply Kd.R_alloc | apply Kd.R_drewN | apply Kd.R_drew)); exact HO_5.out⟩, ⟨by (with_reducible repeat (first | apply Kd.V_alloc | apply Kd.V_drewN | apply Kd.V_drew)); exact HO_7.out⟩, ⟨by (with_reducible repeat first | apply bN | apply bD | apply bA); exact BK357.out⟩, ⟨by repeat (first | (with_reducible first | exact HB.out | apply lA | apply lN | apply lD | refine lS ?_ GE357.out) | exact HB.out)⟩⟩
                ·rw [if_neg c31] at H
                 exact absurd H (by simp)
               ·rw [if_neg c30] at H
                exact absurd H (by simp)
              ·rw [if_neg c29] at H
               exact absurd H (by simp)
            ·rw [if_neg c27] at H
             have c27b0 : decide (x12_3 < (l1.length : Int)) = false := decide_eq_false c27
             clear c27
             have HC33 := aM H
             clear H
             go_upto_region 17 with (fail)
             repeat (go_quiet (fail); go_upto_region 17 with (fail))
             go_cut [123] (fun v123 wc => ∃ (kq : Nat) (x123_32 : Bool), v123 = .bool x123_32 ∧ Aside0 (billiardlaw17_JacobiVelocities.j3 kq l1 t345 t352 x9_2 x123_32 = some r) ∧ Aside0 (kq ≤ k3) ∧ Aside0 (Kd.R k44 44 wc w.heap.size (fun k_ => k_ ≠ b357) (.slice (some ad358) t345.length co19) t345) ∧ Aside0 (Kd.V k44 44 wc w.heap.size (fun k_ => k_ ≠ b357) (.slice (some ad356) t352.length co21) t352) ∧ Aside0 (wc.heap[b357]? = some (.cells #[.int .u32 ((rd_T44 t352 x9_2).f0), .int .i32 ((rd_T44 t352 x9_2).f1), .int .i32 ((rd_T44 t352 x9_2).f2.f0), .int .i32 ((rd_T44 t352 x9_2).f2.f1), .int .i32 ((rd_T44 t352 x9_2).f3), .int .i32 ((rd_T44 t352 x9_2).f4), .int .i32 ((rd_T44 t352 x9_2).f5.f0), .int .i32 ((rd_T44 t352 x9_2).f5.f1), .int .i32 ((rd_T44 t345 x9_2).f6.f0), .int .i32 ((rd_T44 t345 x9_2).f6.f1)] 44 (0, 0))) ∧ Aside0 (Below w.heap.size w wc))
             case first =>
              have H := HC33.out
              clear HC33
              by_cases c34 : 0 ≤ x9_2
              ·rw [if_pos c34] at H
               have c34b0 : decide (0 ≤ x9_2) = true := decide_eq_true c34
               clear c34
               (first | rw [c34b0] | (simp only [i64_w, i32_w]; rw [c34b0]) | skip)
               by_cases c35 : x9_2 < (t345.length : Int)
               ·rw [if_pos c35] at H
                have c35b0 : decide (x9_2 < (t345.length : Int)) = true := decide_eq_true c35
                clear c35
                by_cases c36 : (!(((rd_T44 t352 x9_2).f0) == ((rd_T44 t345 x9_2).f0)) || (!(((rd_T44 t352 x9_2).f1) == ((rd_T44 t345 x9_2).f1)) || ((!(((rd_T44 t352 x9_2).f2.f0) == ((rd_T44 t345 x9_2).f2.f0)) || (!(((rd_T44 t352 x9_2).f2.f1) == ((rd_T44 t345 x9_2).f2.f1)))) || (!(((rd_T44 t352 x9_2).f3) == ((rd_T44 t345 x9_2).f3)) || (!(((rd_T44 t352 x9_2).f4) == ((rd_T44 t345 x9_2).f4)) || ((!(((rd_T44 t352 x9_2).f5.f0) == ((rd_T44 t345 x9_2).f5.f0)) || (!(((rd_T44 t352 x9_2).f5.f1) == ((rd_T44 t345 x9_2).f5.f1)))) || ((!(((rd_T44 t345 x9_2).f6.f0) == ((rd_T44 t345 x9_2).f6.f0)) || (!(((rd_T44 t345 x9_2).f6.f1) == ((rd_T44 t345 x9_2).f6.f1))))))))))) = true
                ·rw [if_pos c36] at H
                 have c36b0 : (!(((rd_T44 t352 x9_2).f0) == ((rd_T44 t345 x9_2).f0)) || (!(((rd_T44 t352 x9_2).f1) == ((rd_T44 t345 x9_2).f1)) || ((!(((rd_T44 t352 x9_2).f2.f0) == ((rd_T44 t345 x9_2).f2.f0)) || (!(((rd_T44 t352 x9_2).f2.f1) == ((rd_T44 t345 x9_2).f2.f1)))) || (!(((rd_T44 t352 x9_2).f3) == ((rd_T44 t345 x9_2).f3)) || (!(((rd_T44 t352 x9_2).f4) == ((rd_T44 t345 x9_2).f4)) || ((!(((rd_T44 t352 x9_2).f5.f0) == ((rd_T44 t345 x9_2).f5.f0)) || (!(((rd_T44 t352 x9_2).f5.f1) == ((rd_T44 t345 x9_2).f5.f1)))) || ((!(((rd_T44 t345 x9_2).f6.f0) == ((rd_T44 t345 x9_2).f6.f0)) || (!(((rd_T44 t345 x9_2).f6.f1) == ((rd_T44 t345 x9_2).f6.f1))))))))))) = true := c36
                 have c36b1 := c36b0
                 simp only [beq_self_eq_true, Bool.not_true, Bool.or_false] at c36b1
                 clear c36
                 have H' := aM H
                 clear H
                 obtain ⟨hcz37_0, hcz37_1, hcz37_2, hcz37_3, hcz37_4, hcz37_5, hcz37_6, hcz37_7, hcz37_8, hcz37_9, hfz37_0, hfz37_1, hfz37_2, hfz37_3, hfz37_4, hfz37_5, hfz37_6, hfz37_7, hfz37_8, hfz37_9⟩ := kD10 BK357.out
                 have p363 : 0 ≤ (x9_2 : Int) := of_decide_eq_true (by first | (with_reducible assumption) | assumption)
                 have q363 : x9_2 < (t345.length : Int) := of_decide_eq_true (by first | (with_reducible assumption) | assumption)
                 obtain ⟨ad363, e363, hx363_0, hx363_1, hx363_2, hx363_3, hx363_4, hx363_5, hx363_6, hx363_7, hx363_8, hx363_9⟩ := at_T44 (Kd.R_reads' HO_5.out).2.2 x9_2 p363 q363
                 obtain rfl : ad358 = ad363 := (by injection e363)
                 replace p363 := eq_true p363
                 replace q363 := eq_true q363
                 go_wp2
                 repeat (go_quiet (fail); try go_wp2)
                 go_meet
                 case rel => exact ⟨_, (true), (by first | rfl | (simp; done) | (simp [*]; done)), H', ⟨by have := HJ3.out; have := HK2.out; have := HK3.out; first | omega | exact Nat.le_refl _⟩, ⟨by (with_reducible repeat (first | apply Kd.R_alloc | apply Kd.R_drewN | apply Kd.R_drew)); exact HO_5.out⟩, ⟨by (with_reducible repeat (first | apply Kd.V_alloc | apply Kd.V_drewN | apply Kd.V_drew)); exact HO_7.out⟩, ⟨by (with_reducible repeat first | apply bN | apply bD | apply bA); exact BK357.out⟩, ⟨by repeat (first | (with_reducible first | exact HB.out | apply lA | apply lN | apply lD | refine lS ?_ GE357.out) | exact HB.out)⟩⟩
                ·rw [if_neg c36] at H
                 have c36b0 : (!(((rd_T44 t352 x9_2).f0) == ((rd_T44 t345 x9_2).f0)) || (!(((rd_T44 t352 x9_2).f1) == ((rd_T44 t345 x9_2).f1)) || ((!(((rd_T44 t352 x9_2).f2.f0) == ((rd_T44 t345 x9_2).f2.f0)) || (!(((rd_T44 t352 x9_2).f2.f1) == ((rd_T44 t345 x9_2).f2.f1)))) || (!(((rd_T44 t352 x9_2).f3) == ((rd_T44 t345 x9_2).f3)) || (!(((rd_T44 t352 x9_2).f4) == ((rd_T44 t345 x9_2).f4)) || ((!(((rd_T44 t352 x9_2).f5.f0) == ((rd_T44 t345 x9_2).f5.f0)) || (!(((rd_T44 t352 x9_2).f5.f1) == ((rd_T44 t345 x9_2).f5.f1)))) || ((!(((rd_T44 t345 x9_2).f6.f0) == ((rd_T44 t345 x9_2).f6.f0)) || (!(((rd_T44 t345 x9_2).f6.f1) == ((rd_T44 t345 x9_2).f6.f1))))))))))) = false := by simpa using c36
                 have c36b1 := c36b0
                 simp only [beq_self_eq_true, Bool.not_true, Bool.or_false] at c36b1
                 clear c36
                 by_cases c38 : ((rd_T44 t345 x9_2).f3) = 0
                 ·rw [if_pos c38] at H
                  have c38b0 : (((rd_T44 t345 x9_2).f3) == 0) = true := beq_iff_eq.mpr c38
                  have c38b1 : (((rd_T44 t345 x9_2).f3) != 0) = false := bne_eq_false_iff_eq.mpr c38
                  clear c38
                  by_cases c39 : x9_2 < (t352.length : Int)
                  ·rw [if_pos c39] at H
                   have c39b0 : decide (x9_2 < (t352.length : Int)) = true := decide_eq_true c39
                   clear c39
                   have H' := aM H
                   clear H
                   obtain ⟨hcz40_0, hcz40_1, hcz40_2, hcz40_3, hcz40_4, hcz40_5, hcz40_6, hcz40_7, hcz40_8, hcz40_9, hfz40_0, hfz40_1, hfz40_2, hfz40_3, hfz40_4, hfz40_5, hfz40_6, hfz40_7, hfz40_8, hfz40_9⟩ := kD10 BK357.out
                   have p363 : 0 ≤ (x9_2 : Int) := of_decide_eq_true (by first | (with_reducible assumption) | assumption)
                   have q363 : x9_2 < (t345.length : Int) := of_decide_eq_true (by first | (with_reducible assumption) | assumption)
                   obtain ⟨ad363, e363, hx363_0, hx363_1, hx363_2, hx363_3, hx363_4, hx363_5, hx363_6, hx363_7, hx363_8, hx363_9⟩ := at_T44 (Kd.R_reads' HO_5.out).2.2 x9_2 p363 q363
                   obtain rfl : ad358 = ad363 := (by injection e363)
                   replace p363 := eq_true p363
                   replace q363 := eq_true q363
                   have p364 : 0 ≤ (x9_2 : Int) := of_decide_eq_true (by first | (with_reducible assumption) | assumption)
                   have q364 : x9_2 < (t345.length : Int) := of_decide_eq_true (by first | (with_reducible assumption) | assumption)
                   obtain ⟨ad364, e364, hx364_0, hx364_1, hx364_2, hx364_3, hx364_4, hx364_5, hx364_6, hx364_7, hx364_8, hx364_9⟩ := at_T44 (Kd.R_reads' HO_5.out).2.2 x9_2 p364 q364
                   obtain rfl : ad358 = ad364 := (by injection e364)
                   replace p364 := eq_true p364
                   replace q364 := eq_true q364
                   have p365 : 0 ≤ (x9_2 : Int) := of_decide_eq_true (by first | (with_reducible assumption) | assumption)
                   have q365 : x9_2 < (t352.length : Int) := of_decide_eq_true (by first | (with_reducible assumption) | assumption)
                   obtain ⟨ad365, e365, hx365_0, hx365_1, hx365_2, hx365_3, hx365_4, hx365_5, hx365_6, hx365_7, hx365_8, hx365_9⟩ := at_T44 (Kd.V_reads' HO_7.out).2.2 x9_2 p365 q365
                   obtain rfl : ad356 = ad365 := (by injection e365)
                   replace p365 := eq_true p365
                   replace q365 := eq_true q365
                   have p366 : 0 ≤ (x9_2 : Int) := of_decide_eq_true (by first | (with_reducible assumption) | assumption)
                   have q366 : x9_2 < (t345.length : Int) := of_decide_eq_true (by first | (with_reducible assumption) | assumption)
                   obtain ⟨ad366, e366, hx366_0, hx366_1, hx366_2, hx366_3, hx366_4, hx366_5, hx366_6, hx366_7, hx366_8, hx366_9⟩ := at_T44 (Kd.R_reads' HO_5.out).2.2 x9_2 p366 q366
                   obtain rfl : ad358 = ad366 := (by injection e366)
                   replace p366 := eq_true p366
                   replace q366 := eq_true q366
                   go_wp2
                   repeat (go_quiet (fail); try go_wp2)
                   go_meet
                   case rel => exact ⟨_, ((!(((rd_T44 t352 x9_2).f6.f0) == ((rd_T44 t345 x9_2).f6.f0)) || (!(((rd_T44 t352 x9_2).f6.f1) == ((rd_T44 t345 x9_2).f6.f1))))), (by first | rfl | (simp; done) | (simp [*]; done)), H', ⟨by have := HJ3.out; have := HK2.out; have := HK3.out; first | omega | exact Nat.le_refl _⟩, ⟨by (with_reducible repeat (first | apply Kd.R_alloc | apply Kd.R_drewN | apply Kd.R_drew)); exact HO_5.out⟩, ⟨by (with_reducible repeat (first | apply Kd.V_alloc | apply Kd.V_drewN | apply Kd.V_drew)); exact HO_7.out⟩, ⟨by (with_reducible repeat first | apply bN | apply bD | apply bA); exact BK357.out⟩, ⟨by repeat (first | (with_reducible first | exact HB.out | apply lA | apply lN | apply lD | refine lS ?_ GE357.out) | exact HB.out)⟩⟩
                  ·rw [if_neg c39] at H
                   exact absurd H (by simp)
                 ·rw [if_neg c38] at H
                  have c38b0 : (((rd_T44 t345 x9_2).f3) == 0) = false := beq_eq_false_iff_ne.mpr c38
                  have c38b1 : (((rd_T44 t345 x9_2).f3) != 0) = true := bne_iff_ne.mpr c38
                  by_cases c41 : x11_3 = true
                  ·subst c41
                   rw [if_pos rfl] at H
                   have H' := aM H
                   clear H
                   obtain ⟨hcz42_0, hcz42_1, hcz42_2, hcz42_3, hcz42_4, hcz42_5, hcz42_6, hcz42_7, hcz42_8, hcz42_9, hfz42_0, hfz42_1, hfz42_2, hfz42_3, hfz42_4, hfz42_5, hfz42_6, hfz42_7, hfz42_8, hfz42_9⟩ := kD10 BK357.out
                   have p363 : 0 ≤ (x9_2 : Int) := of_decide_eq_true (by first | (with_reducible assumption) | assumption)
                   have q363 : x9_2 < (t345.length : Int) := of_decide_eq_true (by first | (with_reducible assumption) | assumption)
                   obtain ⟨ad363, e363, hx363_0, hx363_1, hx363_2, hx363_3, hx363_4, hx363_5, hx363_6, hx363_7, hx363_8, hx363_9⟩ := at_T44 (Kd.R_reads' HO_5.out).2.2 x9_2 p363 q363
                   obtain rfl : ad358 = ad363 := (by injection e363)
                   replace p363 := eq_true p363
                   replace q363 := eq_true q363
                   have p364 : 0 ≤ (x9_2 : Int) := of_decide_eq_true (by first | (with_reducible assumption) | assumption)
                   have q364 : x9_2 < (t345.length : Int) := of_decide_eq_true (by first | (with_reducible assumption) | assumption)
                   obtain ⟨ad364, e364, hx364_0, hx364_1, hx364_2, hx364_3, hx364_4, hx364_5, hx364_6, hx364_7, hx364_8, hx364_9⟩ := at_T44 (Kd.R_reads' HO_5.out).2.2 x9_2 p364 q364
                   obtain rfl : ad358 = ad364 := (by injection e364)
                   replace p364 := eq_true p364
                   replace q364 := eq_true q364
                   go_wp2
                   repeat (go_quiet (fail); try go_wp2)
                   go_meet
                   case rel => exact ⟨_, (false), (by first | rfl | (simp; done) | (simp [*]; done)), H', ⟨by have := HJ3.out; have := HK2.out; have := HK3.out; first | omega | exact Nat.le_refl _⟩, ⟨by (with_reducible repeat (first | apply Kd.R_alloc | apply Kd.R_drewN | apply Kd.R_drew)); exact HO_5.out⟩, ⟨by (with_reducible repeat (first | apply Kd.V_alloc | apply Kd.V_drewN | apply Kd.V_drew)); exact HO_7.out⟩, ⟨by (with_reducible repeat first | apply bN | apply bD | apply bA); exact BK357.out⟩, ⟨by repeat (first | (with_reducible first | exact HB.out | apply lA | apply lN | apply lD | refine lS ?_ GE357.out) | exact HB.out)⟩⟩
                  ·replace c41 := Bool.eq_false_iff.mpr c41
                   subst c41
                   rw [if_neg (show ¬ (false = true) by decide)] at H
                   by_cases c43 : x9_2 < (t352.length : Int)
                   ·rw [if_pos c43] at H
                    have c43b0 : decide (x9_2 < (t352.length : Int)) = true := decide_eq_true c43
                    clear c43
                    have H' := aM H
                    clear H
                    obtain ⟨hcz44_0, hcz44_1, hcz44_2, hcz44_3, hcz44_4, hcz44_5, hcz44_6, hcz44_7, hcz44_8, hcz44_9, hfz44_0, hfz44_1, hfz44_2, hfz44_3, hfz44_4, hfz44_5, hfz44_6, hfz44_7, hfz44_8, hfz44_9⟩ := kD10 BK357.out
                    have p363 : 0 ≤ (x9_2 : Int) := of_decide_eq_true (by first | (with_reducible assumption) | assumption)
                    have q363 : x9_2 < (t345.length : Int) := of_decide_eq_true (by first | (with_reducible assumption) | assumption)
                    obtain ⟨ad363, e363, hx363_0, hx363_1, hx363_2, hx363_3, hx363_4, hx363_5, hx363_6, hx363_7, hx363_8, hx363_9⟩ := at_T44 (Kd.R_reads' HO_5.out).2.2 x9_2 p363 q363
                    obtain rfl : ad358 = ad363 := (by injection e363)
                    replace p363 := eq_true p363
                    replace q363 := eq_true q363
                    have p364 : 0 ≤ (x9_2 : Int) := of_decide_eq_true (by first | (with_reducible assumption) | assumption)
                    have q364 : x9_2 < (t345.length : Int) := of_decide_eq_true (by first | (with_reducible assumption) | assumption)
                    obtain ⟨ad364, e364, hx364_0, hx364_1, hx364_2, hx364_3, hx364_4, hx364_5, hx364_6, hx364_7, hx364_8, hx364_9⟩ := at_T44 (Kd.R_reads' HO_5.out).2.2 x9_2 p364 q364
                    obtain rfl : ad358 = ad364 := (by injection e364)
                    replace p364 := eq_true p364
                    replace q364 := eq_true q364
                    have p367 : 0 ≤ (x9_2 : Int) := of_decide_eq_true (by first | (with_reducible assumption) | assumption)
                    have q367 : x9_2 < (t352.length : Int) := of_decide_eq_true (by first | (with_reducible assumption) | assumption)
                    obtain ⟨ad367, e367, hx367_0, hx367_1, hx367_2, hx367_3, hx367_4, hx367_5, hx367_6, hx367_7, hx367_8, hx367_9⟩ := at_T44 (Kd.V_reads' HO_7.out).2.2 x9_2 p367 q367
                    obtain rfl : ad356 = ad367 := (by injection e367)
                    replace p367 := eq_true p367
                    replace q367 := eq_true q367
                    have p368 : 0 ≤ (x9_2 : Int) := of_decide_eq_true (by first | (with_reducible assumption) | assumption)
                    have q368 : x9_2 < (t345.length : Int) := of_decide_eq_true (by first | (with_reducible assumption) | assumption)
                    obtain ⟨ad368, e368, hx368_0, hx368_1, hx368_2, hx368_3, hx368_4, hx368_5, hx368_6, hx368_7, hx368_8, hx368_9⟩ := at_T44 (Kd.R_reads' HO_5.out).2.2 x9_2 p368 q368
                    obtain rfl : ad358 = ad368 := (by injection e368)
                    replace p368 := eq_true p368
                    replace q368 := eq_true q368
                    go_wp2
                    repeat (go_quiet (fail); try go_wp2)
                    go_meet
                    case rel => exact ⟨_, ((!(((rd_T44 t352 x9_2).f6.f0) == ((rd_T44 t345 x9_2).f6.f0)) || (!(((rd_T44 t352 x9_2).f6.f1) == ((rd_T44 t345 x9_2).f6.f1))))), (by first | rfl | (simp; done) | (simp [*]; done)), H', ⟨by have := HJ3.out; have := HK2.out; have := HK3.out; first | omega | exact Nat.le_refl _⟩, ⟨by (with_reducible repeat (first | apply Kd.R_alloc | apply Kd.R_drewN | apply Kd.R_drew)); exact HO_5.out⟩, ⟨by (with_reducible repeat (first | apply Kd.V_alloc | apply Kd.V_drewN | apply Kd.V_drew)); exact HO_7.out⟩, ⟨by (with_reducible repeat first | apply bN | apply bD | apply bA); exact BK357.out⟩, ⟨by repeat (first | (with_reducible first | exact HB.out | apply lA | apply lN | apply lD | refine lS ?_ GE357.out) | exact HB.out)⟩⟩
                   ·rw [if_neg c43] at H
                    exact absurd H (by simp)
               ·rw [if_neg c35] at H
                exact absurd H (by simp)
              ·rw [if_neg c34] at H
               exact absurd H (by simp)
             case rest =>
              clear HC33
              try clear c1
              try clear c2
              try clear p2
              try clear c3
              try clear p3
              try clear q3
              try clear hx3
              try clear c4
              try clear c5
              try clear p6
              try clear c7
              try clear c8
              try clear c14
              try clear c18
              try clear c18b0
              try clear c18b1
              try clear c18b2
              try clear c22
              try clear c22b0
              try clear c23
              try clear c23b0
              try clear c24
              try clear c24b0
              try clear c27
              try clear c27b0
              try clear c28
              try clear c29
              try clear c29b0
              try clear c30
              try clear c30b0
              try clear c31
              try clear c31b0
              try clear c32
              try clear c32b0
              try clear c32b1
              try clear c34
              try clear c34b0
              try clear c35
              try clear c35b0
              try clear p35
              try clear q35
              try clear hx35
              try clear c36
              try clear c36b0
              try clear p36
              try clear q36
              try clear hx36
              try clear c38
              try clear c38b0
              try clear c38b1
              try clear c39
              try clear c39b0
              try clear c41
              try clear c43
              try clear c43b0
              try clear hcz26_0
              try clear hcz26_1
              try clear hcz26_2
              try clear hcz26_3
              try clear hcz26_4
              try clear hcz26_5
              try clear hcz26_6
              try clear hcz26_7
              try clear hcz26_8
              try clear hcz26_9
              try clear hcz37_0
              try clear hcz37_1
              try clear hcz37_2
              try clear hcz37_3
              try clear hcz37_4
              try clear hcz37_5
              try clear hcz37_6
              try clear hcz37_7
              try clear hcz37_8
              try clear hcz37_9
              try clear hcz40_0
              try clear hcz40_1
              try clear hcz40_2
              try clear hcz40_3
              try clear hcz40_4
              try clear hcz40_5
              try clear hcz40_6
              try clear hcz40_7
              try clear hcz40_8
              try clear hcz40_9
              try clear hcz42_0
              try clear hcz42_1
              try clear hcz42_2
              try clear hcz42_3
              try clear hcz42_4
              try clear hcz42_5
              try clear hcz42_6
              try clear hcz42_7
              try clear hcz42_8
              try clear hcz42_9
              try clear hcz44_0
              try clear hcz44_1
              try clear hcz44_2
              try clear hcz44_3
              try clear hcz44_4
              try clear hcz44_5
              try clear hcz44_6
              try clear hcz44_7
              try clear hcz44_8
              try clear hcz44_9
              try clear hfz26_0
              try clear hfz26_1
              try clear hfz26_2
              try clear hfz26_3
              try clear hfz26_4
              try clear hfz26_5
              try clear hfz26_6
              try clear hfz26_7
              try clear hfz26_8
              try clear hfz26_9
              try clear hfz37_0
              try clear hfz37_1
              try clear hfz37_2
              try clear hfz37_3
              try clear hfz37_4
              try clear hfz37_5
              try clear hfz37_6
              try clear hfz37_7
              try clear hfz37_8
              try clear hfz37_9
              try clear hfz40_0
              try clear hfz40_1
              try clear hfz40_2
              try clear hfz40_3
              try clear hfz40_4
              try clear hfz40_5
              try clear hfz40_6
              try clear hfz40_7
              try clear hfz40_8
              try clear hfz40_9
              try clear hfz42_0
              try clear hfz42_1
              try clear hfz42_2
              try clear hfz42_3
              try clear hfz42_4
              try clear hfz42_5
              try clear hfz42_6
              try clear hfz42_7
              try clear hfz42_8
              try clear hfz42_9
              try clear hfz44_0
              try clear hfz44_1
              try clear hfz44_2
              try clear hfz44_3
              try clear hfz44_4
              try clear hfz44_5
              try clear hfz44_6
              try clear hfz44_7
              try clear hfz44_8
              try clear hfz44_9
              try clear hx356_0
              try clear hx356_1
              try clear hx356_2
              try clear hx356_3
              try clear hx356_4
              try clear hx356_5
              try clear hx356_6
              try clear hx356_7
              try clear hx356_8
              try clear hx356_9
              try clear hx358_0
              try clear hx358_1
              try clear hx358_2
              try clear hx358_3
              try clear hx358_4
              try clear hx358_5
              try clear hx358_6
              try clear hx358_7
              try clear hx358_8
              try clear hx358_9
              try clear hx359_0
              try clear hx359_1
              try clear hx359_2
              try clear hx359_3
              try clear hx359_4
              try clear hx360_0
              try clear hx360_1
              try clear hx360_2
              try clear hx360_3
              try clear hx360_4
              try clear hx360_5
              try clear hx360_6
              try clear hx360_7
              try clear hx360_8
              try clear hx360_9
              try clear hx361_0
              try clear hx361_1
              try clear hx361_2
              try clear hx361_3
              try clear hx361_4
              try clear hx362_0
              try clear hx362_1
              try clear hx362_2
              try clear hx362_3
              try clear hx362_4
              try clear hx362_5
              try clear hx362_6
              try clear hx362_7
              try clear hx362_8
              try clear hx362_9
              try clear hx363_0
              try clear hx363_1
              try clear hx363_2
              try clear hx363_3
              try clear hx363_4
              try clear hx363_5
              try clear hx363_6
              try clear hx363_7
              try clear hx363_8
              try clear hx363_9
              try clear hx364_0
              try clear hx364_1
              try clear hx364_2
              try clear hx364_3
              try clear hx364_4
              try clear hx364_5
              try clear hx364_6
              try clear hx364_7
              try clear hx364_8
              try clear hx364_9
              try clear hx365_0
              try clear hx365_1
              try clear hx365_2
              try clear hx365_3
              try clear hx365_4
              try clear hx365_5
              try clear hx365_6
              try clear hx365_7
              try clear hx365_8
              try clear hx365_9
              try clear hx366_0
              try clear hx366_1
              try clear hx366_2
              try clear hx366_3
              try clear hx366_4
              try clear hx366_5
              try clear hx366_6
              try clear hx366_7
              try clear hx366_8
              try clear hx366_9
              try clear hx367_0
              try clear hx367_1
              try clear hx367_2
              try clear hx367_3
              try clear hx367_4
              try clear hx367_5
              try clear hx367_6
              try clear hx367_7
              try clear hx367_8
              try clear hx367_9
              try clear hx368_0
              try clear hx368_1
              try clear hx368_2
              try clear hx368_3
              try clear hx368_4
              try clear hx368_5
              try clear hx368_6
              try clear hx368_7
              try clear hx368_8
              try clear hx368_9
              try clear p2
              try clear p3
              try clear p356
              try clear p358
              try clear p359
              try clear p360
              try clear p361
              try clear p362
              try clear p363
              try clear p364
              try clear p365
              try clear p366
              try clear p367
              try clear p368
              try clear q3
              try clear q356
              try clear q358
              try clear q359
              try clear q360
              try clear q361
              try clear q362
              try clear q363
              try clear q364
              try clear q365
              try clear q366
              try clear q367
              try clear q368
              obtain ⟨kq, x123_32, rfl, HA, HJ32, HO_5, HO_7, BK357, HB⟩ := hcut
              cases kq with
              | zero => exact absurd HA.out (by simp [billiardlaw17_JacobiVelocities.j3])
              | succ kj32 =>
               have H := HA.out
               clear HA
               simp only [billiardlaw17_JacobiVelocities.j3] at H
               by_cases c45 : x123_32 = true
               ·subst c45
                rw [if_pos rfl] at H
                exact absurd ((Option.some.inj H).trans HR.out) (by decide)
               ·replace c45 := Bool.eq_false_iff.mpr c45
                subst c45
                rw [if_neg (show ¬ (false = true) by decide)] at H
                by_cases c46 : 0 ≤ x9_2
                ·rw [if_pos c46] at H
                 have c46b0 : decide (0 ≤ x9_2) = true := decide_eq_true c46
                 clear c46
                 by_cases c47 : x9_2 < (t352.length : Int)
                 ·rw [if_pos c47] at H
                  have c47b0 : decide (x9_2 < (t352.length : Int)) = true := decide_eq_true c47
                  clear c47
                  by_cases c48 : ((rd_T44 t352 x9_2).f6.f0) < (-16777216)
                  ·rw [if_pos c48] at H
                   have c48b0 : decide (((rd_T44 t352 x9_2).f6.f0) < (-16777216)) = true := decide_eq_true c48
                   clear c48
                   exact absurd ((Option.some.inj H).trans HR.out) (by decide)
                  ·rw [if_neg c48] at H
                   have c48b0 : decide (((rd_T44 t352 x9_2).f6.f0) < (-16777216)) = false := decide_eq_false c48
                   clear c48
                   by_cases c49 : ((rd_T44 t352 x9_2).f6.f0) > 16777216
                   ·rw [if_pos c49] at H
                    have c49b0 : decide (16777216 < ((rd_T44 t352 x9_2).f6.f0)) = true := decide_eq_true c49
                    clear c49
                    exact absurd ((Option.some.inj H).trans HR.out) (by decide)
                   ·rw [if_neg c49] at H
                    have c49b0 : decide (16777216 < ((rd_T44 t352 x9_2).f6.f0)) = false := decide_eq_false c49
                    clear c49
                    by_cases c50 : ((rd_T44 t352 x9_2).f6.f1) < (-16777216)
                    ·rw [if_pos c50] at H
                     have c50b0 : decide (((rd_T44 t352 x9_2).f6.f1) < (-16777216)) = true := decide_eq_true c50
                     clear c50
                     exact absurd ((Option.some.inj H).trans HR.out) (by decide)
                    ·rw [if_neg c50] at H
                     have c50b0 : decide (((rd_T44 t352 x9_2).f6.f1) < (-16777216)) = false := decide_eq_false c50
                     clear c50
                     by_cases c51 : ((rd_T44 t352 x9_2).f6.f1) > 16777216
                     ·rw [if_pos c51] at H
                      have c51b0 : decide (16777216 < ((rd_T44 t352 x9_2).f6.f1)) = true := decide_eq_true c51
                      clear c51
                      exact absurd ((Option.some.inj H).trans HR.out) (by decide)
                     ·rw [if_neg c51] at H
                      have c51b0 : decide (16777216 < ((rd_T44 t352 x9_2).f6.f1)) = false := decide_eq_false c51
                      clear c51
                      have H' := aM H
                      clear H
                      have p369 : 0 ≤ (x9_2 : Int) := of_decide_eq_true (by first | (with_reducible assumption) | assumption)
                      have q369 : x9_2 < (t352.length : Int) := of_decide_eq_true (by first | (with_reducible assumption) | assumption)
                      obtain ⟨ad369, e369, hx369_0, hx369_1, hx369_2, hx369_3, hx369_4, hx369_5, hx369_6, hx369_7, hx369_8, hx369_9⟩ := at_T44 (Kd.V_reads' HO_7.out).2.2 x9_2 p369 q369
                      obtain rfl : ad356 = ad369 := (by injection e369)
                      replace p369 := eq_true p369
                      replace q369 := eq_true q369
                      have p370 : 0 ≤ (x9_2 : Int) := of_decide_eq_true (by first | (with_reducible assumption) | assumption)
                      have q370 : x9_2 < (t352.length : Int) := of_decide_eq_true (by first | (with_reducible assumption) | assumption)
                      obtain ⟨ad370, e370, hx370_0, hx370_1, hx370_2, hx370_3, hx370_4, hx370_5, hx370_6, hx370_7, hx370_8, hx370_9⟩ := at_T44 (Kd.V_reads' HO_7.out).2.2 x9_2 p370 q370
                      obtain rfl : ad356 = ad370 := (by injection e370)
                      replace p370 := eq_true p370
                      replace q370 := eq_true q370
                      have p371 : 0 ≤ (x9_2 : Int) := of_decide_eq_true (by first | (with_reducible assumption) | assumption)
                      have q371 : x9_2 < (t352.length : Int) := of_decide_eq_true (by first | (with_reducible assumption) | assumption)
                      obtain ⟨ad371, e371, hx371_0, hx371_1, hx371_2, hx371_3, hx371_4, hx371_5, hx371_6, hx371_7, hx371_8, hx371_9⟩ := at_T44 (Kd.V_reads' HO_7.out).2.2 x9_2 p371 q371
                      obtain rfl : ad356 = ad371 := (by injection e371)
                      replace p371 := eq_true p371
                      replace q371 := eq_true q371
                      have p372 : 0 ≤ (x9_2 : Int) := of_decide_eq_true (by first | (with_reducible assumption) | assumption)
                      have q372 : x9_2 < (t352.length : Int) := of_decide_eq_true (by first | (with_reducible assumption) | assumption)
                      obtain ⟨ad372, e372, hx372_0, hx372_1, hx372_2, hx372_3, hx372_4, hx372_5, hx372_6, hx372_7, hx372_8, hx372_9⟩ := at_T44 (Kd.V_reads' HO_7.out).2.2 x9_2 p372 q372
                      obtain rfl : ad356 = ad372 := (by injection e372)
                      replace p372 := eq_true p372
                      replace q372 := eq_true q372
                      go_wp2
                      repeat (go_quiet (fail); try go_wp2)
                      go_roundg kj32
                      case measure => have := HJ3.out; have := HK2.out; have := HK3.out; have := HJ32.out; omega
                      case rel => exact ⟨(wrap64 (x9_2 + 1)), (by first | rfl | (simp; done) | (simp [*]; done)), H', ⟨by have := HJ3.out; have := HK2.out; have := HK3.out; have := HJ32.out; omega⟩, ⟨by (with_reducible repeat (first | apply Kd.R_alloc | apply Kd.R_drewN | apply Kd.R_drew)); exact Kd.R_mono HO_5.out (fun _ hk => trivial)⟩, ⟨by (with_reducible repeat (first | apply Kd.V_alloc | apply Kd.V_drewN | apply Kd.V_drew)); exact Kd.V_mono HO_7.out (fun _ hk => trivial)⟩, ⟨by repeat (first | (with_reducible first | exact HB.out | apply lA | apply lN | apply lD | refine lS ?_ GE357.out) | exact HB.out)⟩⟩
                 ·rw [if_neg c47] at H
                  exact absurd H (by simp)
                ·rw [if_neg c46] at H
                 exact absurd H (by simp)
         ·rw [if_neg c24] at H
          exact absurd H (by simp)
        ·rw [if_neg c23] at H
         exact absurd H (by simp)
       ·rw [if_neg c22] at H
        have c22b0 : decide (x9_2 < (t345.length : Int)) = false := decide_eq_false c22
        clear c22
        obtain rfl := Option.some.inj H
        go_wp2
        repeat (go_quiet (fail); try go_wp2)
        go_ret
        exact ⟨by first | rfl | (simp [errW_none, errW_some] <;> rfl) | (simp [*, errW_none, errW_some] <;> rfl), by repeat (first | (with_reducible first | exact HB.out | apply lA | apply lN | apply lD) | exact HB.out)⟩
    ·rw [if_neg c18] at H
     have c18b0 : ((t352.length : Int) == (t345.length : Int)) = false := beq_eq_false_iff_ne.mpr c18
     have c18b1 : ((t352.length : Int) != (t345.length : Int)) = true := bne_iff_ne.mpr c18
     have c18b2 : (t352.length == t345.length) = false := by first | simpa using c18 | (simp at c18 ⊢; omega)
     exact absurd ((Option.some.inj H).trans HR.out) (by decide)

/-- THE ONE PURE STATEMENT of billiardlaw17_JacobiVelocities: yours. -/
def billiardlaw17_JacobiVelocities.Pure : Prop := ∀ (l0 : List (S44)) (l1 : List (S41)), (∀ x ∈ l0, Flat.WFB x) → (∀ x ∈ l1, Flat.WFC x) → ∃ k, billiardlaw17_JacobiVelocities.f k l0 l1 = some true
theorem billiardlaw17_JacobiVelocities.walk (P : billiardlaw17_JacobiVelocities.Pure) (a0 : Option Addr) (cap0 : Nat) (l0 : List (S44)) (a1 : Option Addr) (cap1 : Nat) (l1 : List (S41)) (w : World) (w0 : Kd.C k44 w a0 l0.length l0) (c0 : l0.length ≤ cap0) (m0 : ∀ x ∈ l0, Flat.WFB x) (w1 : Kd.C k41 w a1 l1.length l1) (c1 : l1.length ≤ cap1) (m1 : ∀ x ∈ l1, Flat.WFC x) :
  Calls Try.prog 5 #[.slice a0 l0.length cap0, .slice a1 l1.length cap1] w fun e w' => e = .returned (.bool true) ∧ Below w.heap.size w w' := by
 obtain ⟨k, h⟩ := P l0 l1 m0 m1
 refine (billiardlaw17_JacobiVelocities.calls k _ _ l0 _ _ l1 true w w0 c0 w1 c1 h rfl).mono ?_
 rintro e w' ⟨rfl, hd⟩
 exact ⟨rfl, hd⟩

end Go.Proofs.Ytcbdcgghccjdpaa.Q
