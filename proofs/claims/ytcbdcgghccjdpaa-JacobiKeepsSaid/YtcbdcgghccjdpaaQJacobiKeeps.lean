-- PRINTED by print.py (a twelfth state) out of the translation. Not trusted: Lean checks it.
import Derived.Test.YtcbdcgghccjdpaaQ0
import Derived.Test.YtcbdcgghccjdpaaMspec
import Derived.Test.YtcbdcgghccjdpaaQE1
import Derived.Test.YtcbdcgghccjdpaaQbilliardlaw17
import Derived.Test.YtcbdcgghccjdpaaQbilliardref06
import Derived.Test.YtcbdcgghccjdpaaQbilliardref11
import Derived.Test.YtcbdcgghccjdpaaQbilliardref17
import Derived.Test.YtcbdcgghccjdpaaQjacobi
import Derived.Test.YtcbdcgghccjdpaaMslice
namespace Go.Proofs.Ytcbdcgghccjdpaa.Q
open Go.RowKit Go.Proofs.YtcbdcgghccjdpaaW.PrintWords Go.Proofs.YtcbdcgghccjdpaaW.PrintLast Go.Proofs.YtcbdcgghccjdpaaW.PrintMore
open Go.Proofs.YtcbdcgghccjdpaaW.PrintWords renaming below_alloc → lA, pw_below_drewN → lN, below_drew1 → lD, below_set → lS, below_step → lT, below_size → lZ, Aside0.mk → aM
open List renaming setIfInBounds_toArray → sA, set_cons_zero → sB, set_cons_succ → sC
open Bool renaming true → T, false → F
attribute [local go_sem] max2_int min2_int max_two min_two max_three min_three max_four min_four   -- for this text's walks alone
set_option linter.unusedVariables false
set_option linter.unusedSimpArgs false

attribute [local go_sem high] eqA41
/-! ### billiardlaw17_JacobiKeeps: function 7 -/
-- IMPORT Derived.Test.YtcbdcgghccjdpaaMslice
mutual
def billiardlaw17_JacobiKeeps.j0 : Nat → List (S41) → List (S44) → Bool → Option (Bool)
 | 0, _, _, _ => none
 | k + 1, x1, x5, x29 => if x29 = true then ((billiardlaw17_awake.f k).bind fun t236 => (some t236)) else ((some (([] : List (S44)) : List (S44))).bind fun y237 => (if y237.length + x5.length < 3518437208883 then ((some (y237 ++ x5 : List (S44))).bind fun y240 => ((some (([] : List (S41)) : List (S41))).bind fun y243 => (if y243.length + x1.length < 7036874417766 then ((some (y243 ++ x1 : List (S41))).bind fun y246 => ((jacobi_Solve.f k y240 y246).bind fun bt249 => (billiardlaw17_JacobiKeeps.l0 k x1 x5 y240 y246 bt249.1 0))) else (none)))) else (none)))
def billiardlaw17_JacobiKeeps.l0 : Nat → List (S41) → List (S44) → List (S44) → List (S41) → List (S44) → Int → Option (Bool)
 | 0, _, _, _, _, _, _ => none
 | k + 1, x1, x5, x7, x8, x9, x11 => if x11 < (x9.length : Int) then (if 0 ≤ x11 then (billiardlaw17_JacobiKeeps.l0 k x1 x5 x7 x8 (x9.set (x11 : Int).toNat (⟨(rd_T44 x9 x11).f0, (-1), (⟨(rd_T44 x9 x11).f2.f0, (rd_T44 x9 x11).f2.f1⟩ : S39), (rd_T44 x9 x11).f3, (rd_T44 x9 x11).f4, (⟨(rd_T44 x9 x11).f5.f0, (rd_T44 x9 x11).f5.f1⟩ : S39), (⟨(rd_T44 x9 x11).f6.f0, (rd_T44 x9 x11).f6.f1⟩ : S39)⟩ : S44)) (wrap64 (x11 + 1))) else (none)) else (billiardlaw17_JacobiKeeps.l1 k x1 x5 x7 x8 0)
def billiardlaw17_JacobiKeeps.l1 : Nat → List (S41) → List (S44) → List (S44) → List (S41) → Int → Option (Bool)
 | 0, _, _, _, _, _ => none
 | k + 1, x1, x5, x7, x8, x12 => if x12 < (x1.length : Int) then (if 0 ≤ x12 then (if x12 < (x8.length : Int) then (if ((!(((rd_T41 x8 x12).f0.f0) == ((rd_T41 x1 x12).f0.f0)) || (!(((rd_T41 x8 x12).f0.f1) == ((rd_T41 x1 x12).f0.f1)))) || ((!(((rd_T41 x8 x12).f1.f0) == ((rd_T41 x1 x12).f1.f0)) || (!(((rd_T41 x8 x12).f1.f1) == ((rd_T41 x1 x12).f1.f1)))) || (!(((rd_T41 x8 x12).f2) == ((rd_T41 x1 x12).f2))))) = true then (some false) else (billiardlaw17_JacobiKeeps.l1 k x1 x5 x7 x8 (wrap64 (x12 + 1)))) else (none)) else (none)) else ((billiardref06_Same.f k x7 x5).bind fun t256 => (some t256))
end
def billiardlaw17_JacobiKeeps.f (k : Nat) (l0 : List (S44)) (l1 : List (S41)) : Option (Bool) := (billiardref11_View.f k l0).bind fun bt230 => ((billiardlaw17_awake.f k).bind fun t234 => (if t234 = true then (if bt230.2 = true then ((billiardref17_Right.f k bt230.1 l1).bind fun t235 => (billiardlaw17_JacobiKeeps.j0 k l1 bt230.1 (!t235))) else (billiardlaw17_JacobiKeeps.j0 k l1 bt230.1 true)) else (billiardlaw17_JacobiKeeps.j0 k l1 bt230.1 true)))
theorem billiardlaw17_JacobiKeeps.mono_l : ∀ k, (∀ y0 y1 y2, LeO (billiardlaw17_JacobiKeeps.j0 k y0 y1 y2) (billiardlaw17_JacobiKeeps.j0 (k + 1) y0 y1 y2)) ∧ (∀ y0 y1 y2 y3 y4 y5, LeO (billiardlaw17_JacobiKeeps.l0 k y0 y1 y2 y3 y4 y5) (billiardlaw17_JacobiKeeps.l0 (k + 1) y0 y1 y2 y3 y4 y5)) ∧ (∀ y0 y1 y2 y3 y4, LeO (billiardlaw17_JacobiKeeps.l1 k y0 y1 y2 y3 y4) (billiardlaw17_JacobiKeeps.l1 (k + 1) y0 y1 y2 y3 y4))
 | 0 => ⟨fun _ _ _ r h => by simp [billiardlaw17_JacobiKeeps.j0] at h, fun _ _ _ _ _ _ r h => by simp [billiardlaw17_JacobiKeeps.l0] at h, fun _ _ _ _ _ r h => by simp [billiardlaw17_JacobiKeeps.l1] at h⟩
 | k + 1 => by
  obtain ⟨ih0, ih1, ih2⟩ := billiardlaw17_JacobiKeeps.mono_l k
  refine ⟨?_, ?_, ?_⟩
  ·intro y0 y1 y2
   unfold billiardlaw17_JacobiKeeps.j0
   repeat' first
   | (with_reducible exact ih0 _ _ _)
   | (with_reducible exact ih1 _ _ _ _ _ _)
   | (with_reducible exact ih2 _ _ _ _ _)
   | (with_reducible exact billiardlaw17_awake.mono _)
   | (with_reducible exact billiardref06_Same.mono _ _ _)
   | (with_reducible exact billiardref11_View.mono _ _)
   | (with_reducible exact billiardref17_Right.mono _ _ _)
   | (with_reducible exact jacobi_Solve.mono _ _ _)
   | (with_reducible exact LeO.refl _)
   | (with_reducible exact LeO.none _)
   | (with_reducible refine LeO.ite ?_ ?_)
   | (with_reducible refine LeO.bind ?_ (fun _ => ?_))
   | exact ih0 _ _ _
   | exact ih1 _ _ _ _ _ _
   | exact ih2 _ _ _ _ _
   | exact billiardlaw17_awake.mono _
   | exact billiardref06_Same.mono _ _ _
   | exact billiardref11_View.mono _ _
   | exact billiardref17_Right.mono _ _ _
   | exact jacobi_Solve.mono _ _ _
   | exact LeO.none _
   | refine LeO.ite ?_ ?_
   | refine LeO.bind ?_ (fun _ => ?_)
  ·intro y0 y1 y2 y3 y4 y5
   unfold billiardlaw17_JacobiKeeps.l0
   repeat' first
   | (with_reducible exact ih0 _ _ _)
   | (with_reducible exact ih1 _ _ _ _ _ _)
   | (with_reducible exact ih2 _ _ _ _ _)
   | (with_reducible exact billiardlaw17_awake.mono _)
   | (with_reducible exact billiardref06_Same.mono _ _ _)
   | (with_reducible exact billiardref11_View.mono _ _)
   | (with_reducible exact billiardref17_Right.mono _ _ _)
   | (with_reducible exact jacobi_Solve.mono _ _ _)
   | (with_reducible exact LeO.refl _)
   | (with_reducible exact LeO.none _)
   | (with_reducible refine LeO.ite ?_ ?_)
   | (with_reducible refine LeO.bind ?_ (fun _ => ?_))
   | exact ih0 _ _ _
   | exact ih1 _ _ _ _ _ _
   | exact ih2 _ _ _ _ _
   | exact billiardlaw17_awake.mono _
   | exact billiardref06_Same.mono _ _ _
   | exact billiardref11_View.mono _ _
   | exact billiardref17_Right.mono _ _ _
   | exact jacobi_Solve.mono _ _ _
   | exact LeO.none _
   | refine LeO.ite ?_ ?_
   | refine LeO.bind ?_ (fun _ => ?_)
  ·intro y0 y1 y2 y3 y4
   unfold billiardlaw17_JacobiKeeps.l1
   repeat' first
   | (with_reducible exact ih0 _ _ _)
   | (with_reducible exact ih1 _ _ _ _ _ _)
   | (with_reducible exact ih2 _ _ _ _ _)
   | (with_reducible exact billiardlaw17_awake.mono _)
   | (with_reducible exact billiardref06_Same.mono _ _ _)
   | (with_reducible exact billiardref11_View.mono _ _)
   | (with_reducible exact billiardref17_Right.mono _ _ _)
   | (with_reducible exact jacobi_Solve.mono _ _ _)
   | (with_reducible exact LeO.refl _)
   | (with_reducible exact LeO.none _)
   | (with_reducible refine LeO.ite ?_ ?_)
   | (with_reducible refine LeO.bind ?_ (fun _ => ?_))
   | exact ih0 _ _ _
   | exact ih1 _ _ _ _ _ _
   | exact ih2 _ _ _ _ _
   | exact billiardlaw17_awake.mono _
   | exact billiardref06_Same.mono _ _ _
   | exact billiardref11_View.mono _ _
   | exact billiardref17_Right.mono _ _ _
   | exact jacobi_Solve.mono _ _ _
   | exact LeO.none _
   | refine LeO.ite ?_ ?_
   | refine LeO.bind ?_ (fun _ => ?_)
theorem billiardlaw17_JacobiKeeps.mono : ∀ a0 a1 k, LeO (billiardlaw17_JacobiKeeps.f k a0 a1) (billiardlaw17_JacobiKeeps.f (k + 1) a0 a1) := by
 intro a0 a1 k
 obtain ⟨ih0, ih1, ih2⟩ := billiardlaw17_JacobiKeeps.mono_l k
 unfold billiardlaw17_JacobiKeeps.f
 repeat' first
   | (with_reducible exact ih0 _ _ _)
   | (with_reducible exact ih1 _ _ _ _ _ _)
   | (with_reducible exact ih2 _ _ _ _ _)
   | (with_reducible exact billiardlaw17_awake.mono _)
   | (with_reducible exact billiardref06_Same.mono _ _ _)
   | (with_reducible exact billiardref11_View.mono _ _)
   | (with_reducible exact billiardref17_Right.mono _ _ _)
   | (with_reducible exact jacobi_Solve.mono _ _ _)
   | (with_reducible exact LeO.refl _)
   | (with_reducible exact LeO.none _)
   | (with_reducible refine LeO.ite ?_ ?_)
   | (with_reducible refine LeO.bind ?_ (fun _ => ?_))
   | exact ih0 _ _ _
   | exact ih1 _ _ _ _ _ _
   | exact ih2 _ _ _ _ _
   | exact billiardlaw17_awake.mono _
   | exact billiardref06_Same.mono _ _ _
   | exact billiardref11_View.mono _ _
   | exact billiardref17_Right.mono _ _ _
   | exact jacobi_Solve.mono _ _ _
   | exact LeO.none _
   | refine LeO.ite ?_ ?_
   | refine LeO.bind ?_ (fun _ => ?_)
set_option maxHeartbeats 8000000 in
set_option maxRecDepth 100000 in
theorem billiardlaw17_JacobiKeeps.calls (k : Nat) (A0 : Option Addr) (c0 : Nat) (l0 : List (S44)) (A1 : Option Addr) (c1 : Nat) (l1 : List (S41)) (r : Bool) (w : World) (hr0 : Kd.C k44 w A0 l0.length l0) (hc0 : l0.length ≤ c0) (hr1 : Kd.C k41 w A1 l1.length l1) (hc1 : l1.length ≤ c1) (h : billiardlaw17_JacobiKeeps.f k l0 l1 = some r) (hr : r = true) :
  Calls Try.prog 7 #[.slice A0 l0.length c0, .slice A1 l1.length c1] w fun e w' => e = .returned (.bool r) ∧ Below w.heap.size w w' := by
 have HR := aM hr
 clear hr
 have hu41 := Try.underlying41
 have HR0 := aM hr0
 have HC0 := aM hc0
 clear hr0 hc0
 have HR1 := aM hr1
 have HC1 := aM hc1
 clear hr1 hc1
 have HB := aM (Below.refl w.heap.size w)
 have H : ((billiardref11_View.f k l0).bind fun bt230 => ((billiardlaw17_awake.f k).bind fun t234 => (if t234 = true then (if bt230.2 = true then ((billiardref17_Right.f k bt230.1 l1).bind fun t235 => (billiardlaw17_JacobiKeeps.j0 k l1 bt230.1 (!t235))) else (billiardlaw17_JacobiKeeps.j0 k l1 bt230.1 true)) else (billiardlaw17_JacobiKeeps.j0 k l1 bt230.1 true)))) = some r := h
 clear h
 replace H := Option.bind_eq_some_iff.mp H
 obtain ⟨⟨t230, t231⟩, A30, H⟩ := H
 try dsimp only at H
 have A3 := aM A30
 clear A30
 have HC4 := aM H
 clear H
 go_enter Try.func7, Try.ntmps7
 go_upto_region 2 with (first | (go_at_call 8; (with_reducible refine (billiardref11_View.calls k _ _ l0 t230 t231 _ ?side1 ?side2 A3.out).mono ?_); (case side1 => repeat (first | exact HR0.out | (with_reducible refine Kd.C_alloc ?_ _) | (with_reducible refine Kd.C_drewN ?_ _) | (with_reducible refine Kd.C_drew ?_))); (case side2 => exact HC0.out); rintro e w5 ⟨v232, rfl, ho0, hb⟩; have n0_ := aM (Kd.R_lower ho0 (lZ (by repeat (first | (with_reducible first | exact HB.out | apply lA | apply lN | apply lD) | exact HB.out)))); have n1_ := aM (lT (by repeat (first | (with_reducible first | exact HB.out | apply lA | apply lN | apply lD) | exact HB.out)) hb); clear HB; have HO233 := n0_; have HB := n1_; clear n0_ n1_; (try clear hb); (try clear hb2); (try clear hk); (try clear hi); (try clear ho0)))
 repeat (go_quiet (first | (go_at_call 8; (with_reducible refine (billiardref11_View.calls k _ _ l0 t230 t231 _ ?side1 ?side2 A3.out).mono ?_); (case side1 => repeat (first | exact HR0.out | (with_reducible refine Kd.C_alloc ?_ _) | (with_reducible refine Kd.C_drewN ?_ _) | (with_reducible refine Kd.C_drew ?_))); (case side2 => exact HC0.out); rintro e w5 ⟨v232, rfl, ho0, hb⟩; have n0_ := aM (Kd.R_lower ho0 (lZ (by repeat (first | (with_reducible first | exact HB.out | apply lA | apply lN | apply lD) | exact HB.out)))); have n1_ := aM (lT (by repeat (first | (with_reducible first | exact HB.out | apply lA | apply lN | apply lD) | exact HB.out)) hb); clear HB; have HO233 := n0_; have HB := n1_; clear n0_ n1_; (try clear hb); (try clear hb2); (try clear hk); (try clear hi); (try clear ho0))); go_upto_region 2 with (first | (go_at_call 8; (with_reducible refine (billiardref11_View.calls k _ _ l0 t230 t231 _ ?side1 ?side2 A3.out).mono ?_); (case side1 => repeat (first | exact HR0.out | (with_reducible refine Kd.C_alloc ?_ _) | (with_reducible refine Kd.C_drewN ?_ _) | (with_reducible refine Kd.C_drew ?_))); (case side2 => exact HC0.out); rintro e w5 ⟨v232, rfl, ho0, hb⟩; have n0_ := aM (Kd.R_lower ho0 (lZ (by repeat (first | (with_reducible first | exact HB.out | apply lA | apply lN | apply lD) | exact HB.out)))); have n1_ := aM (lT (by repeat (first | (with_reducible first | exact HB.out | apply lA | apply lN | apply lD) | exact HB.out)) hb); clear HB; have HO233 := n0_; have HB := n1_; clear n0_ n1_; (try clear hb); (try clear hb2); (try clear hk); (try clear hi); (try clear ho0))))
 (try simp only [Act.put, sA, sB, sC])
 go_cut [29] (fun v29 wc => ∃ (kq : Nat) (x29_3 : Bool), v29 = .bool x29_3 ∧ Aside0 (billiardlaw17_JacobiKeeps.j0 kq l1 t230 x29_3 = some r) ∧ Aside0 (kq ≤ k) ∧ Aside0 (Kd.R k44 44 wc w.heap.size (fun _ => True) v232 t230) ∧ Aside0 (Below w.heap.size w wc))
 case first =>
  have H := HC4.out
  clear HC4
  replace H := Option.bind_eq_some_iff.mp H
  obtain ⟨t234, A60, H⟩ := H
  try dsimp only at H
  have A6 := aM A60
  clear A60
  by_cases c7 : t234 = true
  ·subst c7
   rw [if_pos rfl] at H
   by_cases c8 : t231 = true
   ·subst c8
    rw [if_pos rfl] at H
    replace H := Option.bind_eq_some_iff.mp H
    obtain ⟨t235, A90, H⟩ := H
    try dsimp only at H
    have A9 := aM A90
    clear A90
    have H' := aM H
    clear H
    go_wp2_with (first | (go_at_call 9; (with_reducible refine (billiardlaw17_awake.calls k  true _ A6.out).mono ?_); rintro e w10 ⟨rfl, hb⟩; have n0_ := aM (Kd.R_below (by (with_reducible repeat (first | apply Kd.R_alloc | apply Kd.R_drewN | apply Kd.R_drew)); exact HO233.out) hb); have n1_ := aM (lT (by repeat (first | (with_reducible first | exact HB.out | apply lA | apply lN | apply lD) | exact HB.out)) hb); clear HO233; clear HB; have HO233 := n0_; have HB := n1_; clear n0_ n1_; (try clear hb); (try clear hb2); (try clear hk); (try clear hi); obtain ⟨Ao11, co11, eo11⟩ := Kd.R_slice HO233.out; subst eo11) | (go_at_call 10; (with_reducible refine (billiardref17_Right.calls k _ _ t230 _ _ l1 t235 _ ?side1 ?side2 ?side3 ?side4 A9.out).mono ?_); (case side1 => repeat (first | exact (Kd.R_reads' HO233.out).2.2 | (with_reducible refine Kd.C_alloc ?_ _) | (with_reducible refine Kd.C_drewN ?_ _) | (with_reducible refine Kd.C_drew ?_))); (case side2 => exact (Kd.R_reads' HO233.out).2.1); (case side3 => repeat (first | exact (Kd.C_below HR1.out HB.out) | (with_reducible refine Kd.C_alloc ?_ _) | (with_reducible refine Kd.C_drewN ?_ _) | (with_reducible refine Kd.C_drew ?_))); (case side4 => exact HC1.out); rintro e w12 ⟨rfl, hb⟩; have n0_ := aM (Kd.R_below (by (with_reducible repeat (first | apply Kd.R_alloc | apply Kd.R_drewN | apply Kd.R_drew)); exact HO233.out) hb); have n1_ := aM (lT (by repeat (first | (with_reducible first | exact HB.out | apply lA | apply lN | apply lD) | exact HB.out)) hb); clear HO233; clear HB; have HO233 := n0_; have HB := n1_; clear n0_ n1_; (try clear hb); (try clear hb2); (try clear hk); (try clear hi)))
    repeat (go_quiet (first | (go_at_call 9; (with_reducible refine (billiardlaw17_awake.calls k  true _ A6.out).mono ?_); rintro e w10 ⟨rfl, hb⟩; have n0_ := aM (Kd.R_below (by (with_reducible repeat (first | apply Kd.R_alloc | apply Kd.R_drewN | apply Kd.R_drew)); exact HO233.out) hb); have n1_ := aM (lT (by repeat (first | (with_reducible first | exact HB.out | apply lA | apply lN | apply lD) | exact HB.out)) hb); clear HO233; clear HB; have HO233 := n0_; have HB := n1_; clear n0_ n1_; (try clear hb); (try clear hb2); (try clear hk); (try clear hi); obtain ⟨Ao11, co11, eo11⟩ := Kd.R_slice HO233.out; subst eo11) | (go_at_call 10; (with_reducible refine (billiardref17_Right.calls k _ _ t230 _ _ l1 t235 _ ?side1 ?side2 ?side3 ?side4 A9.out).mono ?_); (case side1 => repeat (first | exact (Kd.R_reads' HO233.out).2.2 | (with_reducible refine Kd.C_alloc ?_ _) | (with_reducible refine Kd.C_drewN ?_ _) | (with_reducible refine Kd.C_drew ?_))); (case side2 => exact (Kd.R_reads' HO233.out).2.1); (case side3 => repeat (first | exact (Kd.C_below HR1.out HB.out) | (with_reducible refine Kd.C_alloc ?_ _) | (with_reducible refine Kd.C_drewN ?_ _) | (with_reducible refine Kd.C_drew ?_))); (case side4 => exact HC1.out); rintro e w12 ⟨rfl, hb⟩; have n0_ := aM (Kd.R_below (by (with_reducible repeat (first | apply Kd.R_alloc | apply Kd.R_drewN | apply Kd.R_drew)); exact HO233.out) hb); have n1_ := aM (lT (by repeat (first | (with_reducible first | exact HB.out | apply lA | apply lN | apply lD) | exact HB.out)) hb); clear HO233; clear HB; have HO233 := n0_; have HB := n1_; clear n0_ n1_; (try clear hb); (try clear hb2); (try clear hk); (try clear hi))); try go_wp2_with (first | (go_at_call 9; (with_reducible refine (billiardlaw17_awake.calls k  true _ A6.out).mono ?_); rintro e w10 ⟨rfl, hb⟩; have n0_ := aM (Kd.R_below (by (with_reducible repeat (first | apply Kd.R_alloc | apply Kd.R_drewN | apply Kd.R_drew)); exact HO233.out) hb); have n1_ := aM (lT (by repeat (first | (with_reducible first | exact HB.out | apply lA | apply lN | apply lD) | exact HB.out)) hb); clear HO233; clear HB; have HO233 := n0_; have HB := n1_; clear n0_ n1_; (try clear hb); (try clear hb2); (try clear hk); (try clear hi); obtain ⟨Ao11, co11, eo11⟩ := Kd.R_slice HO233.out; subst eo11) | (go_at_call 10; (with_reducible refine (billiardref17_Right.calls k _ _ t230 _ _ l1 t235 _ ?side1 ?side2 ?side3 ?side4 A9.out).mono ?_); (case side1 => repeat (first | exact (Kd.R_reads' HO233.out).2.2 | (with_reducible refine Kd.C_alloc ?_ _) | (with_reducible refine Kd.C_drewN ?_ _) | (with_reducible refine Kd.C_drew ?_))); (case side2 => exact (Kd.R_reads' HO233.out).2.1); (case side3 => repeat (first | exact (Kd.C_below HR1.out HB.out) | (with_reducible refine Kd.C_alloc ?_ _) | (with_reducible refine Kd.C_drewN ?_ _) | (with_reducible refine Kd.C_drew ?_))); (case side4 => exact HC1.out); rintro e w12 ⟨rfl, hb⟩; have n0_ := aM (Kd.R_below (by (with_reducible repeat (first | apply Kd.R_alloc | apply Kd.R_drewN | apply Kd.R_drew)); exact HO233.out) hb); have n1_ := aM (lT (by repeat (first | (with_reducible first | exact HB.out | apply lA | apply lN | apply lD) | exact HB.out)) hb); clear HO233; clear HB; have HO233 := n0_; have HB := n1_; clear n0_ n1_; (try clear hb); (try clear hb2); (try clear hk); (try clear hi))))
    go_meet
    case rel => exact ⟨_, (!t235), (by first | rfl | (simp; done) | (simp [*]; done)), H', ⟨by first | omega | exact Nat.le_refl _⟩, ⟨by (with_reducible repeat (first | apply Kd.R_alloc | apply Kd.R_drewN | apply Kd.R_drew)); exact HO233.out⟩, ⟨by repeat (first | (with_reducible first | exact HB.out | apply lA | apply lN | apply lD) | exact HB.out)⟩⟩
   ·replace c8 := Bool.eq_false_iff.mpr c8
    subst c8
    rw [if_neg (show ¬ (false = true) by decide)] at H
    have H' := aM H
    clear H
    go_wp2_with (first | (go_at_call 9; (with_reducible refine (billiardlaw17_awake.calls k  true _ A6.out).mono ?_); rintro e w13 ⟨rfl, hb⟩; have n0_ := aM (Kd.R_below (by (with_reducible repeat (first | apply Kd.R_alloc | apply Kd.R_drewN | apply Kd.R_drew)); exact HO233.out) hb); have n1_ := aM (lT (by repeat (first | (with_reducible first | exact HB.out | apply lA | apply lN | apply lD) | exact HB.out)) hb); clear HO233; clear HB; have HO233 := n0_; have HB := n1_; clear n0_ n1_; (try clear hb); (try clear hb2); (try clear hk); (try clear hi)))
    repeat (go_quiet (first | (go_at_call 9; (with_reducible refine (billiardlaw17_awake.calls k  true _ A6.out).mono ?_); rintro e w13 ⟨rfl, hb⟩; have n0_ := aM (Kd.R_below (by (with_reducible repeat (first | apply Kd.R_alloc | apply Kd.R_drewN | apply Kd.R_drew)); exact HO233.out) hb); have n1_ := aM (lT (by repeat (first | (with_reducible first | exact HB.out | apply lA | apply lN | apply lD) | exact HB.out)) hb); clear HO233; clear HB; have HO233 := n0_; have HB := n1_; clear n0_ n1_; (try clear hb); (try clear hb2); (try clear hk); (try clear hi))); try go_wp2_with (first | (go_at_call 9; (with_reducible refine (billiardlaw17_awake.calls k  true _ A6.out).mono ?_); rintro e w13 ⟨rfl, hb⟩; have n0_ := aM (Kd.R_below (by (with_reducible repeat (first | apply Kd.R_alloc | apply Kd.R_drewN | apply Kd.R_drew)); exact HO233.out) hb); have n1_ := aM (lT (by repeat (first | (with_reducible first | exact HB.out | apply lA | apply lN | apply lD) | exact HB.out)) hb); clear HO233; clear HB; have HO233 := n0_; have HB := n1_; clear n0_ n1_; (try clear hb); (try clear hb2); (try clear hk); (try clear hi))))
    go_meet
    case rel => exact ⟨_, (true), (by first | rfl | (simp; done) | (simp [*]; done)), H', ⟨by first | omega | exact Nat.le_refl _⟩, ⟨by (with_reducible repeat (first | apply Kd.R_alloc | apply Kd.R_drewN | apply Kd.R_drew)); exact HO233.out⟩, ⟨by repeat (first | (with_reducible first | exact HB.out | apply lA | apply lN | apply lD) | exact HB.out)⟩⟩
  ·replace c7 := Bool.eq_false_iff.mpr c7
   subst c7
   exact absurd (billiardlaw17_awake.only A6.out) (by decide)
 case rest =>
  clear HC4
  try clear c1
  try clear p2
  try clear c7
  try clear c8
  obtain ⟨kq, x29_3, rfl, HA, HJ3, HO_5, HB⟩ := hcut
  cases kq with
  | zero => exact absurd HA.out (by simp [billiardlaw17_JacobiKeeps.j0])
  | succ kj3 =>
   have H := HA.out
   clear HA
   simp only [billiardlaw17_JacobiKeeps.j0] at H
   by_cases c14 : x29_3 = true
   ·subst c14
    rw [if_pos rfl] at H
    replace H := Option.bind_eq_some_iff.mp H
    obtain ⟨t236, A150, H⟩ := H
    try dsimp only at H
    have A15 := aM A150
    clear A150
    obtain rfl := Option.some.inj H
    go_wp2_with (first | (go_at_call 9; (with_reducible refine (billiardlaw17_awake.calls kj3  t236 _ A15.out).mono ?_); rintro e w16 ⟨rfl, hb⟩; have n0_ := aM (Kd.R_below (by (with_reducible repeat (first | apply Kd.R_alloc | apply Kd.R_drewN | apply Kd.R_drew)); exact HO_5.out) hb); have n1_ := aM (lT (by repeat (first | (with_reducible first | exact HB.out | apply lA | apply lN | apply lD) | exact HB.out)) hb); clear HO_5; clear HB; have HO_5 := n0_; have HB := n1_; clear n0_ n1_; (try clear hb); (try clear hb2); (try clear hk); (try clear hi)))
    repeat (go_quiet (first | (go_at_call 9; (with_reducible refine (billiardlaw17_awake.calls kj3  t236 _ A15.out).mono ?_); rintro e w16 ⟨rfl, hb⟩; have n0_ := aM (Kd.R_below (by (with_reducible repeat (first | apply Kd.R_alloc | apply Kd.R_drewN | apply Kd.R_drew)); exact HO_5.out) hb); have n1_ := aM (lT (by repeat (first | (with_reducible first | exact HB.out | apply lA | apply lN | apply lD) | exact HB.out)) hb); clear HO_5; clear HB; have HO_5 := n0_; have HB := n1_; clear n0_ n1_; (try clear hb); (try clear hb2); (try clear hk); (try clear hi))); try go_wp2_with (first | (go_at_call 9; (with_reducible refine (billiardlaw17_awake.calls kj3  t236 _ A15.out).mono ?_); rintro e w16 ⟨rfl, hb⟩; have n0_ := aM (Kd.R_below (by (with_reducible repeat (first | apply Kd.R_alloc | apply Kd.R_drewN | apply Kd.R_drew)); exact HO_5.out) hb); have n1_ := aM (lT (by repeat (first | (with_reducible first | exact HB.out | apply lA | apply lN | apply lD) | exact HB.out)) hb); clear HO_5; clear HB; have HO_5 := n0_; have HB := n1_; clear n0_ n1_; (try clear hb); (try clear hb2); (try clear hk); (try clear hi))))
    go_ret
    exact ⟨by first | rfl | (simp [errW_none, errW_some] <;> rfl) | (simp [*, errW_none, errW_some] <;> rfl), by repeat (first | (with_reducible first | exact HB.out | apply lA | apply lN | apply lD) | exact HB.out)⟩
   ·replace c14 := Bool.eq_false_iff.mpr c14
    subst c14
    rw [if_neg (show ¬ (false = true) by decide)] at H
    obtain ⟨y237, hy237⟩ : ∃ y_ : List (S44), y_ = (([] : List (S44))) := ⟨_, rfl⟩
    replace H : (if y237.length + t230.length < 3518437208883 then ((some (y237 ++ t230 : List (S44))).bind fun y240 => ((some (([] : List (S41)) : List (S41))).bind fun y243 => (if y243.length + l1.length < 7036874417766 then ((some (y243 ++ l1 : List (S41))).bind fun y246 => ((jacobi_Solve.f kj3 y240 y246).bind fun bt249 => (billiardlaw17_JacobiKeeps.l0 kj3 l1 t230 y240 y246 bt249.1 0))) else (none)))) else (none)) = some r := by first | (rw [hy237]; with_reducible exact H) | (have H2_ := (Option.bind_some _ _).symm.trans H; rw [hy237]; with_reducible exact H2_) | (have H2_ := (Option.bind_some _ _).symm.trans H; with_reducible exact H2_) | with_reducible exact H | (rw [hy237]; exact H) | exact H
    have Ny237 := aM hy237
    clear hy237
    by_cases c17 : y237.length + t230.length < 3518437208883
    ·rw [if_pos c17] at H
     have LMc17 := aM c17
     clear c17
     obtain ⟨y240, hy240⟩ : ∃ y_ : List (S44), y_ = (y237 ++ t230) := ⟨_, rfl⟩
     replace H : ((some (([] : List (S41)) : List (S41))).bind fun y243 => (if y243.length + l1.length < 7036874417766 then ((some (y243 ++ l1 : List (S41))).bind fun y246 => ((jacobi_Solve.f kj3 y240 y246).bind fun bt249 => (billiardlaw17_JacobiKeeps.l0 kj3 l1 t230 y240 y246 bt249.1 0))) else (none))) = some r := by first | (rw [hy240]; with_reducible exact H) | (have H2_ := (Option.bind_some _ _).symm.trans H; rw [hy240]; with_reducible exact H2_) | (have H2_ := (Option.bind_some _ _).symm.trans H; with_reducible exact H2_) | with_reducible exact H | (rw [hy240]; exact H) | exact H
     have Ny240 := aM hy240
     clear hy240
     obtain ⟨y243, hy243⟩ : ∃ y_ : List (S41), y_ = (([] : List (S41))) := ⟨_, rfl⟩
     replace H : (if y243.length + l1.length < 7036874417766 then ((some (y243 ++ l1 : List (S41))).bind fun y246 => ((jacobi_Solve.f kj3 y240 y246).bind fun bt249 => (billiardlaw17_JacobiKeeps.l0 kj3 l1 t230 y240 y246 bt249.1 0))) else (none)) = some r := by first | (rw [hy243]; with_reducible exact H) | (have H2_ := (Option.bind_some _ _).symm.trans H; rw [hy243]; with_reducible exact H2_) | (have H2_ := (Option.bind_some _ _).symm.trans H; with_reducible exact H2_) | with_reducible exact H | (rw [hy243]; exact H) | exact H
     have Ny243 := aM hy243
     clear hy243
     by_cases c18 : y243.length + l1.length < 7036874417766
     ·rw [if_pos c18] at H
      have LMc18 := aM c18
      clear c18
      obtain ⟨y246, hy246⟩ : ∃ y_ : List (S41), y_ = (y243 ++ l1) := ⟨_, rfl⟩
      replace H : ((jacobi_Solve.f kj3 y240 y246).bind fun bt249 => (billiardlaw17_JacobiKeeps.l0 kj3 l1 t230 y240 y246 bt249.1 0)) = some r := by first | (rw [hy246]; with_reducible exact H) | (have H2_ := (Option.bind_some _ _).symm.trans H; rw [hy246]; with_reducible exact H2_) | (have H2_ := (Option.bind_some _ _).symm.trans H; with_reducible exact H2_) | with_reducible exact H | (rw [hy246]; exact H) | exact H
      have Ny246 := aM hy246
      clear hy246
      replace H := Option.bind_eq_some_iff.mp H
      obtain ⟨⟨t249, t250⟩, A190, H⟩ := H
      try dsimp only at H
      have A19 := aM A190
      clear A190
      have H' := aM H
      clear H
      go_wp2_with (first | ((with_reducible refine gate_dst (N := 31) rfl ?_); refine Kd.R_lit k44 _ 44 ?hg (N := 31) ?hd (xs := ([] : List (S44))) (inner := []) (ok := fun _ => True) (okp := fun _ => True) ?hr ?hp (fun _ hk => hk) trivial (Below.refl _ _) (Nat.le_refl _) (by simp) ?_; (case hd => rfl); (case hg => rfl); (case hr => first | (go_simp; done) | (go_simp; rfl)); (case hp => exact (Reps.none _ _)); intro v238 w20 ho21 hb hg_ hnew_; clear hg_ hnew_; (first | rw [← Ny237.out] at ho21 | (simp only [Int.reduceToNat] at ho21; rw [← Ny237.out] at ho21)); have n0_ := aM (Kd.R_elder' (by (with_reducible repeat (first | apply Kd.R_alloc | apply Kd.R_drewN | apply Kd.R_drew)); exact HO_5.out) (Kd.R_base ho21) hb); have n1_ := aM (Kd.R_lower (Kd.R_new' ho21 (Kd.R_lt (by (with_reducible repeat (first | apply Kd.R_alloc | apply Kd.R_drewN | apply Kd.R_drew)); exact HO_5.out))) (lZ (by repeat (first | (with_reducible first | exact HB.out | apply lA | apply lN | apply lD) | exact HB.out)))); have n2_ := aM (lT (by repeat (first | (with_reducible first | exact HB.out | apply lA | apply lN | apply lD) | exact HB.out)) hb); clear HO_5; clear HB; have HO_5 := n0_; have HO239 := n1_; have HB := n2_; clear n0_ n1_ n2_; clear hb ho21; obtain ⟨Ao23, co23, eo23⟩ := Kd.R_slice HO_5.out; subst eo23) | ((with_reducible refine gate_builtin (b := .append) (xs := #[.tmp 31, .tmp 32]) rfl ?_); at_builtin; refine Kd.R_append_rows k44 (w0 := w) w.heap.size rfl (.tmp 31) (.tmp 32) 22 44 (.agg #[(.int .u32 0), (.int .i32 0), (.int .i32 0), (.int .i32 0), (.int .i32 0), (.int .i32 0), (.int .i32 0), (.int .i32 0), (.int .i32 0), (.int .i32 0)]) 40 rfl Try.underlying22 info44 rfl (by decide) (by omega) v238 y237 t230 _ _ _ (fun k_ => some k_ ≠ (.slice Ao23 t230.length co23 : Value).ownBlock) (fun _ => False) rfl rfl ?aO ?aR (fun _ _ h => h) (fun _ h => h.elim) ?aF ?aB ?aS ?aL ?_; (case aR => repeat (first | exact (Kd.R_reads' HO_5.out).2.2 | (with_reducible refine Kd.C_alloc ?_ _) | (with_reducible refine Kd.C_drewN ?_ _) | (with_reducible refine Kd.C_drew ?_))); (case aB => exact (by repeat (first | (with_reducible first | exact HB.out | apply lA | apply lN | apply lD) | exact HB.out))); (case aF => exact (fun k_ hk => Kd.fresh' (Kd.R_lt (by (with_reducible repeat (first | apply Kd.R_alloc | apply Kd.R_drewN | apply Kd.R_drew)); exact HO_5.out)) k_ hk)); (case aO => exact (by (with_reducible repeat (first | apply Kd.R_alloc | apply Kd.R_drewN | apply Kd.R_drew)); exact Kd.R_mono HO239.out (fun _ hk => hk.2))); (case aS => exact (lZ (by repeat (first | (with_reducible first | exact HB.out | apply lA | apply lN | apply lD) | exact HB.out)))); (case aL => have := LMc17.out; omega); intro v241 w22 ho hb hg hat; rw [← Ny240.out] at ho; have n0_ := aM (Kd.R_after (ok := (fun _ => True)) (by (with_reducible repeat (first | apply Kd.R_alloc | apply Kd.R_drewN | apply Kd.R_drew)); exact HO_5.out) hg hat); have n1_ := aM (hb); have n2_ := aM (ho); clear HO_5; clear HB; clear HO239; have HO_5 := n0_; have HB := n1_; have HO242 := n2_; clear n0_ n1_ n2_; clear ho hb hg hat) | ((with_reducible refine gate_dst (N := 34) rfl ?_); refine Kd.R_lit k41 _ 41 ?hg (N := 34) ?hd (xs := ([] : List (S41))) (inner := []) (ok := fun _ => True) (okp := fun _ => True) ?hr ?hp (fun _ hk => hk) trivial (Below.refl _ _) (Nat.le_refl _) (by simp) ?_; (case hd => rfl); (case hg => rfl); (case hr => first | (go_simp; done) | (go_simp; rfl)); (case hp => exact (Reps.none _ _)); intro v244 w24 ho25 hb hg_ hnew_; clear hg_ hnew_; (first | rw [← Ny243.out] at ho25 | (simp only [Int.reduceToNat] at ho25; rw [← Ny243.out] at ho25)); have n0_ := aM (Kd.R_below (by (with_reducible repeat (first | apply Kd.R_alloc | apply Kd.R_drewN | apply Kd.R_drew)); exact HO_5.out) hb); have n1_ := aM (Kd.R_below (by (with_reducible repeat (first | apply Kd.R_alloc | apply Kd.R_drewN | apply Kd.R_drew)); exact HO242.out) hb); have n2_ := aM (Kd.R_lower ho25 (lZ (by repeat (first | (with_reducible first | exact HB.out | apply lA | apply lN | apply lD) | exact HB.out)))); have n3_ := aM (lT (by repeat (first | (with_reducible first | exact HB.out | apply lA | apply lN | apply lD) | exact HB.out)) hb); clear HO_5; clear HO242; clear HB; have HO_5 := n0_; have HO242 := n1_; have HO245 := n2_; have HB := n3_; clear n0_ n1_ n2_ n3_; clear hb ho25) | ((with_reducible refine gate_builtin (b := .append) (xs := #[.tmp 34, .tmp 35]) rfl ?_); at_builtin; refine Kd.R_append_rows k41 (w0 := w) w.heap.size rfl (.tmp 34) (.tmp 35) 23 41 (.agg #[(.int .u32 0), (.int .u32 0), (.int .i32 0), (.int .i32 0), (.int .i32 0)]) 20 rfl Try.underlying23 info41 rfl (by decide) (by omega) v244 y243 l1 _ _ _ (fun _ => True) (fun _ => False) rfl rfl ?aO ?aR (fun _ _ h => h) (fun _ h => h.elim) ?aF ?aB ?aS ?aL ?_; (case aR => repeat (first | exact (Kd.C_below HR1.out HB.out) | (with_reducible refine Kd.C_alloc ?_ _) | (with_reducible refine Kd.C_drewN ?_ _) | (with_reducible refine Kd.C_drew ?_))); (case aB => exact (by repeat (first | (with_reducible first | exact HB.out | apply lA | apply lN | apply lD) | exact HB.out))); (case aF => exact (fun _ _ => trivial)); (case aO => exact (by (with_reducible repeat (first | apply Kd.R_alloc | apply Kd.R_drewN | apply Kd.R_drew)); exact HO245.out)); (case aS => exact (lZ (by repeat (first | (with_reducible first | exact HB.out | apply lA | apply lN | apply lD) | exact HB.out)))); (case aL => have := LMc18.out; omega); intro v247 w26 ho hb hg hat; rw [← Ny246.out] at ho; have n0_ := aM (Kd.R_over' (by (with_reducible repeat (first | apply Kd.R_alloc | apply Kd.R_drewN | apply Kd.R_drew)); exact HO_5.out) (Kd.R_typed (by (with_reducible repeat (first | apply Kd.R_alloc | apply Kd.R_drewN | apply Kd.R_drew)); exact HO245.out)) (by decide) hg); have n1_ := aM (Kd.R_over' (by (with_reducible repeat (first | apply Kd.R_alloc | apply Kd.R_drewN | apply Kd.R_drew)); exact HO242.out) (Kd.R_typed (by (with_reducible repeat (first | apply Kd.R_alloc | apply Kd.R_drewN | apply Kd.R_drew)); exact HO245.out)) (by decide) hg); have n2_ := aM (hb); have n3_ := aM (ho); clear HO_5; clear HO242; clear HB; clear HO245; have HO_5 := n0_; have HO242 := n1_; have HB := n2_; have HO248 := n3_; clear n0_ n1_ n2_ n3_; clear ho hb hg hat; obtain ⟨Ao27, co27, eo27⟩ := Kd.R_slice HO242.out; subst eo27; obtain ⟨Ao28, co28, eo28⟩ := Kd.R_slice HO248.out; subst eo28) | (go_at_call 14; (with_reducible refine (jacobi_Solve.calls kj3 _ _ y240 _ _ y246 t249 t250 _ ?side1 ?side2 ?side3 ?side4 A19.out).mono ?_); (case side1 => repeat (first | exact (Kd.R_reads' HO242.out).2.2 | (with_reducible refine Kd.C_alloc ?_ _) | (with_reducible refine Kd.C_drewN ?_ _) | (with_reducible refine Kd.C_drew ?_))); (case side2 => exact (Kd.R_reads' HO242.out).2.1); (case side3 => repeat (first | exact (Kd.R_reads' HO248.out).2.2 | (with_reducible refine Kd.C_alloc ?_ _) | (with_reducible refine Kd.C_drewN ?_ _) | (with_reducible refine Kd.C_drew ?_))); (case side4 => exact (Kd.R_reads' HO248.out).2.1); rintro e w29 ⟨v251, rfl, ho0, hb⟩; have n0_ := aM (Kd.R_elder' (by (with_reducible repeat (first | apply Kd.R_alloc | apply Kd.R_drewN | apply Kd.R_drew)); exact HO_5.out) (Kd.R_base ho0) hb); have n1_ := aM (Kd.R_elder' (by (with_reducible repeat (first | apply Kd.R_alloc | apply Kd.R_drewN | apply Kd.R_drew)); exact HO242.out) (Kd.R_base ho0) hb); have n2_ := aM (Kd.R_below (by (with_reducible repeat (first | apply Kd.R_alloc | apply Kd.R_drewN | apply Kd.R_drew)); exact HO248.out) hb); have n3_ := aM (Kd.R_lower (Kd.R_new' (Kd.R_new' ho0 (Kd.R_lt (by (with_reducible repeat (first | apply Kd.R_alloc | apply Kd.R_drewN | apply Kd.R_drew)); exact HO_5.out))) (Kd.R_lt (by (with_reducible repeat (first | apply Kd.R_alloc | apply Kd.R_drewN | apply Kd.R_drew)); exact HO242.out))) (lZ (by repeat (first | (with_reducible first | exact HB.out | apply lA | apply lN | apply lD) | exact HB.out)))); have n4_ := aM (lT (by repeat (first | (with_reducible first | exact HB.out | apply lA | apply lN | apply lD) | exact HB.out)) hb); clear HO_5; clear HO242; clear HO248; clear HB; have HO_5 := n0_; have HO242 := n1_; have HO248 := n2_; have HO252 := n3_; have HB := n4_; clear n0_ n1_ n2_ n3_ n4_; (try clear hb); (try clear hb2); (try clear hk); (try clear hi); (try clear ho0)))
      repeat (go_quiet (first | ((with_reducible refine gate_dst (N := 31) rfl ?_); refine Kd.R_lit k44 _ 44 ?hg (N := 31) ?hd (xs := ([] : List (S44))) (inner := []) (ok := fun _ => True) (okp := fun _ => True) ?hr ?hp (fun _ hk => hk) trivial (Below.refl _ _) (Nat.le_refl _) (by simp) ?_; (case hd => rfl); (case hg => rfl); (case hr => first | (go_simp; done) | (go_simp; rfl)); (case hp => exact (Reps.none _ _)); intro v238 w20 ho21 hb hg_ hnew_; clear hg_ hnew_; (first | rw [← Ny237.out] at ho21 | (simp only [Int.reduceToNat] at ho21; rw [← Ny237.out] at ho21)); have n0_ := aM (Kd.R_elder' (by (with_reducible repeat (first | apply Kd.R_alloc | apply Kd.R_drewN | apply Kd.R_drew)); exact HO_5.out) (Kd.R_base ho21) hb); have n1_ := aM (Kd.R_lower (Kd.R_new' ho21 (Kd.R_lt (by (with_reducible repeat (first | apply Kd.R_alloc | apply Kd.R_drewN | apply Kd.R_drew)); exact HO_5.out))) (lZ (by repeat (first | (with_reducible first | exact HB.out | apply lA | apply lN | apply lD) | exact HB.out)))); have n2_ := aM (lT (by repeat (first | (with_reducible first | exact HB.out | apply lA | apply lN | apply lD) | exact HB.out)) hb); clear HO_5; clear HB; have HO_5 := n0_; have HO239 := n1_; have HB := n2_; clear n0_ n1_ n2_; clear hb ho21; obtain ⟨Ao23, co23, eo23⟩ := Kd.R_slice HO_5.out; subst eo23) | ((with_reducible refine gate_builtin (b := .append) (xs := #[.tmp 31, .tmp 32]) rfl ?_); at_builtin; refine Kd.R_append_rows k44 (w0 := w) w.heap.size rfl (.tmp 31) (.tmp 32) 22 44 (.agg #[(.int .u32 0), (.int .i32 0), (.int .i32 0), (.int .i32 0), (.int .i32 0), (.int .i32 0), (.int .i32 0), (.int .i32 0), (.int .i32 0), (.int .i32 0)]) 40 rfl Try.underlying22 info44 rfl (by decide) (by omega) v238 y237 t230 _ _ _ (fun k_ => some k_ ≠ (.slice Ao23 t230.length co23 : Value).ownBlock) (fun _ => False) rfl rfl ?aO ?aR (fun _ _ h => h) (fun _ h => h.elim) ?aF ?aB ?aS ?aL ?_; (case aR => repeat (first | exact (Kd.R_reads' HO_5.out).2.2 | (with_reducible refine Kd.C_alloc ?_ _) | (with_reducible refine Kd.C_drewN ?_ _) | (with_reducible refine Kd.C_drew ?_))); (case aB => exact (by repeat (first | (with_reducible first | exact HB.out | apply lA | apply lN | apply lD) | exact HB.out))); (case aF => exact (fun k_ hk => Kd.fresh' (Kd.R_lt (by (with_reducible repeat (first | apply Kd.R_alloc | apply Kd.R_drewN | apply Kd.R_drew)); exact HO_5.out)) k_ hk)); (case aO => exact (by (with_reducible repeat (first | apply Kd.R_alloc | apply Kd.R_drewN | apply Kd.R_drew)); exact Kd.R_mono HO239.out (fun _ hk => hk.2))); (case aS => exact (lZ (by repeat (first | (with_reducible first | exact HB.out | apply lA | apply lN | apply lD) | exact HB.out)))); (case aL => have := LMc17.out; omega); intro v241 w22 ho hb hg hat; rw [← Ny240.out] at ho; have n0_ := aM (Kd.R_after (ok := (fun _ => True)) (by (with_reducible repeat (first | apply Kd.R_alloc | apply Kd.R_drewN | apply Kd.R_drew)); exact HO_5.out) hg hat); have n1_ := aM (hb); have n2_ := aM (ho); clear HO_5; clear HB; clear HO239; have HO_5 := n0_; have HB := n1_; have HO242 := n2_; clear n0_ n1_ n2_; clear ho hb hg hat) | ((with_reducible refine gate_dst (N := 34) rfl ?_); refine Kd.R_lit k41 _ 41 ?hg (N := 34) ?hd (xs := ([] : List (S41))) (inner := []) (ok := fun _ => True) (okp := fun _ => True) ?hr ?hp (fun _ hk => hk) trivial (Below.refl _ _) (Nat.le_refl _) (by simp) ?_; (case hd => rfl); (case hg => rfl); (case hr => first | (go_simp; done) | (go_simp; rfl)); (case hp => exact (Reps.none _ _)); intro v244 w24 ho25 hb hg_ hnew_; clear hg_ hnew_; (first | rw [← Ny243.out] at ho25 | (simp only [Int.reduceToNat] at ho25; rw [← Ny243.out] at ho25)); have n0_ := aM (Kd.R_below (by (with_reducible repeat (first | apply Kd.R_alloc | apply Kd.R_drewN | apply Kd.R_drew)); exact HO_5.out) hb); have n1_ := aM (Kd.R_below (by (with_reducible repeat (first | apply Kd.R_alloc | apply Kd.R_drewN | apply Kd.R_drew)); exact HO242.out) hb); have n2_ := aM (Kd.R_lower ho25 (lZ (by repeat (first | (with_reducible first | exact HB.out | apply lA | apply lN | apply lD) | exact HB.out)))); have n3_ := aM (lT (by repeat (first | (with_reducible first | exact HB.out | apply lA | apply lN | apply lD) | exact HB.out)) hb); clear HO_5; clear HO242; clear HB; have HO_5 := n0_; have HO242 := n1_; have HO245 := n2_; have HB := n3_; clear n0_ n1_ n2_ n3_; clear hb ho25) | ((with_reducible refine gate_builtin (b := .append) (xs := #[.tmp 34, .tmp 35]) rfl ?_); at_builtin; refine Kd.R_append_rows k41 (w0 := w) w.heap.size rfl (.tmp 34) (.tmp 35) 23 41 (.agg #[(.int .u32 0), (.int .u32 0), (.int .i32 0), (.int .i32 0), (.int .i32 0)]) 20 rfl Try.underlying23 info41 rfl (by decide) (by omega) v244 y243 l1 _ _ _ (fun _ => True) (fun _ => False) rfl rfl ?aO ?aR (fun _ _ h => h) (fun _ h => h.elim) ?aF ?aB ?aS ?aL ?_; (case aR => repeat (first | exact (Kd.C_below HR1.out HB.out) | (with_reducible refine Kd.C_alloc ?_ _) | (with_reducible refine Kd.C_drewN ?_ _) | (with_reducible refine Kd.C_drew ?_))); (case aB => exact (by repeat (first | (with_reducible first | exact HB.out | apply lA | apply lN | apply lD) | exact HB.out))); (case aF => exact (fun _ _ => trivial)); (case aO => exact (by (with_reducible repeat (first | apply Kd.R_alloc | apply Kd.R_drewN | apply Kd.R_drew)); exact HO245.out)); (case aS => exact (lZ (by repeat (first | (with_reducible first | exact HB.out | apply lA | apply lN | apply lD) | exact HB.out)))); (case aL => have := LMc18.out; omega); intro v247 w26 ho hb hg hat; rw [← Ny246.out] at ho; have n0_ := aM (Kd.R_over' (by (with_reducible repeat (first | apply Kd.R_alloc | apply Kd.R_drewN | apply Kd.R_drew)); exact HO_5.out) (Kd.R_typed (by (with_reducible repeat (first | apply Kd.R_alloc | apply Kd.R_drewN | apply Kd.R_drew)); exact HO245.out)) (by decide) hg); have n1_ := aM (Kd.R_over' (by (with_reducible repeat (first | apply Kd.R_alloc | apply Kd.R_drewN | apply Kd.R_drew)); exact HO242.out) (Kd.R_typed (by (with_reducible repeat (first | apply Kd.R_alloc | apply Kd.R_drewN | apply Kd.R_drew)); exact HO245.out)) (by decide) hg); have n2_ := aM (hb); have n3_ := aM (ho); clear HO_5; clear HO242; clear HB; clear HO245; have HO_5 := n0_; have HO242 := n1_; have HB := n2_; have HO248 := n3_; clear n0_ n1_ n2_ n3_; clear ho hb hg hat; obtain ⟨Ao27, co27, eo27⟩ := Kd.R_slice HO242.out; subst eo27; obtain ⟨Ao28, co28, eo28⟩ := Kd.R_slice HO248.out; subst eo28) | (go_at_call 14; (with_reducible refine (jacobi_Solve.calls kj3 _ _ y240 _ _ y246 t249 t250 _ ?side1 ?side2 ?side3 ?side4 A19.out).mono ?_); (case side1 => repeat (first | exact (Kd.R_reads' HO242.out).2.2 | (with_reducible refine Kd.C_alloc ?_ _) | (with_reducible refine Kd.C_drewN ?_ _) | (with_reducible refine Kd.C_drew ?_))); (case side2 => exact (Kd.R_reads' HO242.out).2.1); (case side3 => repeat (first | exact (Kd.R_reads' HO248.out).2.2 | (with_reducible refine Kd.C_alloc ?_ _) | (with_reducible refine Kd.C_drewN ?_ _) | (with_reducible refine Kd.C_drew ?_))); (case side4 => exact (Kd.R_reads' HO248.out).2.1); rintro e w29 ⟨v251, rfl, ho0, hb⟩; have n0_ := aM (Kd.R_elder' (by (with_reducible repeat (first | apply Kd.R_alloc | apply Kd.R_drewN | apply Kd.R_drew)); exact HO_5.out) (Kd.R_base ho0) hb); have n1_ := aM (Kd.R_elder' (by (with_reducible repeat (first | apply Kd.R_alloc | apply Kd.R_drewN | apply Kd.R_drew)); exact HO242.out) (Kd.R_base ho0) hb); have n2_ := aM (Kd.R_below (by (with_reducible repeat (first | apply Kd.R_alloc | apply Kd.R_drewN | apply Kd.R_drew)); exact HO248.out) hb); have n3_ := aM (Kd.R_lower (Kd.R_new' (Kd.R_new' ho0 (Kd.R_lt (by (with_reducible repeat (first | apply Kd.R_alloc | apply Kd.R_drewN | apply Kd.R_drew)); exact HO_5.out))) (Kd.R_lt (by (with_reducible repeat (first | apply Kd.R_alloc | apply Kd.R_drewN | apply Kd.R_drew)); exact HO242.out))) (lZ (by repeat (first | (with_reducible first | exact HB.out | apply lA | apply lN | apply lD) | exact HB.out)))); have n4_ := aM (lT (by repeat (first | (with_reducible first | exact HB.out | apply lA | apply lN | apply lD) | exact HB.out)) hb); clear HO_5; clear HO242; clear HO248; clear HB; have HO_5 := n0_; have HO242 := n1_; have HO248 := n2_; have HO252 := n3_; have HB := n4_; clear n0_ n1_ n2_ n3_ n4_; (try clear hb); (try clear hb2); (try clear hk); (try clear hi); (try clear ho0))); try go_wp2_with (first | ((with_reducible refine gate_dst (N := 31) rfl ?_); refine Kd.R_lit k44 _ 44 ?hg (N := 31) ?hd (xs := ([] : List (S44))) (inner := []) (ok := fun _ => True) (okp := fun _ => True) ?hr ?hp (fun _ hk => hk) trivial (Below.refl _ _) (Nat.le_refl _) (by simp) ?_; (case hd => rfl); (case hg => rfl); (case hr => first | (go_simp; done) | (go_simp; rfl)); (case hp => exact (Reps.none _ _)); intro v238 w20 ho21 hb hg_ hnew_; clear hg_ hnew_; (first | rw [← Ny237.out] at ho21 | (simp only [Int.reduceToNat] at ho21; rw [← Ny237.out] at ho21)); have n0_ := aM (Kd.R_elder' (by (with_reducible repeat (first | apply Kd.R_alloc | apply Kd.R_drewN | apply Kd.R_drew)); exact HO_5.out) (Kd.R_base ho21) hb); have n1_ := aM (Kd.R_lower (Kd.R_new' ho21 (Kd.R_lt (by (with_reducible repeat (first | apply Kd.R_alloc | apply Kd.R_drewN | apply Kd.R_drew)); exact HO_5.out))) (lZ (by repeat (first | (with_reducible first | exact HB.out | apply lA | apply lN | apply lD) | exact HB.out)))); have n2_ := aM (lT (by repeat (first | (with_reducible first | exact HB.out | apply lA | apply lN | apply lD) | exact HB.out)) hb); clear HO_5; clear HB; have HO_5 := n0_; have HO239 := n1_; have HB := n2_; clear n0_ n1_ n2_; clear hb ho21; obtain ⟨Ao23, co23, eo23⟩ := Kd.R_slice HO_5.out; subst eo23) | ((with_reducible refine gate_builtin (b := .append) (xs := #[.tmp 31, .tmp 32]) rfl ?_); at_builtin; refine Kd.R_append_rows k44 (w0 := w) w.heap.size rfl (.tmp 31) (.tmp 32) 22 44 (.agg #[(.int .u32 0), (.int .i32 0), (.int .i32 0), (.int .i32 0), (.int .i32 0), (.int .i32 0), (.int .i32 0), (.int .i32 0), (.int .i32 0), (.int .i32 0)]) 40 rfl Try.underlying22 info44 rfl (by decide) (by omega) v238 y237 t230 _ _ _ (fun k_ => some k_ ≠ (.slice Ao23 t230.length co23 : Value).ownBlock) (fun _ => False) rfl rfl ?aO ?aR (fun _ _ h => h) (fun _ h => h.elim) ?aF ?aB ?aS ?aL ?_; (case aR => repeat (first | exact (Kd.R_reads' HO_5.out).2.2 | (with_reducible refine Kd.C_alloc ?_ _) | (with_reducible refine Kd.C_drewN ?_ _) | (with_reducible refine Kd.C_drew ?_))); (case aB => exact (by repeat (first | (with_reducible first | exact HB.out | apply lA | apply lN | apply lD) | exact HB.out))); (case aF => exact (fun k_ hk => Kd.fresh' (Kd.R_lt (by (with_reducible repeat (first | apply Kd.R_alloc | apply Kd.R_drewN | apply Kd.R_drew)); exact HO_5.out)) k_ hk)); (case aO => exact (by (with_reducible repeat (first | apply Kd.R_alloc | apply Kd.R_drewN | apply Kd.R_drew)); exact Kd.R_mono HO239.out (fun _ hk => hk.2))); (case aS => exact (lZ (by repeat (first | (with_reducible first | exact HB.out | apply lA | apply lN | apply lD) | exact HB.out)))); (case aL => have := LMc17.out; omega); intro v241 w22 ho hb hg hat; rw [← Ny240.out] at ho; have n0_ := aM (Kd.R_after (ok := (fun _ => True)) (by (with_reducible repeat (first | apply Kd.R_alloc | apply Kd.R_drewN | apply Kd.R_drew)); exact HO_5.out) hg hat); have n1_ := aM (hb); have n2_ := aM (ho); clear HO_5; clear HB; clear HO239; have HO_5 := n0_; have HB := n1_; have HO242 := n2_; clear n0_ n1_ n2_; clear ho hb hg hat) | ((with_reducible refine gate_dst (N := 34) rfl ?_); refine Kd.R_lit k41 _ 41 ?hg (N := 34) ?hd (xs := ([] : List (S41))) (inner := []) (ok := fun _ => True) (okp := fun _ => True) ?hr ?hp (fun _ hk => hk) trivial (Below.refl _ _) (Nat.le_refl _) (by simp) ?_; (case hd => rfl); (case hg => rfl); (case hr => first | (go_simp; done) | (go_simp; rfl)); (case hp => exact (Reps.none _ _)); intro v244 w24 ho25 hb hg_ hnew_; clear hg_ hnew_; (first | rw [← Ny243.out] at ho25 | (simp only [Int.reduceToNat] at ho25; rw [← Ny243.out] at ho25)); have n0_ := aM (Kd.R_below (by (with_reducible repeat (first | apply Kd.R_alloc | apply Kd.R_drewN | apply Kd.R_drew)); exact HO_5.out) hb); have n1_ := aM (Kd.R_below (by (with_reducible repeat (first | apply Kd.R_alloc | apply Kd.R_drewN | apply Kd.R_drew)); exact HO242.out) hb); have n2_ := aM (Kd.R_lower ho25 (lZ (by repeat (first | (with_reducible first | exact HB.out | apply lA | apply lN | apply lD) | exact HB.out)))); have n3_ := aM (lT (by repeat (first | (with_reducible first | exact HB.out | apply lA | apply lN | apply lD) | exact HB.out)) hb); clear HO_5; clear HO242; clear HB; have HO_5 := n0_; have HO242 := n1_; have HO245 := n2_; have HB := n3_; clear n0_ n1_ n2_ n3_; clear hb ho25) | ((with_reducible refine gate_builtin (b := .append) (xs := #[.tmp 34, .tmp 35]) rfl ?_); at_builtin; refine Kd.R_append_rows k41 (w0 := w) w.heap.size rfl (.tmp 34) (.tmp 35) 23 41 (.agg #[(.int .u32 0), (.int .u32 0), (.int .i32 0), (.int .i32 0), (.int .i32 0)]) 20 rfl Try.underlying23 info41 rfl (by decide) (by omega) v244 y243 l1 _ _ _ (fun _ => True) (fun _ => False) rfl rfl ?aO ?aR (fun _ _ h => h) (fun _ h => h.elim) ?aF ?aB ?aS ?aL ?_; (case aR => repeat (first | exact (Kd.C_below HR1.out HB.out) | (with_reducible refine Kd.C_alloc ?_ _) | (with_reducible refine Kd.C_drewN ?_ _) | (with_reducible refine Kd.C_drew ?_))); (case aB => exact (by repeat (first | (with_reducible first | exact HB.out | apply lA | apply lN | apply lD) | exact HB.out))); (case aF => exact (fun _ _ => trivial)); (case aO => exact (by (with_reducible repeat (first | apply Kd.R_alloc | apply Kd.R_drewN | apply Kd.R_drew)); exact HO245.out)); (case aS => exact (lZ (by repeat (first | (with_reducible first | exact HB.out | apply lA | apply lN | apply lD) | exact HB.out)))); (case aL => have := LMc18.out; omega); intro v247 w26 ho hb hg hat; rw [← Ny246.out] at ho; have n0_ := aM (Kd.R_over' (by (with_reducible repeat (first | apply Kd.R_alloc | apply Kd.R_drewN | apply Kd.R_drew)); exact HO_5.out) (Kd.R_typed (by (with_reducible repeat (first | apply Kd.R_alloc | apply Kd.R_drewN | apply Kd.R_drew)); exact HO245.out)) (by decide) hg); have n1_ := aM (Kd.R_over' (by (with_reducible repeat (first | apply Kd.R_alloc | apply Kd.R_drewN | apply Kd.R_drew)); exact HO242.out) (Kd.R_typed (by (with_reducible repeat (first | apply Kd.R_alloc | apply Kd.R_drewN | apply Kd.R_drew)); exact HO245.out)) (by decide) hg); have n2_ := aM (hb); have n3_ := aM (ho); clear HO_5; clear HO242; clear HB; clear HO245; have HO_5 := n0_; have HO242 := n1_; have HB := n2_; have HO248 := n3_; clear n0_ n1_ n2_ n3_; clear ho hb hg hat; obtain ⟨Ao27, co27, eo27⟩ := Kd.R_slice HO242.out; subst eo27; obtain ⟨Ao28, co28, eo28⟩ := Kd.R_slice HO248.out; subst eo28) | (go_at_call 14; (with_reducible refine (jacobi_Solve.calls kj3 _ _ y240 _ _ y246 t249 t250 _ ?side1 ?side2 ?side3 ?side4 A19.out).mono ?_); (case side1 => repeat (first | exact (Kd.R_reads' HO242.out).2.2 | (with_reducible refine Kd.C_alloc ?_ _) | (with_reducible refine Kd.C_drewN ?_ _) | (with_reducible refine Kd.C_drew ?_))); (case side2 => exact (Kd.R_reads' HO242.out).2.1); (case side3 => repeat (first | exact (Kd.R_reads' HO248.out).2.2 | (with_reducible refine Kd.C_alloc ?_ _) | (with_reducible refine Kd.C_drewN ?_ _) | (with_reducible refine Kd.C_drew ?_))); (case side4 => exact (Kd.R_reads' HO248.out).2.1); rintro e w29 ⟨v251, rfl, ho0, hb⟩; have n0_ := aM (Kd.R_elder' (by (with_reducible repeat (first | apply Kd.R_alloc | apply Kd.R_drewN | apply Kd.R_drew)); exact HO_5.out) (Kd.R_base ho0) hb); have n1_ := aM (Kd.R_elder' (by (with_reducible repeat (first | apply Kd.R_alloc | apply Kd.R_drewN | apply Kd.R_drew)); exact HO242.out) (Kd.R_base ho0) hb); have n2_ := aM (Kd.R_below (by (with_reducible repeat (first | apply Kd.R_alloc | apply Kd.R_drewN | apply Kd.R_drew)); exact HO248.out) hb); have n3_ := aM (Kd.R_lower (Kd.R_new' (Kd.R_new' ho0 (Kd.R_lt (by (with_reducible repeat (first | apply Kd.R_alloc | apply Kd.R_drewN | apply Kd.R_drew)); exact HO_5.out))) (Kd.R_lt (by (with_reducible repeat (first | apply Kd.R_alloc | apply Kd.R_drewN | apply Kd.R_drew)); exact HO242.out))) (lZ (by repeat (first | (with_reducible first | exact HB.out | apply lA | apply lN | apply lD) | exact HB.out)))); have n4_ := aM (lT (by repeat (first | (with_reducible first | exact HB.out | apply lA | apply lN | apply lD) | exact HB.out)) hb); clear HO_5; clear HO242; clear HO248; clear HB; have HO_5 := n0_; have HO242 := n1_; have HO248 := n2_; have HO252 := n3_; have HB := n4_; clear n0_ n1_ n2_ n3_ n4_; (try clear hb); (try clear hb2); (try clear hk); (try clear hi); (try clear ho0))))
      go_loopg [11] kj3 (fun kq v11 w' => ∃ (x9_2 : List (S44)) (x11_2 : Int), v11 = .int .i64 x11_2 ∧ Aside0 (billiardlaw17_JacobiKeeps.l0 kq l1 t230 y240 y246 x9_2 x11_2 = some r) ∧ Aside0 (kq ≤ kj3) ∧ Aside0 (Kd.R k44 44 w' w.heap.size (fun k_ => some k_ ≠ ((.slice Ao27 y240.length co27) : Value).ownBlock ∧ some k_ ≠ (v251 : Value).ownBlock) (.slice Ao23 t230.length co23) t230) ∧ Aside0 (Kd.R k44 44 w' w.heap.size (fun k_ => some k_ ≠ ((.slice Ao23 t230.length co23) : Value).ownBlock ∧ some k_ ≠ (v251 : Value).ownBlock) (.slice Ao27 y240.length co27) y240) ∧ Aside0 (Kd.R k41 41 w' w.heap.size (fun _ => True) (.slice Ao28 y246.length co28) y246) ∧ Aside0 (Kd.R k44 44 w' w.heap.size (fun k_ => some k_ ≠ ((.slice Ao23 t230.length co23) : Value).ownBlock ∧ some k_ ≠ ((.slice Ao27 y240.length co27) : Value).ownBlock) v251 x9_2) ∧ Aside0 (Below w.heap.size w w'))
      case atStart => exact ⟨(t249), (0), (by first | rfl | (simp; done) | (simp [*]; done)), H', ⟨Nat.le_refl _⟩, ⟨by (with_reducible repeat (first | apply Kd.R_alloc | apply Kd.R_drewN | apply Kd.R_drew)); exact Kd.R_mono HO_5.out (fun _ hk => ⟨hk.1.2, hk.2⟩)⟩, ⟨by (with_reducible repeat (first | apply Kd.R_alloc | apply Kd.R_drewN | apply Kd.R_drew)); exact HO242.out⟩, ⟨by (with_reducible repeat (first | apply Kd.R_alloc | apply Kd.R_drewN | apply Kd.R_drew)); exact HO248.out⟩, ⟨by (with_reducible repeat (first | apply Kd.R_alloc | apply Kd.R_drewN | apply Kd.R_drew)); exact Kd.R_mono HO252.out (fun _ hk => ⟨hk.1.2, hk.2⟩)⟩, ⟨by repeat (first | (with_reducible first | exact HB.out | apply lA | apply lN | apply lD) | exact HB.out)⟩⟩
      case round =>
       clear H'
       try clear c1
       try clear p2
       try clear c7
       try clear c8
       try clear c14
       try clear c17
       try clear c18
       try clear p2
       obtain ⟨x9_2, x11_2, rfl, HA, HK2, HO_5, HO_7, HO_8, HO_9, HB⟩ := hrel
       cases gk with
       | zero => exact absurd HA.out (by simp [billiardlaw17_JacobiKeeps.l0])
       | succ k2 =>
        have H := HA.out
        clear HA
        simp only [billiardlaw17_JacobiKeeps.l0] at H
        by_cases c30 : x11_2 < (x9_2.length : Int)
        ·rw [if_pos c30] at H
         have c30b0 : decide (x11_2 < (x9_2.length : Int)) = true := decide_eq_true c30
         clear c30
         by_cases c31 : 0 ≤ x11_2
         ·rw [if_pos c31] at H
          have c31b0 : decide (0 ≤ x11_2) = true := decide_eq_true c31
          clear c31
          obtain ⟨y253, hy253⟩ : ∃ y_ : List (S44), y_ = (x9_2.set (x11_2 : Int).toNat (⟨(rd_T44 x9_2 x11_2).f0, (-1), (⟨(rd_T44 x9_2 x11_2).f2.f0, (rd_T44 x9_2 x11_2).f2.f1⟩ : S39), (rd_T44 x9_2 x11_2).f3, (rd_T44 x9_2 x11_2).f4, (⟨(rd_T44 x9_2 x11_2).f5.f0, (rd_T44 x9_2 x11_2).f5.f1⟩ : S39), (⟨(rd_T44 x9_2 x11_2).f6.f0, (rd_T44 x9_2 x11_2).f6.f1⟩ : S39)⟩ : S44)) := ⟨_, rfl⟩
          replace H : (billiardlaw17_JacobiKeeps.l0 k2 l1 t230 y240 y246 y253 (wrap64 (x11_2 + 1))) = some r := by first | (rw [hy253]; with_reducible exact H) | (have H2_ := (Option.bind_some _ _).symm.trans H; rw [hy253]; with_reducible exact H2_) | (have H2_ := (Option.bind_some _ _).symm.trans H; with_reducible exact H2_) | with_reducible exact H | (rw [hy253]; exact H) | exact H
          have Ny253 := aM hy253
          clear hy253
          have H' := aM H
          clear H
          obtain ⟨Ao33, co33, eo33⟩ := Kd.R_slice HO_9.out
          subst eo33
          have p32 : 0 ≤ (x11_2 : Int) := of_decide_eq_true (by first | (with_reducible assumption) | assumption)
          have q32 : (x11_2 : Int) < ((x9_2.length : Int) : Int) := of_decide_eq_true (by first | (with_reducible assumption) | assumption)
          obtain ⟨go32, co32, eo32, b32, gl32, cl32, HG32⟩ := Kd.R_form HO_9.out (by omega)
          (first | cases eo32 | (injection eo32 with ea_ en_ ec_; (first | subst ea_ | (injection ea_ with ea_; subst ea_)); subst ec_; clear en_))
          have GB32 := aM b32
          have GG32 := aM HG32
          clear b32 gl32 HG32
          obtain ⟨ce32, hcl32, hM32, hcc32, hfr32⟩ := Kd.R_elem HO_9.out z44 (x11_2 : Int) p32 q32
          obtain rfl := k44_openM hM32
          have hx32_0 : wr.cell? ⟨go32, (x11_2 : Int).toNat * 10, none⟩ = some (.int .u32 ((rd_T44 x9_2 x11_2).f0)) := hcc32 0 _ rfl
          have hx32_1 : wr.cell? ⟨go32, (x11_2 : Int).toNat * 10 + 1, none⟩ = some (.int .i32 ((rd_T44 x9_2 x11_2).f1)) := hcc32 1 _ rfl
          have hx32_2 : wr.cell? ⟨go32, (x11_2 : Int).toNat * 10 + 2, none⟩ = some (.int .i32 ((rd_T44 x9_2 x11_2).f2.f0)) := hcc32 2 _ rfl
          have hx32_3 : wr.cell? ⟨go32, (x11_2 : Int).toNat * 10 + 3, none⟩ = some (.int .i32 ((rd_T44 x9_2 x11_2).f2.f1)) := hcc32 3 _ rfl
          have hx32_4 : wr.cell? ⟨go32, (x11_2 : Int).toNat * 10 + 4, none⟩ = some (.int .i32 ((rd_T44 x9_2 x11_2).f3)) := hcc32 4 _ rfl
          have hx32_5 : wr.cell? ⟨go32, (x11_2 : Int).toNat * 10 + 5, none⟩ = some (.int .i32 ((rd_T44 x9_2 x11_2).f4)) := hcc32 5 _ rfl
          have hx32_6 : wr.cell? ⟨go32, (x11_2 : Int).toNat * 10 + 6, none⟩ = some (.int .i32 ((rd_T44 x9_2 x11_2).f5.f0)) := hcc32 6 _ rfl
          have hx32_7 : wr.cell? ⟨go32, (x11_2 : Int).toNat * 10 + 7, none⟩ = some (.int .i32 ((rd_T44 x9_2 x11_2).f5.f1)) := hcc32 7 _ rfl
          have hx32_8 : wr.cell? ⟨go32, (x11_2 : Int).toNat * 10 + 8, none⟩ = some (.int .i32 ((rd_T44 x9_2 x11_2).f6.f0)) := hcc32 8 _ rfl
          have hx32_9 : wr.cell? ⟨go32, (x11_2 : Int).toNat * 10 + 9, none⟩ = some (.int .i32 ((rd_T44 x9_2 x11_2).f6.f1)) := hcc32 9 _ rfl
          have hf32_0 : wr.frozen? ⟨go32, (x11_2 : Int).toNat * 10, none⟩ = false := hfr32 0
          have hf32_1 : wr.frozen? ⟨go32, (x11_2 : Int).toNat * 10 + 1, none⟩ = false := hfr32 1
          have hf32_2 : wr.frozen? ⟨go32, (x11_2 : Int).toNat * 10 + 2, none⟩ = false := hfr32 2
          have hf32_3 : wr.frozen? ⟨go32, (x11_2 : Int).toNat * 10 + 3, none⟩ = false := hfr32 3
          have hf32_4 : wr.frozen? ⟨go32, (x11_2 : Int).toNat * 10 + 4, none⟩ = false := hfr32 4
          have hf32_5 : wr.frozen? ⟨go32, (x11_2 : Int).toNat * 10 + 5, none⟩ = false := hfr32 5
          have hf32_6 : wr.frozen? ⟨go32, (x11_2 : Int).toNat * 10 + 6, none⟩ = false := hfr32 6
          have hf32_7 : wr.frozen? ⟨go32, (x11_2 : Int).toNat * 10 + 7, none⟩ = false := hfr32 7
          have hf32_8 : wr.frozen? ⟨go32, (x11_2 : Int).toNat * 10 + 8, none⟩ = false := hfr32 8
          have hf32_9 : wr.frozen? ⟨go32, (x11_2 : Int).toNat * 10 + 9, none⟩ = false := hfr32 9
          clear hcl32 hcc32 hfr32 hM32
          replace p32 := eq_true p32
          replace q32 := eq_true q32
          have HX34 := aM (show Kd.R k44 44 wr w.heap.size (fun k_ => some k_ ≠ (.slice Ao23 t230.length co23 : Value).ownBlock ∧ some k_ ≠ (.slice Ao27 y240.length co27 : Value).ownBlock) (.slice (some ⟨go32, 0, none⟩) x9_2.length co33) x9_2 from (by (with_reducible repeat (first | apply Kd.R_alloc | apply Kd.R_drewN | apply Kd.R_drew)); exact HO_9.out))
          obtain ⟨ce34, hcl34, hM34, hcc34, hfr34⟩ := Kd.R_elem HX34.out z44 (x11_2 : Int) (of_decide_eq_true (by first | (with_reducible assumption) | assumption)) (by have h_ : (x11_2 : Int) < ((x9_2.length : Int) : Int) := of_decide_eq_true (by first | (with_reducible assumption) | assumption); first | exact h_ | (have e_ := (Kd.R_reads' HO_9.out).1; omega) | simpa using h_)
          obtain rfl := k44_openM hM34
          have HP34 := Kd.R_seg HX34.out (x11_2 : Int) (of_decide_eq_true (by first | (with_reducible assumption) | assumption)) (by have h_ : (x11_2 : Int) < ((x9_2.length : Int) : Int) := of_decide_eq_true (by first | (with_reducible assumption) | assumption); first | exact h_ | (have e_ := (Kd.R_reads' HO_9.out).1; omega) | simpa using h_) (seg := [.int .i32 (-1)]) (j := 1) hcl34 hcc34 (show 2 ≤ 10 from by decide) (x' := (⟨(rd_T44 x9_2 x11_2).f0, (-1), (⟨(rd_T44 x9_2 x11_2).f2.f0, (rd_T44 x9_2 x11_2).f2.f1⟩ : S39), (rd_T44 x9_2 x11_2).f3, (rd_T44 x9_2 x11_2).f4, (⟨(rd_T44 x9_2 x11_2).f5.f0, (rd_T44 x9_2 x11_2).f5.f1⟩ : S39), (⟨(rd_T44 x9_2 x11_2).f6.f0, (rd_T44 x9_2 x11_2).f6.f1⟩ : S39)⟩ : S44)) (k44_mkM _ _ _ (⟨(rd_T44 x9_2 x11_2).f0, (-1), (⟨(rd_T44 x9_2 x11_2).f2.f0, (rd_T44 x9_2 x11_2).f2.f1⟩ : S39), (rd_T44 x9_2 x11_2).f3, (rd_T44 x9_2 x11_2).f4, (⟨(rd_T44 x9_2 x11_2).f5.f0, (rd_T44 x9_2 x11_2).f5.f1⟩ : S39), (⟨(rd_T44 x9_2 x11_2).f6.f0, (rd_T44 x9_2 x11_2).f6.f1⟩ : S39)⟩ : S44) ) (fun _ hk => hk)
          have hx34_1 := hcc34 1 _ rfl
          (try simp only [show (k44).sz = 10 from rfl, Nat.mul_one, Nat.add_zero] at hx34_1)
          have hf34_1 := hfr34 1
          (try simp only [show (k44).sz = 10 from rfl, Nat.mul_one, Nat.add_zero] at hf34_1)
          clear hcl34 hcc34 hfr34 hM34
          go_wp2_with (first | ((with_reducible refine gate_store (t := 21) (p := 52) rfl ?_); (try (rw [drewN_self wr]; generalize hq_ : World.drewN wr _ = wr; have n0_ := aM (Kd.R_at hq_ HO_5.out); have n1_ := aM (Kd.R_at hq_ HO_7.out); have n2_ := aM (Kd.R_at hq_ HO_8.out); have n3_ := aM (Kd.R_at hq_ HO_9.out); have n4_ := aM (below_at hq_ HB.out); clear hq_ HO_5 HO_7 HO_8 HO_9 HB; have HO_5 := n0_; have HO_7 := n1_; have HO_8 := n2_; have HO_9 := n3_; have HB := n4_; clear n0_ n1_ n2_ n3_ n4_; (try (have HX34 := aM (show Kd.R k44 44 wr w.heap.size (fun k_ => some k_ ≠ (.slice Ao23 t230.length co23 : Value).ownBlock ∧ some k_ ≠ (.slice Ao27 y240.length co27 : Value).ownBlock) (.slice (some ⟨go32, 0, none⟩) x9_2.length co33) x9_2 from (by (with_reducible repeat (first | apply Kd.R_alloc | apply Kd.R_drewN | apply Kd.R_drew)); exact HO_9.out)))); (try (obtain ⟨ce34, hcl34, hM34, hcc34, hfr34⟩ := Kd.R_elem HX34.out z44 (x11_2 : Int) (of_decide_eq_true (by first | (with_reducible assumption) | assumption)) (by have h_ : (x11_2 : Int) < ((x9_2.length : Int) : Int) := of_decide_eq_true (by first | (with_reducible assumption) | assumption); first | exact h_ | (have e_ := (Kd.R_reads' HO_9.out).1; omega) | simpa using h_))); (try (obtain rfl := k44_openM hM34)); (try (have HP34 := Kd.R_seg HX34.out (x11_2 : Int) (of_decide_eq_true (by first | (with_reducible assumption) | assumption)) (by have h_ : (x11_2 : Int) < ((x9_2.length : Int) : Int) := of_decide_eq_true (by first | (with_reducible assumption) | assumption); first | exact h_ | (have e_ := (Kd.R_reads' HO_9.out).1; omega) | simpa using h_) (seg := [.int .i32 (-1)]) (j := 1) hcl34 hcc34 (show 2 ≤ 10 from by decide) (x' := (⟨(rd_T44 x9_2 x11_2).f0, (-1), (⟨(rd_T44 x9_2 x11_2).f2.f0, (rd_T44 x9_2 x11_2).f2.f1⟩ : S39), (rd_T44 x9_2 x11_2).f3, (rd_T44 x9_2 x11_2).f4, (⟨(rd_T44 x9_2 x11_2).f5.f0, (rd_T44 x9_2 x11_2).f5.f1⟩ : S39), (⟨(rd_T44 x9_2 x11_2).f6.f0, (rd_T44 x9_2 x11_2).f6.f1⟩ : S39)⟩ : S44)) (k44_mkM _ _ _ (⟨(rd_T44 x9_2 x11_2).f0, (-1), (⟨(rd_T44 x9_2 x11_2).f2.f0, (rd_T44 x9_2 x11_2).f2.f1⟩ : S39), (rd_T44 x9_2 x11_2).f3, (rd_T44 x9_2 x11_2).f4, (⟨(rd_T44 x9_2 x11_2).f5.f0, (rd_T44 x9_2 x11_2).f5.f1⟩ : S39), (⟨(rd_T44 x9_2 x11_2).f6.f0, (rd_T44 x9_2 x11_2).f6.f1⟩ : S39)⟩ : S44) ) (fun _ hk => hk))); (try (have hx34_1 := hcc34 1 _ rfl)); (try (try simp only [show (k44).sz = 10 from rfl, Nat.mul_one, Nat.add_zero] at hx34_1)); (try (have hf34_1 := hfr34 1)); (try (try simp only [show (k44).sz = 10 from rfl, Nat.mul_one, Nat.add_zero] at hf34_1)); (try (clear hcl34 hcc34 hfr34 hM34)))); refine store_event (t := 21) (p := 52) (v := ?vo_w35) (w1 := (wr.setCell ⟨go32, (x11_2 : Int).toNat * 10 + 1, none⟩ (.int .i32 (-1)))) ?hg ?ho ?hn ?hr ?_; (case ho => rfl); (case hg => rfl); (case hn => rfl); (case hr => first | (go_simp; done) | (go_simp; rfl)); intro w35 hw; have hg : wr.grownBy w35 (some go32) := (by rw [hw]; exact HP34.2); have hp_ : Kd.R k44 44 w35 w.heap.size (fun k_ => some k_ ≠ (.slice Ao23 t230.length co23 : Value).ownBlock ∧ some k_ ≠ (.slice Ao27 y240.length co27 : Value).ownBlock) (.slice (some ⟨go32, 0, none⟩) x9_2.length co33) y253 := (by rw [hw, Ny253.out]; exact HP34.1); clear HP34; have n0_ := aM (Kd.R_after (v := (.slice (some ⟨go32, 0, none⟩) x9_2.length co33)) (v1 := (.slice (some ⟨go32, 0, none⟩) x9_2.length co33)) (ok := (fun k_ => some k_ ≠ (.slice Ao27 y240.length co27 : Value).ownBlock)) (by (with_reducible repeat (first | apply Kd.R_alloc | apply Kd.R_drewN | apply Kd.R_drew)); exact HO_5.out) hg (.inl rfl)); have n1_ := aM (Kd.R_after (v := (.slice (some ⟨go32, 0, none⟩) x9_2.length co33)) (v1 := (.slice (some ⟨go32, 0, none⟩) x9_2.length co33)) (ok := (fun k_ => some k_ ≠ (.slice Ao23 t230.length co23 : Value).ownBlock)) (by (with_reducible repeat (first | apply Kd.R_alloc | apply Kd.R_drewN | apply Kd.R_drew)); exact HO_7.out) hg (.inl rfl)); have n2_ := aM (Kd.R_over' (v := (.slice (some ⟨go32, 0, none⟩) x9_2.length co33)) (by (with_reducible repeat (first | apply Kd.R_alloc | apply Kd.R_drewN | apply Kd.R_drew)); exact HO_8.out) (Kd.R_typed HO_9.out) (by decide) hg); have n3_ := aM (hp_); have n4_ := aM ((by rw [hw]; exact lS (HB.out) GB32.out : Below w.heap.size w w35)); clear HO_5; clear HO_7; clear HO_8; clear HO_9; clear HB; have HO_5 := n0_; have HO_7 := n1_; have HO_8 := n2_; have HO_9 := n3_; have HB := n4_; clear n0_ n1_ n2_ n3_ n4_; clear hg hw hp_))
          repeat (go_quiet (first | ((with_reducible refine gate_store (t := 21) (p := 52) rfl ?_); (try (rw [drewN_self wr]; generalize hq_ : World.drewN wr _ = wr; have n0_ := aM (Kd.R_at hq_ HO_5.out); have n1_ := aM (Kd.R_at hq_ HO_7.out); have n2_ := aM (Kd.R_at hq_ HO_8.out); have n3_ := aM (Kd.R_at hq_ HO_9.out); have n4_ := aM (below_at hq_ HB.out); clear hq_ HO_5 HO_7 HO_8 HO_9 HB; have HO_5 := n0_; have HO_7 := n1_; have HO_8 := n2_; have HO_9 := n3_; have HB := n4_; clear n0_ n1_ n2_ n3_ n4_; (try (have HX34 := aM (show Kd.R k44 44 wr w.heap.size (fun k_ => some k_ ≠ (.slice Ao23 t230.length co23 : Value).ownBlock ∧ some k_ ≠ (.slice Ao27 y240.length co27 : Value).ownBlock) (.slice (some ⟨go32, 0, none⟩) x9_2.length co33) x9_2 from (by (with_reducible repeat (first | apply Kd.R_alloc | apply Kd.R_drewN | apply Kd.R_drew)); exact HO_9.out)))); (try (obtain ⟨ce34, hcl34, hM34, hcc34, hfr34⟩ := Kd.R_elem HX34.out z44 (x11_2 : Int) (of_decide_eq_true (by first | (with_reducible assumption) | assumption)) (by have h_ : (x11_2 : Int) < ((x9_2.length : Int) : Int) := of_decide_eq_true (by first | (with_reducible assumption) | assumption); first | exact h_ | (have e_ := (Kd.R_reads' HO_9.out).1; omega) | simpa using h_))); (try (obtain rfl := k44_openM hM34)); (try (have HP34 := Kd.R_seg HX34.out (x11_2 : Int) (of_decide_eq_true (by first | (with_reducible assumption) | assumption)) (by have h_ : (x11_2 : Int) < ((x9_2.length : Int) : Int) := of_decide_eq_true (by first | (with_reducible assumption) | assumption); first | exact h_ | (have e_ := (Kd.R_reads' HO_9.out).1; omega) | simpa using h_) (seg := [.int .i32 (-1)]) (j := 1) hcl34 hcc34 (show 2 ≤ 10 from by decide) (x' := (⟨(rd_T44 x9_2 x11_2).f0, (-1), (⟨(rd_T44 x9_2 x11_2).f2.f0, (rd_T44 x9_2 x11_2).f2.f1⟩ : S39), (rd_T44 x9_2 x11_2).f3, (rd_T44 x9_2 x11_2).f4, (⟨(rd_T44 x9_2 x11_2).f5.f0, (rd_T44 x9_2 x11_2).f5.f1⟩ : S39), (⟨(rd_T44 x9_2 x11_2).f6.f0, (rd_T44 x9_2 x11_2).f6.f1⟩ : S39)⟩ : S44)) (k44_mkM _ _ _ (⟨(rd_T44 x9_2 x11_2).f0, (-1), (⟨(rd_T44 x9_2 x11_2).f2.f0, (rd_T44 x9_2 x11_2).f2.f1⟩ : S39), (rd_T44 x9_2 x11_2).f3, (rd_T44 x9_2 x11_2).f4, (⟨(rd_T44 x9_2 x11_2).f5.f0, (rd_T44 x9_2 x11_2).f5.f1⟩ : S39), (⟨(rd_T44 x9_2 x11_2).f6.f0, (rd_T44 x9_2 x11_2).f6.f1⟩ : S39)⟩ : S44) ) (fun _ hk => hk))); (try (have hx34_1 := hcc34 1 _ rfl)); (try (try simp only [show (k44).sz = 10 from rfl, Nat.mul_one, Nat.add_zero] at hx34_1)); (try (have hf34_1 := hfr34 1)); (try (try simp only [show (k44).sz = 10 from rfl, Nat.mul_one, Nat.add_zero] at hf34_1)); (try (clear hcl34 hcc34 hfr34 hM34)))); refine store_event (t := 21) (p := 52) (v := ?vo_w35) (w1 := (wr.setCell ⟨go32, (x11_2 : Int).toNat * 10 + 1, none⟩ (.int .i32 (-1)))) ?hg ?ho ?hn ?hr ?_; (case ho => rfl); (case hg => rfl); (case hn => rfl); (case hr => first | (go_simp; done) | (go_simp; rfl)); intro w35 hw; have hg : wr.grownBy w35 (some go32) := (by rw [hw]; exact HP34.2); have hp_ : Kd.R k44 44 w35 w.heap.size (fun k_ => some k_ ≠ (.slice Ao23 t230.length co23 : Value).ownBlock ∧ some k_ ≠ (.slice Ao27 y240.length co27 : Value).ownBlock) (.slice (some ⟨go32, 0, none⟩) x9_2.length co33) y253 := (by rw [hw, Ny253.out]; exact HP34.1); clear HP34; have n0_ := aM (Kd.R_after (v := (.slice (some ⟨go32, 0, none⟩) x9_2.length co33)) (v1 := (.slice (some ⟨go32, 0, none⟩) x9_2.length co33)) (ok := (fun k_ => some k_ ≠ (.slice Ao27 y240.length co27 : Value).ownBlock)) (by (with_reducible repeat (first | apply Kd.R_alloc | apply Kd.R_drewN | apply Kd.R_drew)); exact HO_5.out) hg (.inl rfl)); have n1_ := aM (Kd.R_after (v := (.slice (some ⟨go32, 0, none⟩) x9_2.length co33)) (v1 := (.slice (some ⟨go32, 0, none⟩) x9_2.length co33)) (ok := (fun k_ => some k_ ≠ (.slice Ao23 t230.length co23 : Value).ownBlock)) (by (with_reducible repeat (first | apply Kd.R_alloc | apply Kd.R_drewN | apply Kd.R_drew)); exact HO_7.out) hg (.inl rfl)); have n2_ := aM (Kd.R_over' (v := (.slice (some ⟨go32, 0, none⟩) x9_2.length co33)) (by (with_reducible repeat (first | apply Kd.R_alloc | apply Kd.R_drewN | apply Kd.R_drew)); exact HO_8.out) (Kd.R_typed HO_9.out) (by decide) hg); have n3_ := aM (hp_); have n4_ := aM ((by rw [hw]; exact lS (HB.out) GB32.out : Below w.heap.size w w35)); clear HO_5; clear HO_7; clear HO_8; clear HO_9; clear HB; have HO_5 := n0_; have HO_7 := n1_; have HO_8 := n2_; have HO_9 := n3_; have HB := n4_; clear n0_ n1_ n2_ n3_ n4_; clear hg hw hp_)); try go_wp2_with (first | ((with_reducible refine gate_store (t := 21) (p := 52) rfl ?_); (try (rw [drewN_self wr]; generalize hq_ : World.drewN wr _ = wr; have n0_ := aM (Kd.R_at hq_ HO_5.out); have n1_ := aM (Kd.R_at hq_ HO_7.out); have n2_ := aM (Kd.R_at hq_ HO_8.out); have n3_ := aM (Kd.R_at hq_ HO_9.out); have n4_ := aM (below_at hq_ HB.out); clear hq_ HO_5 HO_7 HO_8 HO_9 HB; have HO_5 := n0_; have HO_7 := n1_; have HO_8 := n2_; have HO_9 := n3_; have HB := n4_; clear n0_ n1_ n2_ n3_ n4_; (try (have HX34 := aM (show Kd.R k44 44 wr w.heap.size (fun k_ => some k_ ≠ (.slice Ao23 t230.length co23 : Value).ownBlock ∧ some k_ ≠ (.slice Ao27 y240.length co27 : Value).ownBlock) (.slice (some ⟨go32, 0, none⟩) x9_2.length co33) x9_2 from (by (with_reducible repeat (first | apply Kd.R_alloc | apply Kd.R_drewN | apply Kd.R_drew)); exact HO_9.out)))); (try (obtain ⟨ce34, hcl34, hM34, hcc34, hfr34⟩ := Kd.R_elem HX34.out z44 (x11_2 : Int) (of_decide_eq_true (by first | (with_reducible assumption) | assumption)) (by have h_ : (x11_2 : Int) < ((x9_2.length : Int) : Int) := of_decide_eq_true (by first | (with_reducible assumption) | assumption); first | exact h_ | (have e_ := (Kd.R_reads' HO_9.out).1; omega) | simpa using h_))); (try (obtain rfl := k44_openM hM34)); (try (have HP34 := Kd.R_seg HX34.out (x11_2 : Int) (of_decide_eq_true (by first | (with_reducible assumption) | assumption)) (by have h_ : (x11_2 : Int) < ((x9_2.length : Int) : Int) := of_decide_eq_true (by first | (with_reducible assumption) | assumption); first | exact h_ | (have e_ := (Kd.R_reads' HO_9.out).1; omega) | simpa using h_) (seg := [.int .i32 (-1)]) (j := 1) hcl34 hcc34 (show 2 ≤ 10 from by decide) (x' := (⟨(rd_T44 x9_2 x11_2).f0, (-1), (⟨(rd_T44 x9_2 x11_2).f2.f0, (rd_T44 x9_2 x11_2).f2.f1⟩ : S39), (rd_T44 x9_2 x11_2).f3, (rd_T44 x9_2 x11_2).f4, (⟨(rd_T44 x9_2 x11_2).f5.f0, (rd_T44 x9_2 x11_2).f5.f1⟩ : S39), (⟨(rd_T44 x9_2 x11_2).f6.f0, (rd_T44 x9_2 x11_2).f6.f1⟩ : S39)⟩ : S44)) (k44_mkM _ _ _ (⟨(rd_T44 x9_2 x11_2).f0, (-1), (⟨(rd_T44 x9_2 x11_2).f2.f0, (rd_T44 x9_2 x11_2).f2.f1⟩ : S39), (rd_T44 x9_2 x11_2).f3, (rd_T44 x9_2 x11_2).f4, (⟨(rd_T44 x9_2 x11_2).f5.f0, (rd_T44 x9_2 x11_2).f5.f1⟩ : S39), (⟨(rd_T44 x9_2 x11_2).f6.f0, (rd_T44 x9_2 x11_2).f6.f1⟩ : S39)⟩ : S44) ) (fun _ hk => hk))); (try (have hx34_1 := hcc34 1 _ rfl)); (try (try simp only [show (k44).sz = 10 from rfl, Nat.mul_one, Nat.add_zero] at hx34_1)); (try (have hf34_1 := hfr34 1)); (try (try simp only [show (k44).sz = 10 from rfl, Nat.mul_one, Nat.add_zero] at hf34_1)); (try (clear hcl34 hcc34 hfr34 hM34)))); refine store_event (t := 21) (p := 52) (v := ?vo_w35) (w1 := (wr.setCell ⟨go32, (x11_2 : Int).toNat * 10 + 1, none⟩ (.int .i32 (-1)))) ?hg ?ho ?hn ?hr ?_; (case ho => rfl); (case hg => rfl); (case hn => rfl); (case hr => first | (go_simp; done) | (go_simp; rfl)); intro w35 hw; have hg : wr.grownBy w35 (some go32) := (by rw [hw]; exact HP34.2); have hp_ : Kd.R k44 44 w35 w.heap.size (fun k_ => some k_ ≠ (.slice Ao23 t230.length co23 : Value).ownBlock ∧ some k_ ≠ (.slice Ao27 y240.length co27 : Value).ownBlock) (.slice (some ⟨go32, 0, none⟩) x9_2.length co33) y253 := (by rw [hw, Ny253.out]; exact HP34.1); clear HP34; have n0_ := aM (Kd.R_after (v := (.slice (some ⟨go32, 0, none⟩) x9_2.length co33)) (v1 := (.slice (some ⟨go32, 0, none⟩) x9_2.length co33)) (ok := (fun k_ => some k_ ≠ (.slice Ao27 y240.length co27 : Value).ownBlock)) (by (with_reducible repeat (first | apply Kd.R_alloc | apply Kd.R_drewN | apply Kd.R_drew)); exact HO_5.out) hg (.inl rfl)); have n1_ := aM (Kd.R_after (v := (.slice (some ⟨go32, 0, none⟩) x9_2.length co33)) (v1 := (.slice (some ⟨go32, 0, none⟩) x9_2.length co33)) (ok := (fun k_ => some k_ ≠ (.slice Ao23 t230.length co23 : Value).ownBlock)) (by (with_reducible repeat (first | apply Kd.R_alloc | apply Kd.R_drewN | apply Kd.R_drew)); exact HO_7.out) hg (.inl rfl)); have n2_ := aM (Kd.R_over' (v := (.slice (some ⟨go32, 0, none⟩) x9_2.length co33)) (by (with_reducible repeat (first | apply Kd.R_alloc | apply Kd.R_drewN | apply Kd.R_drew)); exact HO_8.out) (Kd.R_typed HO_9.out) (by decide) hg); have n3_ := aM (hp_); have n4_ := aM ((by rw [hw]; exact lS (HB.out) GB32.out : Below w.heap.size w w35)); clear HO_5; clear HO_7; clear HO_8; clear HO_9; clear HB; have HO_5 := n0_; have HO_7 := n1_; have HO_8 := n2_; have HO_9 := n3_; have HB := n4_; clear n0_ n1_ n2_ n3_ n4_; clear hg hw hp_)))
          go_roundg k2
          case measure => have := HJ3.out; have := HK2.out; omega
          case rel => exact ⟨(y253), (wrap64 (x11_2 + 1)), (by first | rfl | (simp; done) | (simp [*]; done)), H', ⟨by have := HJ3.out; have := HK2.out; omega⟩, ⟨by (with_reducible repeat (first | apply Kd.R_alloc | apply Kd.R_drewN | apply Kd.R_drew)); exact HO_5.out⟩, ⟨by (with_reducible repeat (first | apply Kd.R_alloc | apply Kd.R_drewN | apply Kd.R_drew)); exact HO_7.out⟩, ⟨by (with_reducible repeat (first | apply Kd.R_alloc | apply Kd.R_drewN | apply Kd.R_drew)); exact HO_8.out⟩, ⟨by (with_reducible repeat (first | apply Kd.R_alloc | apply Kd.R_drewN | apply Kd.R_drew)); exact HO_9.out⟩, ⟨by repeat (first | (with_reducible first | exact HB.out | apply lA | apply lN | apply lD) | exact HB.out)⟩⟩
         ·rw [if_neg c31] at H
          exact absurd H (by simp)
        ·rw [if_neg c30] at H
         have c30b0 : decide (x11_2 < (x9_2.length : Int)) = false := decide_eq_false c30
         clear c30
         have H' := aM H
         clear H
         obtain ⟨Ao36, co36, eo36⟩ := Kd.R_slice HO_9.out
         subst eo36
         go_wp2
         repeat (go_quiet (fail); try go_wp2)
         go_loopg [12] k2 (fun kq v12 w' => ∃ (x12_3 : Int), v12 = .int .i64 x12_3 ∧ Aside0 (billiardlaw17_JacobiKeeps.l1 kq l1 t230 y240 y246 x12_3 = some r) ∧ Aside0 (kq ≤ k2) ∧ Aside0 (Kd.R k44 44 w' w.heap.size (fun k_ => some k_ ≠ ((.slice Ao27 y240.length co27) : Value).ownBlock) (.slice Ao23 t230.length co23) t230) ∧ Aside0 (Kd.R k44 44 w' w.heap.size (fun k_ => some k_ ≠ ((.slice Ao23 t230.length co23) : Value).ownBlock) (.slice Ao27 y240.length co27) y240) ∧ Aside0 (Kd.R k41 41 w' w.heap.size (fun _ => True) (.slice Ao28 y246.length co28) y246) ∧ Aside0 (Below w.heap.size w w'))
         case atStart => exact ⟨(0), (by first | rfl | (simp; done) | (simp [*]; done)), H', ⟨Nat.le_refl _⟩, ⟨by (with_reducible repeat (first | apply Kd.R_alloc | apply Kd.R_drewN | apply Kd.R_drew)); exact Kd.R_mono HO_5.out (fun _ hk => hk.1)⟩, ⟨by (with_reducible repeat (first | apply Kd.R_alloc | apply Kd.R_drewN | apply Kd.R_drew)); exact Kd.R_mono HO_7.out (fun _ hk => hk.1)⟩, ⟨by (with_reducible repeat (first | apply Kd.R_alloc | apply Kd.R_drewN | apply Kd.R_drew)); exact HO_8.out⟩, ⟨by repeat (first | (with_reducible first | exact HB.out | apply lA | apply lN | apply lD) | exact HB.out)⟩⟩
         case round =>
          clear H'
          try clear c1
          try clear p2
          try clear c3
          try clear p3
          try clear q3
          try clear hx3
          try clear hf3
          try clear p6
          try clear c7
          try clear c8
          try clear c14
          try clear c17
          try clear c18
          try clear c30
          try clear c30b0
          try clear c31
          try clear c31b0
          try clear c32
          try clear p32
          try clear q32
          try clear hx32
          try clear hf32
          try clear c34
          try clear hx34
          try clear hf34
          try clear hx32_0
          try clear hx32_1
          try clear hx32_2
          try clear hx32_3
          try clear hx32_4
          try clear hx32_5
          try clear hx32_6
          try clear hx32_7
          try clear hx32_8
          try clear hx32_9
          try clear hx34_1
          try clear p2
          try clear p32
          try clear q32
          obtain ⟨x12_3, rfl, HA, HK3, HO_5, HO_7, HO_8, HB⟩ := hrel
          cases gk with
          | zero => exact absurd HA.out (by simp [billiardlaw17_JacobiKeeps.l1])
          | succ k3 =>
           have H := HA.out
           clear HA
           simp only [billiardlaw17_JacobiKeeps.l1] at H
           by_cases c37 : x12_3 < (l1.length : Int)
           ·rw [if_pos c37] at H
            have c37b0 : decide (x12_3 < (l1.length : Int)) = true := decide_eq_true c37
            clear c37
            by_cases c38 : 0 ≤ x12_3
            ·rw [if_pos c38] at H
             have c38b0 : decide (0 ≤ x12_3) = true := decide_eq_true c38
             clear c38
             by_cases c39 : x12_3 < (y246.length : Int)
             ·rw [if_pos c39] at H
              have c39b0 : decide (x12_3 < (y246.length : Int)) = true := decide_eq_true c39
              clear c39
              by_cases c40 : ((!(((rd_T41 y246 x12_3).f0.f0) == ((rd_T41 l1 x12_3).f0.f0)) || (!(((rd_T41 y246 x12_3).f0.f1) == ((rd_T41 l1 x12_3).f0.f1)))) || ((!(((rd_T41 y246 x12_3).f1.f0) == ((rd_T41 l1 x12_3).f1.f0)) || (!(((rd_T41 y246 x12_3).f1.f1) == ((rd_T41 l1 x12_3).f1.f1)))) || (!(((rd_T41 y246 x12_3).f2) == ((rd_T41 l1 x12_3).f2))))) = true
              ·rw [if_pos c40] at H
               have c40b0 : ((!(((rd_T41 y246 x12_3).f0.f0) == ((rd_T41 l1 x12_3).f0.f0)) || (!(((rd_T41 y246 x12_3).f0.f1) == ((rd_T41 l1 x12_3).f0.f1)))) || ((!(((rd_T41 y246 x12_3).f1.f0) == ((rd_T41 l1 x12_3).f1.f0)) || (!(((rd_T41 y246 x12_3).f1.f1) == ((rd_T41 l1 x12_3).f1.f1)))) || (!(((rd_T41 y246 x12_3).f2) == ((rd_T41 l1 x12_3).f2))))) = true := c40
               clear c40
               exact absurd ((Option.some.inj H).trans HR.out) (by decide)
              ·rw [if_neg c40] at H
               have c40b0 : ((!(((rd_T41 y246 x12_3).f0.f0) == ((rd_T41 l1 x12_3).f0.f0)) || (!(((rd_T41 y246 x12_3).f0.f1) == ((rd_T41 l1 x12_3).f0.f1)))) || ((!(((rd_T41 y246 x12_3).f1.f0) == ((rd_T41 l1 x12_3).f1.f0)) || (!(((rd_T41 y246 x12_3).f1.f1) == ((rd_T41 l1 x12_3).f1.f1)))) || (!(((rd_T41 y246 x12_3).f2) == ((rd_T41 l1 x12_3).f2))))) = false := by simpa using c40
               clear c40
               have H' := aM H
               clear H
               have p254 : 0 ≤ (x12_3 : Int) := of_decide_eq_true (by first | (with_reducible assumption) | assumption)
               have q254 : x12_3 < (y246.length : Int) := of_decide_eq_true (by first | (with_reducible assumption) | assumption)
               obtain ⟨ad254, e254, hx254_0, hx254_1, hx254_2, hx254_3, hx254_4⟩ := at_T41 (Kd.R_reads' HO_8.out).2.2 x12_3 p254 q254
               cases e254
               replace p254 := eq_true p254
               replace q254 := eq_true q254
               have p255 : 0 ≤ (x12_3 : Int) := of_decide_eq_true (by first | (with_reducible assumption) | assumption)
               have q255 : x12_3 < (l1.length : Int) := of_decide_eq_true (by first | (with_reducible assumption) | assumption)
               obtain ⟨ad255, e255, hx255_0, hx255_1, hx255_2, hx255_3, hx255_4⟩ := at_T41 HR1.out x12_3 p255 q255
               cases e255
               replace hx255_0 := (HB.out.cell (World.block_lt_of_cell? w _ hx255_0)).trans hx255_0
               replace hx255_1 := (HB.out.cell (World.block_lt_of_cell? w _ hx255_1)).trans hx255_1
               replace hx255_2 := (HB.out.cell (World.block_lt_of_cell? w _ hx255_2)).trans hx255_2
               replace hx255_3 := (HB.out.cell (World.block_lt_of_cell? w _ hx255_3)).trans hx255_3
               replace hx255_4 := (HB.out.cell (World.block_lt_of_cell? w _ hx255_4)).trans hx255_4
               replace p255 := eq_true p255
               replace q255 := eq_true q255
               go_wp2
               repeat (go_quiet (fail); try go_wp2)
               go_roundg k3
               case measure => have := HJ3.out; have := HK2.out; have := HK3.out; omega
               case rel => exact ⟨(wrap64 (x12_3 + 1)), (by first | rfl | (simp; done) | (simp [*]; done)), H', ⟨by have := HJ3.out; have := HK2.out; have := HK3.out; omega⟩, ⟨by (with_reducible repeat (first | apply Kd.R_alloc | apply Kd.R_drewN | apply Kd.R_drew)); exact HO_5.out⟩, ⟨by (with_reducible repeat (first | apply Kd.R_alloc | apply Kd.R_drewN | apply Kd.R_drew)); exact HO_7.out⟩, ⟨by (with_reducible repeat (first | apply Kd.R_alloc | apply Kd.R_drewN | apply Kd.R_drew)); exact HO_8.out⟩, ⟨by repeat (first | (with_reducible first | exact HB.out | apply lA | apply lN | apply lD) | exact HB.out)⟩⟩
             ·rw [if_neg c39] at H
              exact absurd H (by simp)
            ·rw [if_neg c38] at H
             exact absurd H (by simp)
           ·rw [if_neg c37] at H
            have c37b0 : decide (x12_3 < (l1.length : Int)) = false := decide_eq_false c37
            clear c37
            replace H := Option.bind_eq_some_iff.mp H
            obtain ⟨t256, A410, H⟩ := H
            try dsimp only at H
            have A41 := aM A410
            clear A410
            obtain rfl := Option.some.inj H
            go_wp2_with (first | (go_at_call 18; (with_reducible refine (billiardref06_Same.calls k3 _ _ y240 _ _ t230 t256 _ ?side1 ?side2 ?side3 ?side4 A41.out).mono ?_); (case side1 => repeat (first | exact (Kd.R_reads' HO_7.out).2.2 | (with_reducible refine Kd.C_alloc ?_ _) | (with_reducible refine Kd.C_drewN ?_ _) | (with_reducible refine Kd.C_drew ?_))); (case side2 => exact (Kd.R_reads' HO_7.out).2.1); (case side3 => repeat (first | exact (Kd.R_reads' HO_5.out).2.2 | (with_reducible refine Kd.C_alloc ?_ _) | (with_reducible refine Kd.C_drewN ?_ _) | (with_reducible refine Kd.C_drew ?_))); (case side4 => exact (Kd.R_reads' HO_5.out).2.1); rintro e w' ⟨rfl, ⟨nd, rfl⟩⟩; (try first | exact ⟨rfl, _, World.drewN_drewN _ _ _⟩ | exact ⟨rfl, _, Eq.trans (World.drewN_drewN _ _ _) (congrArg (World.drewN _) (Nat.add_assoc _ _ _))⟩)))
            repeat (go_quiet (first | (go_at_call 18; (with_reducible refine (billiardref06_Same.calls k3 _ _ y240 _ _ t230 t256 _ ?side1 ?side2 ?side3 ?side4 A41.out).mono ?_); (case side1 => repeat (first | exact (Kd.R_reads' HO_7.out).2.2 | (with_reducible refine Kd.C_alloc ?_ _) | (with_reducible refine Kd.C_drewN ?_ _) | (with_reducible refine Kd.C_drew ?_))); (case side2 => exact (Kd.R_reads' HO_7.out).2.1); (case side3 => repeat (first | exact (Kd.R_reads' HO_5.out).2.2 | (with_reducible refine Kd.C_alloc ?_ _) | (with_reducible refine Kd.C_drewN ?_ _) | (with_reducible refine Kd.C_drew ?_))); (case side4 => exact (Kd.R_reads' HO_5.out).2.1); rintro e w' ⟨rfl, ⟨nd, rfl⟩⟩; (try first | exact ⟨rfl, _, World.drewN_drewN _ _ _⟩ | exact ⟨rfl, _, Eq.trans (World.drewN_drewN _ _ _) (congrArg (World.drewN _) (Nat.add_assoc _ _ _))⟩))); try go_wp2_with (first | (go_at_call 18; (with_reducible refine (billiardref06_Same.calls k3 _ _ y240 _ _ t230 t256 _ ?side1 ?side2 ?side3 ?side4 A41.out).mono ?_); (case side1 => repeat (first | exact (Kd.R_reads' HO_7.out).2.2 | (with_reducible refine Kd.C_alloc ?_ _) | (with_reducible refine Kd.C_drewN ?_ _) | (with_reducible refine Kd.C_drew ?_))); (case side2 => exact (Kd.R_reads' HO_7.out).2.1); (case side3 => repeat (first | exact (Kd.R_reads' HO_5.out).2.2 | (with_reducible refine Kd.C_alloc ?_ _) | (with_reducible refine Kd.C_drewN ?_ _) | (with_reducible refine Kd.C_drew ?_))); (case side4 => exact (Kd.R_reads' HO_5.out).2.1); rintro e w' ⟨rfl, ⟨nd, rfl⟩⟩; (try first | exact ⟨rfl, _, World.drewN_drewN _ _ _⟩ | exact ⟨rfl, _, Eq.trans (World.drewN_drewN _ _ _) (congrArg (World.drewN _) (Nat.add_assoc _ _ _))⟩))))
            go_ret
            exact ⟨by first | rfl | (simp [errW_none, errW_some] <;> rfl) | (simp [*, errW_none, errW_some] <;> rfl), by repeat (first | (with_reducible first | exact HB.out | apply lA | apply lN | apply lD) | exact HB.out)⟩
     ·rw [if_neg c18] at H
      exact absurd H (by simp)
    ·rw [if_neg c17] at H
     exact absurd H (by simp)

/-- THE ONE PURE STATEMENT of billiardlaw17_JacobiKeeps: yours. -/
def billiardlaw17_JacobiKeeps.Pure : Prop := ∀ (l0 : List (S44)) (l1 : List (S41)), (∀ x ∈ l0, Flat.WFB x) → (∀ x ∈ l1, Flat.WFC x) → ∃ k, billiardlaw17_JacobiKeeps.f k l0 l1 = some true
theorem billiardlaw17_JacobiKeeps.walk (P : billiardlaw17_JacobiKeeps.Pure) (a0 : Option Addr) (cap0 : Nat) (l0 : List (S44)) (a1 : Option Addr) (cap1 : Nat) (l1 : List (S41)) (w : World) (w0 : Kd.C k44 w a0 l0.length l0) (c0 : l0.length ≤ cap0) (m0 : ∀ x ∈ l0, Flat.WFB x) (w1 : Kd.C k41 w a1 l1.length l1) (c1 : l1.length ≤ cap1) (m1 : ∀ x ∈ l1, Flat.WFC x) :
  Calls Try.prog 7 #[.slice a0 l0.length cap0, .slice a1 l1.length cap1] w fun e w' => e = .returned (.bool true) ∧ Below w.heap.size w w' := by
 obtain ⟨k, h⟩ := P l0 l1 m0 m1
 refine (billiardlaw17_JacobiKeeps.calls k _ _ l0 _ _ l1 true w w0 c0 w1 c1 h rfl).mono ?_
 rintro e w' ⟨rfl, hd⟩
 exact ⟨rfl, hd⟩

end Go.Proofs.Ytcbdcgghccjdpaa.Q
