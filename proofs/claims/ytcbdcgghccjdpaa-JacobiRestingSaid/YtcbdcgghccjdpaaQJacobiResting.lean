-- PRINTED by print.py (a twelfth state) out of the translation. Not trusted: Lean checks it.
import Derived.Test.YtcbdcgghccjdpaaQ0
import Derived.Test.YtcbdcgghccjdpaaMspec
import Derived.Test.YtcbdcgghccjdpaaQbilliardlaw17
import Derived.Test.YtcbdcgghccjdpaaQbilliardref06
import Derived.Test.YtcbdcgghccjdpaaQbilliardref11
import Derived.Test.YtcbdcgghccjdpaaQbilliardref17
import Derived.Test.YtcbdcgghccjdpaaQjacobi
import Derived.Test.YtcbdcgghccjdpaaMslice
namespace Go.Proofs.Ytcbdcgghccjdpaa.Q
open Go.RowKit Go.Proofs.YtcbdcgghccjdpaaW.PrintWords Go.Proofs.YtcbdcgghccjdpaaW.PrintLast Go.Proofs.YtcbdcgghccjdpaaW.PrintMore
open Go.Proofs.YtcbdcgghccjdpaaW.PrintWords renaming blk_drewN → bN, blk_drew → bD, blk_alloc → bA, blk_below → bB, blk_cell → bC, blk_frozen → bF, blk_far → bR, blk_lt → bL, blk_put → bP, below_alloc → lA, pw_below_drewN → lN, below_drew1 → lD, below_set → lS, below_step → lT, below_size → lZ, Aside0.mk → aM
open List renaming setIfInBounds_toArray → sA, set_cons_zero → sB, set_cons_succ → sC
open Bool renaming true → T, false → F
attribute [local go_sem] max2_int min2_int max_two min_two max_three min_three max_four min_four   -- for this text's walks alone
set_option linter.unusedVariables false
set_option linter.unusedSimpArgs false

/-! ### billiardlaw17_JacobiResting: function 6 -/
-- IMPORT Derived.Test.YtcbdcgghccjdpaaMslice
mutual
def billiardlaw17_JacobiResting.j0 : Nat → List (S41) → List (S44) → Bool → Int → Int → Option (Bool)
 | 0, _, _, _, _, _ => none
 | k + 1, x1, x7, x52, x374000, x374001 => if x52 = true then ((billiardlaw17_awake.f k).bind fun t380 => (some t380)) else (billiardlaw17_JacobiResting.l0 k x1 x7 ([] : List (S44)) 0 x374000 x374001)
def billiardlaw17_JacobiResting.l0 : Nat → List (S41) → List (S44) → List (S44) → Int → Int → Int → Option (Bool)
 | 0, _, _, _, _, _, _ => none
 | k + 1, x1, x7, x9, x10, x374000, x374001 => if x10 < (x7.length : Int) then (if 0 ≤ x10 then (if x9.length < 3518437208883 then (billiardlaw17_JacobiResting.l0 k x1 x7 (x9 ++ [(⟨(rd_T44 x7 x10).f0, (rd_T44 x7 x10).f1, (⟨(rd_T44 x7 x10).f2.f0, (rd_T44 x7 x10).f2.f1⟩ : S39), (rd_T44 x7 x10).f3, (rd_T44 x7 x10).f4, (⟨(rd_T44 x7 x10).f5.f0, (rd_T44 x7 x10).f5.f1⟩ : S39), (⟨x374000, x374001⟩ : S39)⟩ : S44)]) (wrap64 (x10 + 1)) x374000 x374001) else (none)) else (none)) else ((jacobi_Solve.f k x9 x1).bind fun bt386 => ((jacobi_Solve.f k x7 ([] : List (S41))).bind fun bt390 => ((billiardref06_Same.f k bt386.1 x9).bind fun t394 => (if t394 = true then (if bt386.2 = true then (some false) else ((billiardref06_Same.f k bt390.1 x7).bind fun t395 => (if t395 = true then (some (!bt390.2)) else (some false)))) else (some false)))))
end
def billiardlaw17_JacobiResting.f (k : Nat) (l0 : List (S44)) (l1 : List (S41)) (a2_0 : Int) (a2_1 : Int) : Option (Bool) := (billiardref11_View.f k l0).bind fun bt374 => ((billiardlaw17_awake.f k).bind fun t378 => (if t378 = true then (if bt374.2 = true then ((billiardref17_Right.f k bt374.1 l1).bind fun t379 => (if t379 = true then (if a2_0 < (-16777216) then (billiardlaw17_JacobiResting.j0 k l1 bt374.1 true a2_0 a2_1) else (if a2_0 > 16777216 then (billiardlaw17_JacobiResting.j0 k l1 bt374.1 true a2_0 a2_1) else (if a2_1 < (-16777216) then (billiardlaw17_JacobiResting.j0 k l1 bt374.1 true a2_0 a2_1) else (billiardlaw17_JacobiResting.j0 k l1 bt374.1 (decide (a2_1 > 16777216)) a2_0 a2_1)))) else (billiardlaw17_JacobiResting.j0 k l1 bt374.1 true a2_0 a2_1))) else (billiardlaw17_JacobiResting.j0 k l1 bt374.1 true a2_0 a2_1)) else (billiardlaw17_JacobiResting.j0 k l1 bt374.1 true a2_0 a2_1)))
theorem billiardlaw17_JacobiResting.mono_l : ∀ k, (∀ y0 y1 y2 y3 y4, LeO (billiardlaw17_JacobiResting.j0 k y0 y1 y2 y3 y4) (billiardlaw17_JacobiResting.j0 (k + 1) y0 y1 y2 y3 y4)) ∧ (∀ y0 y1 y2 y3 y4 y5, LeO (billiardlaw17_JacobiResting.l0 k y0 y1 y2 y3 y4 y5) (billiardlaw17_JacobiResting.l0 (k + 1) y0 y1 y2 y3 y4 y5))
 | 0 => ⟨fun _ _ _ _ _ r h => by simp [billiardlaw17_JacobiResting.j0] at h, fun _ _ _ _ _ _ r h => by simp [billiardlaw17_JacobiResting.l0] at h⟩
 | k + 1 => by
  obtain ⟨ih0, ih1⟩ := billiardlaw17_JacobiResting.mono_l k
  refine ⟨?_, ?_⟩
  ·intro y0 y1 y2 y3 y4
   unfold billiardlaw17_JacobiResting.j0
   repeat' first
   | (with_reducible exact ih0 _ _ _ _ _)
   | (with_reducible exact ih1 _ _ _ _ _ _)
   | (with_reducible exact billiardlaw17_awake.mono _)
   | (with_reducible exact billiardref06_Same.mono _ _ _)
   | (with_reducible exact billiardref11_View.mono _ _)
   | (with_reducible exact billiardref17_Right.mono _ _ _)
   | (with_reducible exact jacobi_Solve.mono _ _ _)
   | (with_reducible exact LeO.refl _)
   | (with_reducible exact LeO.none _)
   | (with_reducible refine LeO.ite ?_ ?_)
   | (with_reducible refine LeO.bind ?_ (fun _ => ?_))
   | exact ih0 _ _ _ _ _
   | exact ih1 _ _ _ _ _ _
   | exact billiardlaw17_awake.mono _
   | exact billiardref06_Same.mono _ _ _
   | exact billiardref11_View.mono _ _
   | exact billiardref17_Right.mono _ _ _
   | exact jacobi_Solve.mono _ _ _
   | exact LeO.none _
   | refine LeO.ite ?_ ?_
   | refine LeO.bind ?_ (fun _ => ?_)
  ·intro y0 y1 y2 y3 y4 y5
   unfold billiardlaw17_JacobiResting.l0
   repeat' first
   | (with_reducible exact ih0 _ _ _ _ _)
   | (with_reducible exact ih1 _ _ _ _ _ _)
   | (with_reducible exact billiardlaw17_awake.mono _)
   | (with_reducible exact billiardref06_Same.mono _ _ _)
   | (with_reducible exact billiardref11_View.mono _ _)
   | (with_reducible exact billiardref17_Right.mono _ _ _)
   | (with_reducible exact jacobi_Solve.mono _ _ _)
   | (with_reducible exact LeO.refl _)
   | (with_reducible exact LeO.none _)
   | (with_reducible refine LeO.ite ?_ ?_)
   | (with_reducible refine LeO.bind ?_ (fun _ => ?_))
   | exact ih0 _ _ _ _ _
   | exact ih1 _ _ _ _ _ _
   | exact billiardlaw17_awake.mono _
   | exact billiardref06_Same.mono _ _ _
   | exact billiardref11_View.mono _ _
   | exact billiardref17_Right.mono _ _ _
   | exact jacobi_Solve.mono _ _ _
   | exact LeO.none _
   | refine LeO.ite ?_ ?_
   | refine LeO.bind ?_ (fun _ => ?_)
theorem billiardlaw17_JacobiResting.mono : ∀ a0 a1 a2 a3 k, LeO (billiardlaw17_JacobiResting.f k a0 a1 a2 a3) (billiardlaw17_JacobiResting.f (k + 1) a0 a1 a2 a3) := by
 intro a0 a1 a2 a3 k
 obtain ⟨ih0, ih1⟩ := billiardlaw17_JacobiResting.mono_l k
 unfold billiardlaw17_JacobiResting.f
 repeat' first
   | (with_reducible exact ih0 _ _ _ _ _)
   | (with_reducible exact ih1 _ _ _ _ _ _)
   | (with_reducible exact billiardlaw17_awake.mono _)
   | (with_reducible exact billiardref06_Same.mono _ _ _)
   | (with_reducible exact billiardref11_View.mono _ _)
   | (with_reducible exact billiardref17_Right.mono _ _ _)
   | (with_reducible exact jacobi_Solve.mono _ _ _)
   | (with_reducible exact LeO.refl _)
   | (with_reducible exact LeO.none _)
   | (with_reducible refine LeO.ite ?_ ?_)
   | (with_reducible refine LeO.bind ?_ (fun _ => ?_))
   | exact ih0 _ _ _ _ _
   | exact ih1 _ _ _ _ _ _
   | exact billiardlaw17_awake.mono _
   | exact billiardref06_Same.mono _ _ _
   | exact billiardref11_View.mono _ _
   | exact billiardref17_Right.mono _ _ _
   | exact jacobi_Solve.mono _ _ _
   | exact LeO.none _
   | refine LeO.ite ?_ ?_
   | refine LeO.bind ?_ (fun _ => ?_)
set_option maxHeartbeats 8000000 in
set_option maxRecDepth 100000 in
theorem billiardlaw17_JacobiResting.calls (k : Nat) (A0 : Option Addr) (c0 : Nat) (l0 : List (S44)) (A1 : Option Addr) (c1 : Nat) (l1 : List (S41)) (a2_0 : Int) (a2_1 : Int) (r : Bool) (w : World) (hr0 : Kd.C k44 w A0 l0.length l0) (hc0 : l0.length ≤ c0) (hr1 : Kd.C k41 w A1 l1.length l1) (hc1 : l1.length ≤ c1) (h : billiardlaw17_JacobiResting.f k l0 l1 a2_0 a2_1 = some r) (hr : r = true) :
  Calls Try.prog 6 #[.slice A0 l0.length c0, .slice A1 l1.length c1, .agg #[.int .i32 a2_0, .int .i32 a2_1]] w fun e w' => e = .returned (.bool r) ∧ Below w.heap.size w w' := by
 have HR := aM hr
 clear hr
 have hu39 := Try.underlying39
 have hu44 := Try.underlying44
 have HR0 := aM hr0
 have HC0 := aM hc0
 clear hr0 hc0
 have HR1 := aM hr1
 have HC1 := aM hc1
 clear hr1 hc1
 have HB := aM (Below.refl w.heap.size w)
 have H : ((billiardref11_View.f k l0).bind fun bt374 => ((billiardlaw17_awake.f k).bind fun t378 => (if t378 = true then (if bt374.2 = true then ((billiardref17_Right.f k bt374.1 l1).bind fun t379 => (if t379 = true then (if a2_0 < (-16777216) then (billiardlaw17_JacobiResting.j0 k l1 bt374.1 true a2_0 a2_1) else (if a2_0 > 16777216 then (billiardlaw17_JacobiResting.j0 k l1 bt374.1 true a2_0 a2_1) else (if a2_1 < (-16777216) then (billiardlaw17_JacobiResting.j0 k l1 bt374.1 true a2_0 a2_1) else (billiardlaw17_JacobiResting.j0 k l1 bt374.1 (decide (a2_1 > 16777216)) a2_0 a2_1)))) else (billiardlaw17_JacobiResting.j0 k l1 bt374.1 true a2_0 a2_1))) else (billiardlaw17_JacobiResting.j0 k l1 bt374.1 true a2_0 a2_1)) else (billiardlaw17_JacobiResting.j0 k l1 bt374.1 true a2_0 a2_1)))) = some r := h
 clear h
 replace H := Option.bind_eq_some_iff.mp H
 obtain ⟨⟨t374, t375⟩, A40, H⟩ := H
 try dsimp only at H
 have A4 := aM A40
 clear A40
 have HC5 := aM H
 clear H
 go_enter Try.func6, Try.ntmps6
 go_upto_region 2 with (first | ((with_reducible refine gate_dst (N := 5) rfl ?_); refine box_event ?hg (N := 5) ?hd (cs := #[.int .i32 a2_0, .int .i32 a2_1]) (t := 39) ?hr ?_; (case hd => rfl); (case hg => rfl); (case hr => first | (go_simp; done) | (go_simp; rfl)); intro b373 hg w6 hbox hb; have n0_ := aM (lT (by repeat (first | (with_reducible first | exact HB.out | apply lA | apply lN | apply lD) | exact HB.out)) hb); have n1_ := aM (hbox); have n2_ := aM ((by rw [hg]; exact (lZ (by repeat (first | (with_reducible first | exact HB.out | apply lA | apply lN | apply lD) | exact HB.out))) : w.heap.size ≤ b373)); have n3_ := aM ((by rw [hg]; exact (lZ (by repeat (first | (with_reducible first | exact HB.out | apply lA | apply lN | apply lD) | exact HB.out))) : w.heap.size ≤ b373)); clear HB; have HB := n0_; have BK373 := n1_; have GW373 := n2_; have GE373 := n3_; clear n0_ n1_ n2_ n3_; clear hb hbox hg) | ((with_reducible refine gate_callee (f := 8) rfl ?_); refine goesL_ (some 18) rfl rfl Try.func8 (by kernel_rfl) rfl #[.slice A0 l0.length c0] rfl (by (try simp only [List.map_toArray, List.map_cons, List.map_nil]); first | done | rfl | (simp only [List.length_drop, List.length_take]; rfl)) ?_; (with_reducible refine (billiardref11_View.calls k _ _ l0 t374 t375 _ ?side1 ?side2 A4.out).mono ?_); (case side1 => repeat (first | exact (Kd.C_below HR0.out HB.out) | (with_reducible refine Kd.C_alloc ?_ _) | (with_reducible refine Kd.C_drewN ?_ _) | (with_reducible refine Kd.C_drew ?_))); (case side2 => exact HC0.out); rintro e w7 ⟨v376, rfl, ho0, hb⟩; refine ⟨_, rfl, ?_⟩; have n0_ := aM (Kd.R_lower ho0 (lZ (by repeat (first | (with_reducible first | exact HB.out | apply lA | apply lN | apply lD | refine lS ?_ GE373.out) | exact HB.out)))); have n1_ := aM (bB (by (with_reducible repeat first | apply bN | apply bD | apply bA); exact BK373.out) hb); have n2_ := aM (lT (by repeat (first | (with_reducible first | exact HB.out | apply lA | apply lN | apply lD | refine lS ?_ GE373.out) | exact HB.out)) hb); clear BK373; clear HB; have HO377 := n0_; have BK373 := n1_; have HB := n2_; clear n0_ n1_ n2_; (try clear hb); (try clear hb2); (try clear hk); (try clear hi); (try clear ho0)))
 (try simp only [Act.put, sA, sB, sC])
 go_cut [52] (fun v52 wc => ∃ (kq : Nat) (x52_4 : Bool), v52 = .bool x52_4 ∧ Aside0 (billiardlaw17_JacobiResting.j0 kq l1 t374 x52_4 a2_0 a2_1 = some r) ∧ Aside0 (kq ≤ k) ∧ Aside0 (Kd.R k44 44 wc w.heap.size (fun _ => True) v376 t374) ∧ Aside0 (wc.heap[b373]? = some (.cells #[.int .i32 a2_0, .int .i32 a2_1] 39 (0, 0))) ∧ Aside0 (Below w.heap.size w wc))
 case first =>
  have H := HC5.out
  clear HC5
  replace H := Option.bind_eq_some_iff.mp H
  obtain ⟨t378, A80, H⟩ := H
  try dsimp only at H
  have A8 := aM A80
  clear A80
  by_cases c9 : t378 = true
  ·subst c9
   rw [if_pos rfl] at H
   by_cases c10 : t375 = true
   ·subst c10
    rw [if_pos rfl] at H
    replace H := Option.bind_eq_some_iff.mp H
    obtain ⟨t379, A110, H⟩ := H
    try dsimp only at H
    have A11 := aM A110
    clear A110
    by_cases c12 : t379 = true
    ·subst c12
     rw [if_pos rfl] at H
     by_cases c13 : a2_0 < (-16777216)
     ·rw [if_pos c13] at H
      have c13b0 : decide (a2_0 < (-16777216)) = true := decide_eq_true c13
      clear c13
      (first | rw [c13b0] | (simp only [i64_w, i32_w]; rw [c13b0]) | skip)
      have H' := aM H
      clear H
      go_wp2_with (first | ((with_reducible refine gate_callee (f := 9) rfl ?_); refine goesL_ (some 21) rfl rfl Try.func9 (by kernel_rfl) rfl #[] rfl (by (try simp only [List.map_toArray, List.map_cons, List.map_nil]); first | done | rfl | (simp only [List.length_drop, List.length_take]; rfl)) ?_; (with_reducible refine (billiardlaw17_awake.calls k  true _ A8.out).mono ?_); rintro e w14 ⟨rfl, hb⟩; refine ⟨_, rfl, ?_⟩; have n0_ := aM (Kd.R_below (by (with_reducible repeat (first | apply Kd.R_alloc | apply Kd.R_drewN | apply Kd.R_drew)); exact HO377.out) hb); have n1_ := aM (bB (by (with_reducible repeat first | apply bN | apply bD | apply bA); exact BK373.out) hb); have n2_ := aM (lT (by repeat (first | (with_reducible first | exact HB.out | apply lA | apply lN | apply lD | refine lS ?_ GE373.out) | exact HB.out)) hb); clear HO377; clear BK373; clear HB; have HO377 := n0_; have BK373 := n1_; have HB := n2_; clear n0_ n1_ n2_; (try clear hb); (try clear hb2); (try clear hk); (try clear hi); obtain ⟨Ao15, co15, eo15⟩ := Kd.R_slice HO377.out; subst eo15) | (go_at_call 10; (with_reducible refine (billiardref17_Right.calls k _ _ t374 _ _ l1 true _ ?side1 ?side2 ?side3 ?side4 A11.out).mono ?_); (case side1 => repeat (first | exact (Kd.R_reads' HO377.out).2.2 | (with_reducible refine Kd.C_alloc ?_ _) | (with_reducible refine Kd.C_drewN ?_ _) | (with_reducible refine Kd.C_drew ?_))); (case side2 => exact (Kd.R_reads' HO377.out).2.1); (case side3 => repeat (first | exact (Kd.C_below HR1.out HB.out) | (with_reducible refine Kd.C_alloc ?_ _) | (with_reducible refine Kd.C_drewN ?_ _) | (with_reducible refine Kd.C_drew ?_))); (case side4 => exact HC1.out); rintro e w16 ⟨rfl, hb⟩; have n0_ := aM (Kd.R_below (by (with_reducible repeat (first | apply Kd.R_alloc | apply Kd.R_drewN | apply Kd.R_drew)); exact HO377.out) hb); have n1_ := aM (bB (by (with_reducible repeat first | apply bN | apply bD | apply bA); exact BK373.out) hb); have n2_ := aM (lT (by repeat (first | (with_reducible first | exact HB.out | apply lA | apply lN | apply lD | refine lS ?_ GE373.out) | exact HB.out)) hb); clear HO377; clear BK373; clear HB; have HO377 := n0_; have BK373 := n1_; have HB := n2_; clear n0_ n1_ n2_; (try clear hb); (try clear hb2); (try clear hk); (try clear hi); obtain ⟨hcz17_0, hcz17_1, hfz17_0, hfz17_1⟩ := kD2 BK373.out))
      go_meet
      case rel => exact ⟨_, (true), (by first | rfl | (simp; done) | (simp [*]; done)), H', ⟨by first | omega | exact Nat.le_refl _⟩, ⟨by (with_reducible repeat (first | apply Kd.R_alloc | apply Kd.R_drewN | apply Kd.R_drew)); exact HO377.out⟩, ⟨by (with_reducible repeat first | apply bN | apply bD | apply bA); exact BK373.out⟩, ⟨by repeat (first | (with_reducible first | exact HB.out | apply lA | apply lN | apply lD | refine lS ?_ GE373.out) | exact HB.out)⟩⟩
     ·rw [if_neg c13] at H
      have c13b0 : decide (a2_0 < (-16777216)) = false := decide_eq_false c13
      clear c13
      (first | rw [c13b0] | (simp only [i64_w, i32_w]; rw [c13b0]) | skip)
      by_cases c18 : a2_0 > 16777216
      ·rw [if_pos c18] at H
       have c18b0 : decide (16777216 < a2_0) = true := decide_eq_true c18
       clear c18
       have H' := aM H
       clear H
       go_wp2_with (first | ((with_reducible refine gate_callee (f := 9) rfl ?_); refine goesL_ (some 21) rfl rfl Try.func9 (by kernel_rfl) rfl #[] rfl (by (try simp only [List.map_toArray, List.map_cons, List.map_nil]); first | done | rfl | (simp only [List.length_drop, List.length_take]; rfl)) ?_; (with_reducible refine (billiardlaw17_awake.calls k  true _ A8.out).mono ?_); rintro e w19 ⟨rfl, hb⟩; refine ⟨_, rfl, ?_⟩; have n0_ := aM (Kd.R_below (by (with_reducible repeat (first | apply Kd.R_alloc | apply Kd.R_drewN | apply Kd.R_drew)); exact HO377.out) hb); have n1_ := aM (bB (by (with_reducible repeat first | apply bN | apply bD | apply bA); exact BK373.out) hb); have n2_ := aM (lT (by repeat (first | (with_reducible first | exact HB.out | apply lA | apply lN | apply lD | refine lS ?_ GE373.out) | exact HB.out)) hb); clear HO377; clear BK373; clear HB; have HO377 := n0_; have BK373 := n1_; have HB := n2_; clear n0_ n1_ n2_; (try clear hb); (try clear hb2); (try clear hk); (try clear hi); obtain ⟨Ao20, co20, eo20⟩ := Kd.R_slice HO377.out; subst eo20) | (go_at_call 10; (with_reducible refine (billiardref17_Right.calls k _ _ t374 _ _ l1 true _ ?side1 ?side2 ?side3 ?side4 A11.out).mono ?_); (case side1 => repeat (first | exact (Kd.R_reads' HO377.out).2.2 | (with_reducible refine Kd.C_alloc ?_ _) | (with_reducible refine Kd.C_drewN ?_ _) | (with_reducible refine Kd.C_drew ?_))); (case side2 => exact (Kd.R_reads' HO377.out).2.1); (case side3 => repeat (first | exact (Kd.C_below HR1.out HB.out) | (with_reducible refine Kd.C_alloc ?_ _) | (with_reducible refine Kd.C_drewN ?_ _) | (with_reducible refine Kd.C_drew ?_))); (case side4 => exact HC1.out); rintro e w21 ⟨rfl, hb⟩; have n0_ := aM (Kd.R_below (by (with_reducible repeat (first | apply Kd.R_alloc | apply Kd.R_drewN | apply Kd.R_drew)); exact HO377.out) hb); have n1_ := aM (bB (by (with_reducible repeat first | apply bN | apply bD | apply bA); exact BK373.out) hb); have n2_ := aM (lT (by repeat (first | (with_reducible first | exact HB.out | apply lA | apply lN | apply lD | refine lS ?_ GE373.out) | exact HB.out)) hb); clear HO377; clear BK373; clear HB; have HO377 := n0_; have BK373 := n1_; have HB := n2_; clear n0_ n1_ n2_; (try clear hb); (try clear hb2); (try clear hk); (try clear hi); obtain ⟨hcz22_0, hcz22_1, hfz22_0, hfz22_1⟩ := kD2 BK373.out))
       go_meet
       case rel => exact ⟨_, (true), (by first | rfl | (simp; done) | (simp [*]; done)), H', ⟨by first | omega | exact Nat.le_refl _⟩, ⟨by (with_reducible repeat (first | apply Kd.R_alloc | apply Kd.R_drewN | apply Kd.R_drew)); exact HO377.out⟩, ⟨by (with_reducible repeat first | apply bN | apply bD | apply bA); exact BK373.out⟩, ⟨by repeat (first | (with_reducible first | exact HB.out | apply lA | apply lN | apply lD | refine lS ?_ GE373.out) | exact HB.out)⟩⟩
      ·rw [if_neg c18] at H
       have c18b0 : decide (16777216 < a2_0) = false := decide_eq_false c18
       clear c18
       by_cases c23 : a2_1 < (-16777216)
       ·rw [if_pos c23] at H
        have c23b0 : decide (a2_1 < (-16777216)) = true := decide_eq_true c23
        clear c23
        have H' := aM H
        clear H
        go_wp2_with (first | ((with_reducible refine gate_callee (f := 9) rfl ?_); refine goesL_ (some 21) rfl rfl Try.func9 (by kernel_rfl) rfl #[] rfl (by (try simp only [List.map_toArray, List.map_cons, List.map_nil]); first | done | rfl | (simp only [List.length_drop, List.length_take]; rfl)) ?_; (with_reducible refine (billiardlaw17_awake.calls k  true _ A8.out).mono ?_); rintro e w24 ⟨rfl, hb⟩; refine ⟨_, rfl, ?_⟩; have n0_ := aM (Kd.R_below (by (with_reducible repeat (first | apply Kd.R_alloc | apply Kd.R_drewN | apply Kd.R_drew)); exact HO377.out) hb); have n1_ := aM (bB (by (with_reducible repeat first | apply bN | apply bD | apply bA); exact BK373.out) hb); have n2_ := aM (lT (by repeat (first | (with_reducible first | exact HB.out | apply lA | apply lN | apply lD | refine lS ?_ GE373.out) | exact HB.out)) hb); clear HO377; clear BK373; clear HB; have HO377 := n0_; have BK373 := n1_; have HB := n2_; clear n0_ n1_ n2_; (try clear hb); (try clear hb2); (try clear hk); (try clear hi); obtain ⟨Ao25, co25, eo25⟩ := Kd.R_slice HO377.out; subst eo25) | (go_at_call 10; (with_reducible refine (billiardref17_Right.calls k _ _ t374 _ _ l1 true _ ?side1 ?side2 ?side3 ?side4 A11.out).mono ?_); (case side1 => repeat (first | exact (Kd.R_reads' HO377.out).2.2 | (with_reducible refine Kd.C_alloc ?_ _) | (with_reducible refine Kd.C_drewN ?_ _) | (with_reducible refine Kd.C_drew ?_))); (case side2 => exact (Kd.R_reads' HO377.out).2.1); (case side3 => repeat (first | exact (Kd.C_below HR1.out HB.out) | (with_reducible refine Kd.C_alloc ?_ _) | (with_reducible refine Kd.C_drewN ?_ _) | (with_reducible refine Kd.C_drew ?_))); (case side4 => exact HC1.out); rintro e w26 ⟨rfl, hb⟩; have n0_ := aM (Kd.R_below (by (with_reducible repeat (first | apply Kd.R_alloc | apply Kd.R_drewN | apply Kd.R_drew)); exact HO377.out) hb); have n1_ := aM (bB (by (with_reducible repeat first | apply bN | apply bD | apply bA); exact BK373.out) hb); have n2_ := aM (lT (by repeat (first | (with_reducible first | exact HB.out | apply lA | apply lN | apply lD | refine lS ?_ GE373.out) | exact HB.out)) hb); clear HO377; clear BK373; clear HB; have HO377 := n0_; have BK373 := n1_; have HB := n2_; clear n0_ n1_ n2_; (try clear hb); (try clear hb2); (try clear hk); (try clear hi); obtain ⟨hcz27_0, hcz27_1, hfz27_0, hfz27_1⟩ := kD2 BK373.out))
        go_meet
        case rel => exact ⟨_, (true), (by first | rfl | (simp; done) | (simp [*]; done)), H', ⟨by first | omega | exact Nat.le_refl _⟩, ⟨by (with_reducible repeat (first | apply Kd.R_alloc | apply Kd.R_drewN | apply Kd.R_drew)); exact HO377.out⟩, ⟨by (with_reducible repeat first | apply bN | apply bD | apply bA); exact BK373.out⟩, ⟨by repeat (first | (with_reducible first | exact HB.out | apply lA | apply lN | apply lD | refine lS ?_ GE373.out) | exact HB.out)⟩⟩
       ·rw [if_neg c23] at H
        have c23b0 : decide (a2_1 < (-16777216)) = false := decide_eq_false c23
        clear c23
        have H' := aM H
        clear H
        go_wp2_with (first | ((with_reducible refine gate_callee (f := 9) rfl ?_); refine goesL_ (some 21) rfl rfl Try.func9 (by kernel_rfl) rfl #[] rfl (by (try simp only [List.map_toArray, List.map_cons, List.map_nil]); first | done | rfl | (simp only [List.length_drop, List.length_take]; rfl)) ?_; (with_reducible refine (billiardlaw17_awake.calls k  true _ A8.out).mono ?_); rintro e w28 ⟨rfl, hb⟩; refine ⟨_, rfl, ?_⟩; have n0_ := aM (Kd.R_below (by (with_reducible repeat (first | apply Kd.R_alloc | apply Kd.R_drewN | apply Kd.R_drew)); exact HO377.out) hb); have n1_ := aM (bB (by (with_reducible repeat first | apply bN | apply bD | apply bA); exact BK373.out) hb); have n2_ := aM (lT (by repeat (first | (with_reducible first | exact HB.out | apply lA | apply lN | apply lD | refine lS ?_ GE373.out) | exact HB.out)) hb); clear HO377; clear BK373; clear HB; have HO377 := n0_; have BK373 := n1_; have HB := n2_; clear n0_ n1_ n2_; (try clear hb); (try clear hb2); (try clear hk); (try clear hi); obtain ⟨Ao29, co29, eo29⟩ := Kd.R_slice HO377.out; subst eo29) | (go_at_call 10; (with_reducible refine (billiardref17_Right.calls k _ _ t374 _ _ l1 true _ ?side1 ?side2 ?side3 ?side4 A11.out).mono ?_); (case side1 => repeat (first | exact (Kd.R_reads' HO377.out).2.2 | (with_reducible refine Kd.C_alloc ?_ _) | (with_reducible refine Kd.C_drewN ?_ _) | (with_reducible refine Kd.C_drew ?_))); (case side2 => exact (Kd.R_reads' HO377.out).2.1); (case side3 => repeat (first | exact (Kd.C_below HR1.out HB.out) | (with_reducible refine Kd.C_alloc ?_ _) | (with_reducible refine Kd.C_drewN ?_ _) | (with_reducible refine Kd.C_drew ?_))); (case side4 => exact HC1.out); rintro e w30 ⟨rfl, hb⟩; have n0_ := aM (Kd.R_below (by (with_reducible repeat (first | apply Kd.R_alloc | apply Kd.R_drewN | apply Kd.R_drew)); exact HO377.out) hb); have n1_ := aM (bB (by (with_reducible repeat first | apply bN | apply bD | apply bA); exact BK373.out) hb); have n2_ := aM (lT (by repeat (first | (with_reducible first | exact HB.out | apply lA | apply lN | apply lD | refine lS ?_ GE373.out) | exact HB.out)) hb); clear HO377; clear BK373; clear HB; have HO377 := n0_; have BK373 := n1_; have HB := n2_; clear n0_ n1_ n2_; (try clear hb); (try clear hb2); (try clear hk); (try clear hi); obtain ⟨hcz31_0, hcz31_1, hfz31_0, hfz31_1⟩ := kD2 BK373.out))
        go_meet
        case rel => exact ⟨_, (decide (a2_1 > 16777216)), (by first | rfl | (simp; done) | (simp [*]; done)), H', ⟨by first | omega | exact Nat.le_refl _⟩, ⟨by (with_reducible repeat (first | apply Kd.R_alloc | apply Kd.R_drewN | apply Kd.R_drew)); exact HO377.out⟩, ⟨by (with_reducible repeat first | apply bN | apply bD | apply bA); exact BK373.out⟩, ⟨by repeat (first | (with_reducible first | exact HB.out | apply lA | apply lN | apply lD | refine lS ?_ GE373.out) | exact HB.out)⟩⟩
    ·replace c12 := Bool.eq_false_iff.mpr c12
     subst c12
     rw [if_neg (show ¬ (false = true) by decide)] at H
     have H' := aM H
     clear H
     go_wp2_with (first | ((with_reducible refine gate_callee (f := 9) rfl ?_); refine goesL_ (some 21) rfl rfl Try.func9 (by kernel_rfl) rfl #[] rfl (by (try simp only [List.map_toArray, List.map_cons, List.map_nil]); first | done | rfl | (simp only [List.length_drop, List.length_take]; rfl)) ?_; (with_reducible refine (billiardlaw17_awake.calls k  true _ A8.out).mono ?_); rintro e w32 ⟨rfl, hb⟩; refine ⟨_, rfl, ?_⟩; have n0_ := aM (Kd.R_below (by (with_reducible repeat (first | apply Kd.R_alloc | apply Kd.R_drewN | apply Kd.R_drew)); exact HO377.out) hb); have n1_ := aM (bB (by (with_reducible repeat first | apply bN | apply bD | apply bA); exact BK373.out) hb); have n2_ := aM (lT (by repeat (first | (with_reducible first | exact HB.out | apply lA | apply lN | apply lD | refine lS ?_ GE373.out) | exact HB.out)) hb); clear HO377; clear BK373; clear HB; have HO377 := n0_; have BK373 := n1_; have HB := n2_; clear n0_ n1_ n2_; (try clear hb); (try clear hb2); (try clear hk); (try clear hi); obtain ⟨Ao33, co33, eo33⟩ := Kd.R_slice HO377.out; subst eo33) | (go_at_call 10; (with_reducible refine (billiardref17_Right.calls k _ _ t374 _ _ l1 false _ ?side1 ?side2 ?side3 ?side4 A11.out).mono ?_); (case side1 => repeat (first | exact (Kd.R_reads' HO377.out).2.2 | (with_reducible refine Kd.C_alloc ?_ _) | (with_reducible refine Kd.C_drewN ?_ _) | (with_reducible refine Kd.C_drew ?_))); (case side2 => exact (Kd.R_reads' HO377.out).2.1); (case side3 => repeat (first | exact (Kd.C_below HR1.out HB.out) | (with_reducible refine Kd.C_alloc ?_ _) | (with_reducible refine Kd.C_drewN ?_ _) | (with_reducible refine Kd.C_drew ?_))); (case side4 => exact HC1.out); rintro e w34 ⟨rfl, hb⟩; have n0_ := aM (Kd.R_below (by (with_reducible repeat (first | apply Kd.R_alloc | apply Kd.R_drewN | apply Kd.R_drew)); exact HO377.out) hb); have n1_ := aM (bB (by (with_reducible repeat first | apply bN | apply bD | apply bA); exact BK373.out) hb); have n2_ := aM (lT (by repeat (first | (with_reducible first | exact HB.out | apply lA | apply lN | apply lD | refine lS ?_ GE373.out) | exact HB.out)) hb); clear HO377; clear BK373; clear HB; have HO377 := n0_; have BK373 := n1_; have HB := n2_; clear n0_ n1_ n2_; (try clear hb); (try clear hb2); (try clear hk); (try clear hi)))
     go_meet
     case rel => exact ⟨_, (true), (by first | rfl | (simp; done) | (simp [*]; done)), H', ⟨by first | omega | exact Nat.le_refl _⟩, ⟨by (with_reducible repeat (first | apply Kd.R_alloc | apply Kd.R_drewN | apply Kd.R_drew)); exact HO377.out⟩, ⟨by (with_reducible repeat first | apply bN | apply bD | apply bA); exact BK373.out⟩, ⟨by repeat (first | (with_reducible first | exact HB.out | apply lA | apply lN | apply lD | refine lS ?_ GE373.out) | exact HB.out)⟩⟩
   ·replace c10 := Bool.eq_false_iff.mpr c10
    subst c10
    rw [if_neg (show ¬ (false = true) by decide)] at H
    have H' := aM H
    clear H
    go_wp2_with (first | ((with_reducible refine gate_callee (f := 9) rfl ?_); refine goesL_ (some 21) rfl rfl Try.func9 (by kernel_rfl) rfl #[] rfl (by (try simp only [List.map_toArray, List.map_cons, List.map_nil]); first | done | rfl | (simp only [List.length_drop, List.length_take]; rfl)) ?_; (with_reducible refine (billiardlaw17_awake.calls k  true _ A8.out).mono ?_); rintro e w35 ⟨rfl, hb⟩; refine ⟨_, rfl, ?_⟩; have n0_ := aM (Kd.R_below (by (with_reducible repeat (first | apply Kd.R_alloc | apply Kd.R_drewN | apply Kd.R_drew)); exact HO377.out) hb); have n1_ := aM (bB (by (with_reducible repeat first | apply bN | apply bD | apply bA); exact BK373.out) hb); have n2_ := aM (lT (by repeat (first | (with_reducible first | exact HB.out | apply lA | apply lN | apply lD | refine lS ?_ GE373.out) | exact HB.out)) hb); clear HO377; clear BK373; clear HB; have HO377 := n0_; have BK373 := n1_; have HB := n2_; clear n0_ n1_ n2_; (try clear hb); (try clear hb2); (try clear hk); (try clear hi)))
    go_meet
    case rel => exact ⟨_, (true), (by first | rfl | (simp; done) | (simp [*]; done)), H', ⟨by first | omega | exact Nat.le_refl _⟩, ⟨by (with_reducible repeat (first | apply Kd.R_alloc | apply Kd.R_drewN | apply Kd.R_drew)); exact HO377.out⟩, ⟨by (with_reducible repeat first | apply bN | apply bD | apply bA); exact BK373.out⟩, ⟨by repeat (first | (with_reducible first | exact HB.out | apply lA | apply lN | apply lD | refine lS ?_ GE373.out) | exact HB.out)⟩⟩
  ·replace c9 := Bool.eq_false_iff.mpr c9
   subst c9
   exact absurd (billiardlaw17_awake.only A8.out) (by decide)
 case rest =>
  clear HC5
  try clear c1
  try clear c2
  try clear p2
  try clear c6
  try clear c8
  try clear c9
  try clear c10
  try clear c12
  try clear c13
  try clear c13b0
  try clear c18
  try clear c18b0
  try clear c23
  try clear c23b0
  try clear hcz17_0
  try clear hcz17_1
  try clear hcz22_0
  try clear hcz22_1
  try clear hcz27_0
  try clear hcz27_1
  try clear hcz31_0
  try clear hcz31_1
  try clear hfz17_0
  try clear hfz17_1
  try clear hfz22_0
  try clear hfz22_1
  try clear hfz27_0
  try clear hfz27_1
  try clear hfz31_0
  try clear hfz31_1
  obtain ⟨kq, x52_4, rfl, HA, HJ4, HO_7, BK373, HB⟩ := hcut
  cases kq with
  | zero => exact absurd HA.out (by simp [billiardlaw17_JacobiResting.j0])
  | succ kj4 =>
   have H := HA.out
   clear HA
   simp only [billiardlaw17_JacobiResting.j0] at H
   by_cases c36 : x52_4 = true
   ·subst c36
    rw [if_pos rfl] at H
    replace H := Option.bind_eq_some_iff.mp H
    obtain ⟨t380, A370, H⟩ := H
    try dsimp only at H
    have A37 := aM A370
    clear A370
    obtain rfl := Option.some.inj H
    go_wp2_with (first | ((with_reducible refine gate_callee (f := 9) rfl ?_); refine goesL_ (some 53) rfl rfl Try.func9 (by kernel_rfl) rfl #[] rfl (by (try simp only [List.map_toArray, List.map_cons, List.map_nil]); first | done | rfl | (simp only [List.length_drop, List.length_take]; rfl)) ?_; (with_reducible refine (billiardlaw17_awake.calls kj4  t380 _ A37.out).mono ?_); rintro e w38 ⟨rfl, hb⟩; refine ⟨_, rfl, ?_⟩; have n0_ := aM (Kd.R_below (by (with_reducible repeat (first | apply Kd.R_alloc | apply Kd.R_drewN | apply Kd.R_drew)); exact HO_7.out) hb); have n1_ := aM (bB (by (with_reducible repeat first | apply bN | apply bD | apply bA); exact BK373.out) hb); have n2_ := aM (lT (by repeat (first | (with_reducible first | exact HB.out | apply lA | apply lN | apply lD | refine lS ?_ GE373.out) | exact HB.out)) hb); clear HO_7; clear BK373; clear HB; have HO_7 := n0_; have BK373 := n1_; have HB := n2_; clear n0_ n1_ n2_; (try clear hb); (try clear hb2); (try clear hk); (try clear hi)))
    go_ret
    exact ⟨by first | rfl | (simp [errW_none, errW_some] <;> rfl) | (simp [*, errW_none, errW_some] <;> rfl), by repeat (first | (with_reducible first | exact HB.out | apply lA | apply lN | apply lD | refine lS ?_ GE373.out) | exact HB.out)⟩
   ·replace c36 := Bool.eq_false_iff.mpr c36
    subst c36
    rw [if_neg (show ¬ (false = true) by decide)] at H
    have H' := aM H
    clear H
    go_wp2
    go_loopg [9, 10] kj4 (fun kq v9 v10 w' => ∃ (x9_2 : List (S44)) (x10_2 : Int), v10 = .int .i64 x10_2 ∧ Aside0 (billiardlaw17_JacobiResting.l0 kq l1 t374 x9_2 x10_2 a2_0 a2_1 = some r) ∧ Aside0 (kq ≤ kj4) ∧ Aside0 (Kd.R k44 44 w' w.heap.size (fun k_ => some k_ ≠ (v9 : Value).ownBlock) v376 t374) ∧ Aside0 (Kd.R k44 44 w' w.heap.size (fun k_ => some k_ ≠ (v376 : Value).ownBlock) v9 x9_2) ∧ Aside0 (w'.heap[b373]? = some (.cells #[.int .i32 a2_0, .int .i32 a2_1] 39 (0, 0))) ∧ Aside0 (Below w.heap.size w w'))
    case atStart => exact ⟨(([] : List (S44))), (0), (by first | rfl | (simp; done) | (simp [*]; done)), H', ⟨Nat.le_refl _⟩, ⟨by (with_reducible repeat (first | apply Kd.R_alloc | apply Kd.R_drewN | apply Kd.R_drew)); exact Kd.R_mono HO_7.out (fun _ hk => (by simp [Value.ownBlock]))⟩, ⟨by first | exact Kd.R_nil _ _ _ _ _ | exact Kd.N_nil _ _ _ _ _ | exact Kd.V_nil _ _ _ _ _ | exact Kd.Q_nil _ _ _ _ _ | exact Kd.S_nil _ _ _ _ _⟩, ⟨by (with_reducible repeat first | apply bN | apply bD | apply bA); exact BK373.out⟩, ⟨by repeat (first | (with_reducible first | exact HB.out | apply lA | apply lN | apply lD | refine lS ?_ GE373.out) | exact HB.out)⟩⟩
    case round =>
     clear H'
     try clear c1
     try clear c2
     try clear p2
     try clear c3
     try clear c6
     try clear c8
     try clear c9
     try clear c10
     try clear c12
     try clear c13
     try clear c13b0
     try clear c18
     try clear c18b0
     try clear c23
     try clear c23b0
     try clear c36
     try clear hcz17_0
     try clear hcz17_1
     try clear hcz22_0
     try clear hcz22_1
     try clear hcz27_0
     try clear hcz27_1
     try clear hcz31_0
     try clear hcz31_1
     try clear hfz17_0
     try clear hfz17_1
     try clear hfz22_0
     try clear hfz22_1
     try clear hfz27_0
     try clear hfz27_1
     try clear hfz31_0
     try clear hfz31_1
     try clear p2
     obtain ⟨x9_2, x10_2, rfl, HA, HK2, HO_7, HO_9, BK373, HB⟩ := hrel
     cases gk with
     | zero => exact absurd HA.out (by simp [billiardlaw17_JacobiResting.l0])
     | succ k2 =>
      have H := HA.out
      clear HA
      simp only [billiardlaw17_JacobiResting.l0] at H
      by_cases c39 : x10_2 < (t374.length : Int)
      ·rw [if_pos c39] at H
       have c39b0 : decide (x10_2 < (t374.length : Int)) = true := decide_eq_true c39
       clear c39
       by_cases c40 : 0 ≤ x10_2
       ·rw [if_pos c40] at H
        have c40b0 : decide (0 ≤ x10_2) = true := decide_eq_true c40
        clear c40
        by_cases c41 : x9_2.length < 3518437208883
        ·rw [if_pos c41] at H
         have LMc41 := aM c41
         clear c41
         obtain ⟨y383, hy383⟩ : ∃ y_ : List (S44), y_ = (x9_2 ++ [(⟨(rd_T44 t374 x10_2).f0, (rd_T44 t374 x10_2).f1, (⟨(rd_T44 t374 x10_2).f2.f0, (rd_T44 t374 x10_2).f2.f1⟩ : S39), (rd_T44 t374 x10_2).f3, (rd_T44 t374 x10_2).f4, (⟨(rd_T44 t374 x10_2).f5.f0, (rd_T44 t374 x10_2).f5.f1⟩ : S39), (⟨a2_0, a2_1⟩ : S39)⟩ : S44)]) := ⟨_, rfl⟩
         replace H : (billiardlaw17_JacobiResting.l0 k2 l1 t374 y383 (wrap64 (x10_2 + 1)) a2_0 a2_1) = some r := by first | (rw [hy383]; with_reducible exact H) | (have H2_ := (Option.bind_some _ _).symm.trans H; rw [hy383]; with_reducible exact H2_) | (have H2_ := (Option.bind_some _ _).symm.trans H; with_reducible exact H2_) | with_reducible exact H | (rw [hy383]; exact H) | exact H
         have Ny383 := aM hy383
         clear hy383
         have H' := aM H
         clear H
         obtain ⟨Ao42, co42, eo42⟩ := Kd.R_slice HO_7.out
         subst eo42
         have p381 : 0 ≤ (x10_2 : Int) := of_decide_eq_true (by first | (with_reducible assumption) | assumption)
         have q381 : x10_2 < (t374.length : Int) := of_decide_eq_true (by first | (with_reducible assumption) | assumption)
         obtain ⟨ad381, e381, hx381_0, hx381_1, hx381_2, hx381_3, hx381_4, hx381_5, hx381_6, hx381_7, hx381_8, hx381_9⟩ := at_T44 (Kd.R_reads' HO_7.out).2.2 x10_2 p381 q381
         cases e381
         replace p381 := eq_true p381
         replace q381 := eq_true q381
         have hal0_ : ∀ o, (wr.alloc o).cell? ⟨b373, 0, none⟩ = some (.int .i32 a2_0) := fun o => (bC (bA BK373.out o) 0).trans rfl
         have hal1_ : ∀ o, (wr.alloc o).cell? ⟨b373, 1, none⟩ = some (.int .i32 a2_1) := fun o => (bC (bA BK373.out o) 1).trans rfl
         go_wp2_with (first | ((with_reducible refine gate_builtin (b := .append) (xs := #[.tmp 66, .tmp 68]) rfl ?_); at_builtin; refine Kd.R_append k44 (w0 := w) w.heap.size rfl (.tmp 66) (.tmp 68) 22 44 (.agg #[(.int .u32 0), (.int .i32 0), (.int .i32 0), (.int .i32 0), (.int .i32 0), (.int .i32 0), (.int .i32 0), (.int .i32 0), (.int .i32 0), (.int .i32 0)]) 40 rfl Try.underlying22 info44 rfl (by decide) (by omega) u9 x9_2 (⟨(rd_T44 t374 x10_2).f0, (rd_T44 t374 x10_2).f1, (⟨(rd_T44 t374 x10_2).f2.f0, (rd_T44 t374 x10_2).f2.f1⟩ : S39), (rd_T44 t374 x10_2).f3, (rd_T44 t374 x10_2).f4, (⟨(rd_T44 t374 x10_2).f5.f0, (rd_T44 t374 x10_2).f5.f1⟩ : S39), (⟨a2_0, a2_1⟩ : S39)⟩ : S44) [.int .u32 ((rd_T44 t374 x10_2).f0), .int .i32 ((rd_T44 t374 x10_2).f1), .int .i32 ((rd_T44 t374 x10_2).f2.f0), .int .i32 ((rd_T44 t374 x10_2).f2.f1), .int .i32 ((rd_T44 t374 x10_2).f3), .int .i32 ((rd_T44 t374 x10_2).f4), .int .i32 ((rd_T44 t374 x10_2).f5.f0), .int .i32 ((rd_T44 t374 x10_2).f5.f1), .int .i32 a2_0, .int .i32 a2_1] (fun k_ => some k_ ≠ (.slice (some ad381) t374.length co42 : Value).ownBlock) (fun _ => False) rfl (by first | (go_simp; done) | (go_simp; rfl)) ?aP (fun _ hk => hk.elim) ?aF ?aO ?aB ?aS ?aL ?_; (case aP => exact k44_mkM _ _ _ (⟨(rd_T44 t374 x10_2).f0, (rd_T44 t374 x10_2).f1, (⟨(rd_T44 t374 x10_2).f2.f0, (rd_T44 t374 x10_2).f2.f1⟩ : S39), (rd_T44 t374 x10_2).f3, (rd_T44 t374 x10_2).f4, (⟨(rd_T44 t374 x10_2).f5.f0, (rd_T44 t374 x10_2).f5.f1⟩ : S39), (⟨a2_0, a2_1⟩ : S39)⟩ : S44)); (case aB => exact lA HB.out _); (case aF => exact Kd.fresh' (Kd.R_lt (Kd.R_alloc HO_7.out _))); (case aO => exact Kd.R_alloc HO_9.out _); (case aS => exact lZ (lA HB.out _)); (case aL => have := LMc41.out; omega); intro v384 w47 ho hb hg hat; rw [← Ny383.out] at ho; have n0_ := aM (Kd.R_after (ok := fun _ => True) (Kd.R_mono (Kd.R_alloc HO_7.out _) (fun _ hk => ⟨trivial, hk⟩)) hg hat); have n1_ := aM (blk_grown (bA BK373.out _) hg (Kd.R_ne HO_9.out BK373.out (by decide))); have n3_ := aM (hb); have n4_ := aM (ho); clear HO_7 BK373 HB HO_9; have HO_7 := n0_; have BK373 := n1_; have HB := n3_; have HO385 := n4_; clear n0_ n1_ n3_ n4_; clear ho hb hg hat))
         clear hal0_ hal1_
         go_roundg k2
         case measure => have := HJ4.out; have := HK2.out; omega
         case rel => exact ⟨(y383), (wrap64 (x10_2 + 1)), (by first | rfl | (simp; done) | (simp [*]; done)), H', ⟨by have := HJ4.out; have := HK2.out; omega⟩, ⟨by (with_reducible repeat (first | apply Kd.R_alloc | apply Kd.R_drewN | apply Kd.R_drew)); exact Kd.R_mono HO_7.out (fun _ hk => hk.2)⟩, ⟨by (with_reducible repeat (first | apply Kd.R_alloc | apply Kd.R_drewN | apply Kd.R_drew)); exact HO385.out⟩, ⟨by (with_reducible repeat first | apply bN | apply bD | apply bA); exact BK373.out⟩, ⟨by repeat (first | (with_reducible first | exact HB.out | apply lA | apply lN | apply lD | refine lS ?_ GE373.out) | exact HB.out)⟩⟩
        ·rw [if_neg c41] at H
         exact absurd H (by simp)
       ·rw [if_neg c40] at H
        exact absurd H (by simp)
      ·rw [if_neg c39] at H
       have c39b0 : decide (x10_2 < (t374.length : Int)) = false := decide_eq_false c39
       clear c39
       replace H := Option.bind_eq_some_iff.mp H
       obtain ⟨⟨t386, t389⟩, A480, H⟩ := H
       try dsimp only at H
       have A48 := aM A480
       clear A480
       replace H := Option.bind_eq_some_iff.mp H
       obtain ⟨⟨t390, t393⟩, A490, H⟩ := H
       try dsimp only at H
       have A49 := aM A490
       clear A490
       replace H := Option.bind_eq_some_iff.mp H
       obtain ⟨t394, A500, H⟩ := H
       try dsimp only at H
       have A50 := aM A500
       clear A500
       by_cases c51 : t394 = true
       ·subst c51
        rw [if_pos rfl] at H
        by_cases c52 : t389 = true
        ·subst c52
         rw [if_pos rfl] at H
         exact absurd ((Option.some.inj H).trans HR.out) (by decide)
        ·replace c52 := Bool.eq_false_iff.mpr c52
         subst c52
         rw [if_neg (show ¬ (false = true) by decide)] at H
         replace H := Option.bind_eq_some_iff.mp H
         obtain ⟨t395, A530, H⟩ := H
         try dsimp only at H
         have A53 := aM A530
         clear A530
         by_cases c54 : t395 = true
         ·subst c54
          rw [if_pos rfl] at H
          obtain rfl := Option.some.inj H
          obtain ⟨Ao55, co55, eo55⟩ := Kd.R_slice HO_7.out
          subst eo55
          obtain ⟨Ao56, co56, eo56⟩ := Kd.R_slice HO_9.out
          subst eo56
          go_wp2_with (first | ((with_reducible refine gate_callee (f := 14) rfl ?_); refine goesL_ (some 73) rfl rfl Try.func14 (by kernel_rfl) rfl #[.slice Ao56 x9_2.length co56, .slice A1 l1.length c1] rfl (by (try simp only [List.map_toArray, List.map_cons, List.map_nil]); first | done | rfl | (simp only [List.length_drop, List.length_take]; rfl)) ?_; (with_reducible refine (jacobi_Solve.calls k2 (fun k_ => some k_ = (.slice Ao56 x9_2.length co56 : Value).ownBlock) _ _ x9_2 _ _ l1 t386 false _ ?side1 ?side2 ?side3 A48.out).mono ?_); (case side1 => exact Kd.R_V (Kd.R_tight rfl (Kd.R_types (HO_9.out) BK373.out (by decide)))); (case side2 => repeat (first | exact (Kd.C_below HR1.out HB.out) | (with_reducible refine Kd.C_alloc ?_ _) | (with_reducible refine Kd.C_drewN ?_ _) | (with_reducible refine Kd.C_drew ?_))); (case side3 => exact HC1.out); rintro e w57 ⟨v387, rfl, ho0, hb⟩; refine ⟨_, rfl, ?_⟩; have n0_ := aM (Kd.R_below (by (with_reducible repeat (first | apply Kd.R_alloc | apply Kd.R_drewN | apply Kd.R_drew)); exact HO_7.out) hb); have n1_ := aM (Kd.R_below (by (with_reducible repeat (first | apply Kd.R_alloc | apply Kd.R_drewN | apply Kd.R_drew)); exact HO_9.out) hb); have n2_ := aM (Kd.V_lower (Kd.V_mono (ok' := fun k_ => some k_ ≠ (.slice Ao55 t374.length co55 : Value).ownBlock ∧ k_ ≠ b373) ho0 (fun k_ hk_ => ⟨Or.elim hk_ (fun hs_ => ((Kd.R_types (HO_9.out) BK373.out (by decide)).1 k_ hs_.symm).1) (fun hn_ => (Kd.fresh' (Kd.R_lt (by (with_reducible repeat (first | apply Kd.R_alloc | apply Kd.R_drewN | apply Kd.R_drew)); exact HO_7.out)) k_ hn_)), Or.elim hk_ (fun hs_ => ((Kd.R_types (HO_9.out) BK373.out (by decide)).1 k_ hs_.symm).2) (fun hn_ => (Kd.freshB (g := b373) (o := .cells #[.int .i32 a2_0, .int .i32 a2_1] 39 (0, 0)) (by (with_reducible repeat first | apply bN | apply bD | apply bA); exact BK373.out) k_ hn_))⟩)) (lZ (by repeat (first | (with_reducible first | exact HB.out | apply lA | apply lN | apply lD | refine lS ?_ GE373.out) | exact HB.out)))); have n3_ := aM (bB (by (with_reducible repeat first | apply bN | apply bD | apply bA); exact BK373.out) hb); have n4_ := aM (lT (by repeat (first | (with_reducible first | exact HB.out | apply lA | apply lN | apply lD | refine lS ?_ GE373.out) | exact HB.out)) hb); clear HO_7; clear HO_9; clear BK373; clear HB; have HO_7 := n0_; have HO_9 := n1_; have HO388 := n2_; have BK373 := n3_; have HB := n4_; clear n0_ n1_ n2_ n3_ n4_; (try clear hb); (try clear hb2); (try clear hk); (try clear hi); (try clear ho0)) | ((with_reducible refine gate_callee (f := 14) rfl ?_); refine goesL_ (some 78) rfl rfl Try.func14 (by kernel_rfl) rfl #[.slice Ao55 t374.length co55, .slice none 0 0] rfl (by (try simp only [List.map_toArray, List.map_cons, List.map_nil]); first | done | rfl | (simp only [List.length_drop, List.length_take]; rfl)) ?_; (refine (jacobi_Solve.calls k2 (fun k_ => some k_ = (.slice Ao55 t374.length co55 : Value).ownBlock) _ _ t374 _ _ ([] : List (S41)) t390 t393 _ ?side1 ?side2 ?side3 A49.out).mono ?_); (case side1 => exact Kd.R_V (Kd.R_tight rfl (Kd.R_types (HO_7.out) BK373.out (by decide)))); (case side2 => exact Kd.C_nil _ _); (case side3 => exact Nat.le_refl _); rintro e w58 ⟨v391, rfl, ho0, hb⟩; refine ⟨_, rfl, ?_⟩; have n0_ := aM (Kd.R_below (by (with_reducible repeat (first | apply Kd.R_alloc | apply Kd.R_drewN | apply Kd.R_drew)); exact HO_7.out) hb); have n1_ := aM (Kd.R_below (by (with_reducible repeat (first | apply Kd.R_alloc | apply Kd.R_drewN | apply Kd.R_drew)); exact HO_9.out) hb); have n2_ := aM (Kd.V_below (by (with_reducible repeat (first | apply Kd.V_alloc | apply Kd.V_drewN | apply Kd.V_drew)); exact HO388.out) hb); have n3_ := aM (Kd.V_lower (Kd.V_mono (ok' := fun k_ => some k_ ≠ (.slice Ao56 x9_2.length co56 : Value).ownBlock ∧ k_ ≠ b373) ho0 (fun k_ hk_ => ⟨Or.elim hk_ (fun hs_ => ((Kd.R_types (HO_7.out) BK373.out (by decide)).1 k_ hs_.symm).1) (fun hn_ => (Kd.fresh' (Kd.R_lt (by (with_reducible repeat (first | apply Kd.R_alloc | apply Kd.R_drewN | apply Kd.R_drew)); exact HO_9.out)) k_ hn_)), Or.elim hk_ (fun hs_ => ((Kd.R_types (HO_7.out) BK373.out (by decide)).1 k_ hs_.symm).2) (fun hn_ => (Kd.freshB (g := b373) (o := .cells #[.int .i32 a2_0, .int .i32 a2_1] 39 (0, 0)) (by (with_reducible repeat first | apply bN | apply bD | apply bA); exact BK373.out) k_ hn_))⟩)) (lZ (by repeat (first | (with_reducible first | exact HB.out | apply lA | apply lN | apply lD | refine lS ?_ GE373.out) | exact HB.out)))); have n4_ := aM (bB (by (with_reducible repeat first | apply bN | apply bD | apply bA); exact BK373.out) hb); have n5_ := aM (lT (by repeat (first | (with_reducible first | exact HB.out | apply lA | apply lN | apply lD | refine lS ?_ GE373.out) | exact HB.out)) hb); clear HO_7; clear HO_9; clear HO388; clear BK373; clear HB; have HO_7 := n0_; have HO_9 := n1_; have HO388 := n2_; have HO392 := n3_; have BK373 := n4_; have HB := n5_; clear n0_ n1_ n2_ n3_ n4_ n5_; (try clear hb); (try clear hb2); (try clear hk); (try clear hi); (try clear ho0); obtain ⟨Ao59, co59, eo59⟩ := Kd.V_slice HO388.out; subst eo59) | ((with_reducible refine gate_callee (f := 18) rfl ?_); refine goesL_ (some 83) rfl rfl Try.func18 (by kernel_rfl) rfl #[.slice Ao59 t386.length co59, .slice Ao56 x9_2.length co56] rfl (by (try simp only [List.map_toArray, List.map_cons, List.map_nil]); first | done | rfl | (simp only [List.length_drop, List.length_take]; rfl)) ?_; (with_reducible refine (billiardref06_Same.calls k2 _ _ t386 _ _ x9_2 true _ ?side1 ?side2 ?side3 ?side4 A50.out).mono ?_); (case side1 => repeat (first | exact (Kd.V_reads' HO388.out).2.2 | (with_reducible refine Kd.C_alloc ?_ _) | (with_reducible refine Kd.C_drewN ?_ _) | (with_reducible refine Kd.C_drew ?_))); (case side2 => exact (Kd.V_reads' HO388.out).2.1); (case side3 => repeat (first | exact (Kd.R_reads' HO_9.out).2.2 | (with_reducible refine Kd.C_alloc ?_ _) | (with_reducible refine Kd.C_drewN ?_ _) | (with_reducible refine Kd.C_drew ?_))); (case side4 => exact (Kd.R_reads' HO_9.out).2.1); rintro e w' ⟨rfl, ⟨nd, rfl⟩⟩; refine ⟨_, rfl, ?_⟩; obtain ⟨Ao60, co60, eo60⟩ := Kd.V_slice HO392.out; subst eo60) | (go_at_call 18; (with_reducible refine (billiardref06_Same.calls k2 _ _ t390 _ _ t374 true _ ?side1 ?side2 ?side3 ?side4 A53.out).mono ?_); (case side1 => repeat (first | exact (Kd.V_reads' HO392.out).2.2 | (with_reducible refine Kd.C_alloc ?_ _) | (with_reducible refine Kd.C_drewN ?_ _) | (with_reducible refine Kd.C_drew ?_))); (case side2 => exact (Kd.V_reads' HO392.out).2.1); (case side3 => repeat (first | exact (Kd.R_reads' HO_7.out).2.2 | (with_reducible refine Kd.C_alloc ?_ _) | (with_reducible refine Kd.C_drewN ?_ _) | (with_reducible refine Kd.C_drew ?_))); (case side4 => exact (Kd.R_reads' HO_7.out).2.1); rintro e w' ⟨rfl, ⟨nd, rfl⟩⟩))
          go_ret
          exact ⟨by first | rfl | (simp [errW_none, errW_some] <;> rfl) | (simp [*, errW_none, errW_some] <;> rfl), by repeat (first | (with_reducible first | exact HB.out | apply lA | apply lN | apply lD | refine lS ?_ GE373.out) | exact HB.out)⟩
         ·replace c54 := Bool.eq_false_iff.mpr c54
          subst c54
          rw [if_neg (show ¬ (false = true) by decide)] at H
          exact absurd ((Option.some.inj H).trans HR.out) (by decide)
       ·replace c51 := Bool.eq_false_iff.mpr c51
        subst c51
        rw [if_neg (show ¬ (false = true) by decide)] at H
        exact absurd ((Option.some.inj H).trans HR.out) (by decide)

/-- THE ONE PURE STATEMENT of billiardlaw17_JacobiResting: yours. -/
def billiardlaw17_JacobiResting.Pure : Prop := ∀ (l0 : List (S44)) (l1 : List (S41)) (a2_0 : Int) (a2_1 : Int), (∀ x ∈ l0, Flat.WFB x) → (∀ x ∈ l1, Flat.WFC x) → (Lit.int .i32 a2_0).wf = true → (Lit.int .i32 a2_1).wf = true → ∃ k, billiardlaw17_JacobiResting.f k l0 l1 a2_0 a2_1 = some true
theorem billiardlaw17_JacobiResting.walk (P : billiardlaw17_JacobiResting.Pure) (a0 : Option Addr) (cap0 : Nat) (l0 : List (S44)) (a1 : Option Addr) (cap1 : Nat) (l1 : List (S41)) (a2_0 : Int) (a2_1 : Int) (w : World) (w0 : Kd.C k44 w a0 l0.length l0) (c0 : l0.length ≤ cap0) (m0 : ∀ x ∈ l0, Flat.WFB x) (w1 : Kd.C k41 w a1 l1.length l1) (c1 : l1.length ≤ cap1) (m1 : ∀ x ∈ l1, Flat.WFC x) (w2_0 : (Lit.int .i32 a2_0).wf = true) (w2_1 : (Lit.int .i32 a2_1).wf = true) :
  Calls Try.prog 6 #[.slice a0 l0.length cap0, .slice a1 l1.length cap1, .agg #[.int .i32 a2_0, .int .i32 a2_1]] w fun e w' => e = .returned (.bool true) ∧ Below w.heap.size w w' := by
 obtain ⟨k, h⟩ := P l0 l1 a2_0 a2_1 m0 m1 w2_0 w2_1
 refine (billiardlaw17_JacobiResting.calls k _ _ l0 _ _ l1 a2_0 a2_1 true w w0 c0 w1 c1 h rfl).mono ?_
 rintro e w' ⟨rfl, hd⟩
 exact ⟨rfl, hd⟩

end Go.Proofs.Ytcbdcgghccjdpaa.Q
