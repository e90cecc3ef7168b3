-- PRINTED by print.py (a twelfth state) out of the translation. Not trusted: Lean checks it.
import Derived.Test.YtcbdcgghccjdpaaQ0
import Derived.Test.YtcbdcgghccjdpaaMspec
import Derived.Test.YtcbdcgghccjdpaaQbilliardlaw17
import Derived.Test.YtcbdcgghccjdpaaQbilliardref06
import Derived.Test.YtcbdcgghccjdpaaQbilliardref11
import Derived.Test.YtcbdcgghccjdpaaQbilliardref17
import Derived.Test.YtcbdcgghccjdpaaQjacobi
import Derived.Test.YtcbdcgghccjdpaaMslice
namespace Go.Proofs.Ytcbdcgghccjdpaa.Q
open Go.RowKit Go.Proofs.YtcbdcgghccjdpaaW.PrintWords Go.Proofs.YtcbdcgghccjdpaaW.PrintLast Go.Proofs.YtcbdcgghccjdpaaW.PrintMore
open Go.Proofs.YtcbdcgghccjdpaaW.PrintWords renaming below_alloc → lA, pw_below_drewN → lN, below_drew1 → lD, below_step → lT, below_size → lZ, Aside0.mk → aM
open List renaming setIfInBounds_toArray → sA, set_cons_zero → sB, set_cons_succ → sC
open Bool renaming true → T, false → F
attribute [local go_sem] max2_int min2_int max_two min_two max_three min_three max_four min_four   -- for this text's walks alone
set_option linter.unusedVariables false
set_option linter.unusedSimpArgs false

/-! ### billiardlaw17_JacobiOrderFree: function 4 -/
-- IMPORT Derived.Test.YtcbdcgghccjdpaaMslice
mutual
def billiardlaw17_JacobiOrderFree.j0 : Nat → List (S41) → Int → List (S44) → Bool → Option (Bool)
 | 0, _, _, _, _ => none
 | k + 1, x1, x2, x7, x37 => if x37 = true then ((billiardlaw17_awake.f k).bind fun t331 => (some t331)) else (if (x1.length : Int) = 0 then (none) else (billiardlaw17_JacobiOrderFree.l0 k x1 x7 (Int.tmod (wrap64 (x2)) (x1.length : Int)) ([] : List (S41)) 0))
def billiardlaw17_JacobiOrderFree.l0 : Nat → List (S41) → List (S44) → Int → List (S41) → Int → Option (Bool)
 | 0, _, _, _, _, _ => none
 | k + 1, x1, x7, x9, x10, x11 => if x11 < (x1.length : Int) then (if (x1.length : Int) = 0 then (none) else (if 0 ≤ (Int.tmod (wrap64 ((wrap64 (x9 + (x1.length : Int))) - x11)) (x1.length : Int)) then (if (Int.tmod (wrap64 ((wrap64 (x9 + (x1.length : Int))) - x11)) (x1.length : Int)) < (x1.length : Int) then (if x10.length < 7036874417766 then (billiardlaw17_JacobiOrderFree.l0 k x1 x7 x9 (x10 ++ [(⟨(⟨(rd_T41 x1 (Int.tmod (wrap64 ((wrap64 (x9 + (x1.length : Int))) - x11)) (x1.length : Int))).f0.f0, (rd_T41 x1 (Int.tmod (wrap64 ((wrap64 (x9 + (x1.length : Int))) - x11)) (x1.length : Int))).f0.f1⟩ : S37), (⟨(rd_T41 x1 (Int.tmod (wrap64 ((wrap64 (x9 + (x1.length : Int))) - x11)) (x1.length : Int))).f1.f0, (rd_T41 x1 (Int.tmod (wrap64 ((wrap64 (x9 + (x1.length : Int))) - x11)) (x1.length : Int))).f1.f1⟩ : S39), (rd_T41 x1 (Int.tmod (wrap64 ((wrap64 (x9 + (x1.length : Int))) - x11)) (x1.length : Int))).f2⟩ : S41)]) (wrap64 (x11 + 1))) else (none)) else (none)) else (none))) else ((jacobi_Solve.f k x7 x1).bind fun bt336 => ((jacobi_Solve.f k x7 x10).bind fun bt340 => ((billiardref06_Same.f k bt336.1 bt340.1).bind fun t344 => (if t344 = true then (some (bt336.2 == bt340.2)) else (some false)))))
end
def billiardlaw17_JacobiOrderFree.f (k : Nat) (l0 : List (S44)) (l1 : List (S41)) (a2 : Int) : Option (Bool) := (billiardref11_View.f k l0).bind fun bt325 => ((billiardlaw17_awake.f k).bind fun t329 => (if t329 = true then (if bt325.2 = true then ((billiardref17_Right.f k bt325.1 l1).bind fun t330 => (if t330 = true then (billiardlaw17_JacobiOrderFree.j0 k l1 a2 bt325.1 ((l1.length : Int) == 0)) else (billiardlaw17_JacobiOrderFree.j0 k l1 a2 bt325.1 true))) else (billiardlaw17_JacobiOrderFree.j0 k l1 a2 bt325.1 true)) else (billiardlaw17_JacobiOrderFree.j0 k l1 a2 bt325.1 true)))
theorem billiardlaw17_JacobiOrderFree.mono_l : ∀ k, (∀ y0 y1 y2 y3, LeO (billiardlaw17_JacobiOrderFree.j0 k y0 y1 y2 y3) (billiardlaw17_JacobiOrderFree.j0 (k + 1) y0 y1 y2 y3)) ∧ (∀ y0 y1 y2 y3 y4, LeO (billiardlaw17_JacobiOrderFree.l0 k y0 y1 y2 y3 y4) (billiardlaw17_JacobiOrderFree.l0 (k + 1) y0 y1 y2 y3 y4))
 | 0 => ⟨fun _ _ _ _ r h => by simp [billiardlaw17_JacobiOrderFree.j0] at h, fun _ _ _ _ _ r h => by simp [billiardlaw17_JacobiOrderFree.l0] at h⟩
 | k + 1 => by
  obtain ⟨ih0, ih1⟩ := billiardlaw17_JacobiOrderFree.mono_l k
  refine ⟨?_, ?_⟩
  ·intro y0 y1 y2 y3
   unfold billiardlaw17_JacobiOrderFree.j0
   repeat' first
   | (with_reducible exact ih0 _ _ _ _)
   | (with_reducible exact ih1 _ _ _ _ _)
   | (with_reducible exact billiardlaw17_awake.mono _)
   | (with_reducible exact billiardref06_Same.mono _ _ _)
   | (with_reducible exact billiardref11_View.mono _ _)
   | (with_reducible exact billiardref17_Right.mono _ _ _)
   | (with_reducible exact jacobi_Solve.mono _ _ _)
   | (with_reducible exact LeO.refl _)
   | (with_reducible exact LeO.none _)
   | (with_reducible refine LeO.ite ?_ ?_)
   | (with_reducible refine LeO.bind ?_ (fun _ => ?_))
   | exact ih0 _ _ _ _
   | exact ih1 _ _ _ _ _
   | exact billiardlaw17_awake.mono _
   | exact billiardref06_Same.mono _ _ _
   | exact billiardref11_View.mono _ _
   | exact billiardref17_Right.mono _ _ _
   | exact jacobi_Solve.mono _ _ _
   | exact LeO.none _
   | refine LeO.ite ?_ ?_
   | refine LeO.bind ?_ (fun _ => ?_)
  ·intro y0 y1 y2 y3 y4
   unfold billiardlaw17_JacobiOrderFree.l0
   repeat' first
   | (with_reducible exact ih0 _ _ _ _)
   | (with_reducible exact ih1 _ _ _ _ _)
   | (with_reducible exact billiardlaw17_awake.mono _)
   | (with_reducible exact billiardref06_Same.mono _ _ _)
   | (with_reducible exact billiardref11_View.mono _ _)
   | (with_reducible exact billiardref17_Right.mono _ _ _)
   | (with_reducible exact jacobi_Solve.mono _ _ _)
   | (with_reducible exact LeO.refl _)
   | (with_reducible exact LeO.none _)
   | (with_reducible refine LeO.ite ?_ ?_)
   | (with_reducible refine LeO.bind ?_ (fun _ => ?_))
   | exact ih0 _ _ _ _
   | exact ih1 _ _ _ _ _
   | exact billiardlaw17_awake.mono _
   | exact billiardref06_Same.mono _ _ _
   | exact billiardref11_View.mono _ _
   | exact billiardref17_Right.mono _ _ _
   | exact jacobi_Solve.mono _ _ _
   | exact LeO.none _
   | refine LeO.ite ?_ ?_
   | refine LeO.bind ?_ (fun _ => ?_)
theorem billiardlaw17_JacobiOrderFree.mono : ∀ a0 a1 a2 k, LeO (billiardlaw17_JacobiOrderFree.f k a0 a1 a2) (billiardlaw17_JacobiOrderFree.f (k + 1) a0 a1 a2) := by
 intro a0 a1 a2 k
 obtain ⟨ih0, ih1⟩ := billiardlaw17_JacobiOrderFree.mono_l k
 unfold billiardlaw17_JacobiOrderFree.f
 repeat' first
   | (with_reducible exact ih0 _ _ _ _)
   | (with_reducible exact ih1 _ _ _ _ _)
   | (with_reducible exact billiardlaw17_awake.mono _)
   | (with_reducible exact billiardref06_Same.mono _ _ _)
   | (with_reducible exact billiardref11_View.mono _ _)
   | (with_reducible exact billiardref17_Right.mono _ _ _)
   | (with_reducible exact jacobi_Solve.mono _ _ _)
   | (with_reducible exact LeO.refl _)
   | (with_reducible exact LeO.none _)
   | (with_reducible refine LeO.ite ?_ ?_)
   | (with_reducible refine LeO.bind ?_ (fun _ => ?_))
   | exact ih0 _ _ _ _
   | exact ih1 _ _ _ _ _
   | exact billiardlaw17_awake.mono _
   | exact billiardref06_Same.mono _ _ _
   | exact billiardref11_View.mono _ _
   | exact billiardref17_Right.mono _ _ _
   | exact jacobi_Solve.mono _ _ _
   | exact LeO.none _
   | refine LeO.ite ?_ ?_
   | refine LeO.bind ?_ (fun _ => ?_)
set_option maxHeartbeats 8000000 in
set_option maxRecDepth 100000 in
theorem billiardlaw17_JacobiOrderFree.calls (k : Nat) (A0 : Option Addr) (c0 : Nat) (l0 : List (S44)) (A1 : Option Addr) (c1 : Nat) (l1 : List (S41)) (a2 : Int) (r : Bool) (w : World) (hr0 : Kd.C k44 w A0 l0.length l0) (hc0 : l0.length ≤ c0) (hr1 : Kd.C k41 w A1 l1.length l1) (hc1 : l1.length ≤ c1) (h : billiardlaw17_JacobiOrderFree.f k l0 l1 a2 = some r) (hr : r = true) :
  Calls Try.prog 4 #[.slice A0 l0.length c0, .slice A1 l1.length c1, .int .u8 a2] w fun e w' => e = .returned (.bool r) ∧ Below w.heap.size w w' := by
 have HR := aM hr
 clear hr
 have hu41 := Try.underlying41
 have HR0 := aM hr0
 have HC0 := aM hc0
 clear hr0 hc0
 have HR1 := aM hr1
 have HC1 := aM hc1
 clear hr1 hc1
 have HB := aM (Below.refl w.heap.size w)
 have H : ((billiardref11_View.f k l0).bind fun bt325 => ((billiardlaw17_awake.f k).bind fun t329 => (if t329 = true then (if bt325.2 = true then ((billiardref17_Right.f k bt325.1 l1).bind fun t330 => (if t330 = true then (billiardlaw17_JacobiOrderFree.j0 k l1 a2 bt325.1 ((l1.length : Int) == 0)) else (billiardlaw17_JacobiOrderFree.j0 k l1 a2 bt325.1 true))) else (billiardlaw17_JacobiOrderFree.j0 k l1 a2 bt325.1 true)) else (billiardlaw17_JacobiOrderFree.j0 k l1 a2 bt325.1 true)))) = some r := h
 clear h
 replace H := Option.bind_eq_some_iff.mp H
 obtain ⟨⟨t325, t326⟩, A40, H⟩ := H
 try dsimp only at H
 have A4 := aM A40
 clear A40
 have HC5 := aM H
 clear H
 go_enter Try.func4, Try.ntmps4
 go_upto_region 2 with (first | ((with_reducible refine gate_callee (f := 8) rfl ?_); refine goesL_ (some 18) rfl rfl Try.func8 (by kernel_rfl) rfl #[.slice A0 l0.length c0] rfl (by (try simp only [List.map_toArray, List.map_cons, List.map_nil]); first | done | rfl | (simp only [List.length_drop, List.length_take]; rfl)) ?_; (with_reducible refine (billiardref11_View.calls k _ _ l0 t325 t326 _ ?side1 ?side2 A4.out).mono ?_); (case side1 => repeat (first | exact HR0.out | (with_reducible refine Kd.C_alloc ?_ _) | (with_reducible refine Kd.C_drewN ?_ _) | (with_reducible refine Kd.C_drew ?_))); (case side2 => exact HC0.out); rintro e w6 ⟨v327, rfl, ho0, hb⟩; refine ⟨_, rfl, ?_⟩; have n0_ := aM (Kd.R_lower ho0 (lZ (by repeat (first | (with_reducible first | exact HB.out | apply lA | apply lN | apply lD) | exact HB.out)))); have n1_ := aM (lT (by repeat (first | (with_reducible first | exact HB.out | apply lA | apply lN | apply lD) | exact HB.out)) hb); clear HB; have HO328 := n0_; have HB := n1_; clear n0_ n1_; (try clear hb); (try clear hb2); (try clear hk); (try clear hi); (try clear ho0)))
 (try simp only [Act.put, sA, sB, sC])
 go_cut [37] (fun v37 wc => ∃ (kq : Nat) (x37_4 : Bool), v37 = .bool x37_4 ∧ Aside0 (billiardlaw17_JacobiOrderFree.j0 kq l1 a2 t325 x37_4 = some r) ∧ Aside0 (kq ≤ k) ∧ Aside0 (Kd.R k44 44 wc w.heap.size (fun _ => True) v327 t325) ∧ Aside0 (Below w.heap.size w wc))
 case first =>
  have H := HC5.out
  clear HC5
  replace H := Option.bind_eq_some_iff.mp H
  obtain ⟨t329, A70, H⟩ := H
  try dsimp only at H
  have A7 := aM A70
  clear A70
  by_cases c8 : t329 = true
  ·subst c8
   rw [if_pos rfl] at H
   by_cases c9 : t326 = true
   ·subst c9
    rw [if_pos rfl] at H
    replace H := Option.bind_eq_some_iff.mp H
    obtain ⟨t330, A100, H⟩ := H
    try dsimp only at H
    have A10 := aM A100
    clear A100
    by_cases c11 : t330 = true
    ·subst c11
     rw [if_pos rfl] at H
     have H' := aM H
     clear H
     go_wp2_with (first | ((with_reducible refine gate_callee (f := 9) rfl ?_); refine goesL_ (some 21) rfl rfl Try.func9 (by kernel_rfl) rfl #[] rfl (by (try simp only [List.map_toArray, List.map_cons, List.map_nil]); first | done | rfl | (simp only [List.length_drop, List.length_take]; rfl)) ?_; (with_reducible refine (billiardlaw17_awake.calls k  true _ A7.out).mono ?_); rintro e w12 ⟨rfl, hb⟩; refine ⟨_, rfl, ?_⟩; have n0_ := aM (Kd.R_below (by (with_reducible repeat (first | apply Kd.R_alloc | apply Kd.R_drewN | apply Kd.R_drew)); exact HO328.out) hb); have n1_ := aM (lT (by repeat (first | (with_reducible first | exact HB.out | apply lA | apply lN | apply lD) | exact HB.out)) hb); clear HO328; clear HB; have HO328 := n0_; have HB := n1_; clear n0_ n1_; (try clear hb); (try clear hb2); (try clear hk); (try clear hi); obtain ⟨Ao13, co13, eo13⟩ := Kd.R_slice HO328.out; subst eo13) | (go_at_call 10; (with_reducible refine (billiardref17_Right.calls k _ _ t325 _ _ l1 true _ ?side1 ?side2 ?side3 ?side4 A10.out).mono ?_); (case side1 => repeat (first | exact (Kd.R_reads' HO328.out).2.2 | (with_reducible refine Kd.C_alloc ?_ _) | (with_reducible refine Kd.C_drewN ?_ _) | (with_reducible refine Kd.C_drew ?_))); (case side2 => exact (Kd.R_reads' HO328.out).2.1); (case side3 => repeat (first | exact (Kd.C_below HR1.out HB.out) | (with_reducible refine Kd.C_alloc ?_ _) | (with_reducible refine Kd.C_drewN ?_ _) | (with_reducible refine Kd.C_drew ?_))); (case side4 => exact HC1.out); rintro e w14 ⟨rfl, hb⟩; have n0_ := aM (Kd.R_below (by (with_reducible repeat (first | apply Kd.R_alloc | apply Kd.R_drewN | apply Kd.R_drew)); exact HO328.out) hb); have n1_ := aM (lT (by repeat (first | (with_reducible first | exact HB.out | apply lA | apply lN | apply lD) | exact HB.out)) hb); clear HO328; clear HB; have HO328 := n0_; have HB := n1_; clear n0_ n1_; (try clear hb); (try clear hb2); (try clear hk); (try clear hi)))
     go_meet
     case rel => exact ⟨_, (((l1.length : Int) == 0)), (by first | rfl | (simp; done) | (simp [*]; done)), H', ⟨by first | omega | exact Nat.le_refl _⟩, ⟨by (with_reducible repeat (first | apply Kd.R_alloc | apply Kd.R_drewN | apply Kd.R_drew)); exact HO328.out⟩, ⟨by repeat (first | (with_reducible first | exact HB.out | apply lA | apply lN | apply lD) | exact HB.out)⟩⟩
    ·replace c11 := Bool.eq_false_iff.mpr c11
     subst c11
     rw [if_neg (show ¬ (false = true) by decide)] at H
     have H' := aM H
     clear H
     go_wp2_with (first | ((with_reducible refine gate_callee (f := 9) rfl ?_); refine goesL_ (some 21) rfl rfl Try.func9 (by kernel_rfl) rfl #[] rfl (by (try simp only [List.map_toArray, List.map_cons, List.map_nil]); first | done | rfl | (simp only [List.length_drop, List.length_take]; rfl)) ?_; (with_reducible refine (billiardlaw17_awake.calls k  true _ A7.out).mono ?_); rintro e w15 ⟨rfl, hb⟩; refine ⟨_, rfl, ?_⟩; have n0_ := aM (Kd.R_below (by (with_reducible repeat (first | apply Kd.R_alloc | apply Kd.R_drewN | apply Kd.R_drew)); exact HO328.out) hb); have n1_ := aM (lT (by repeat (first | (with_reducible first | exact HB.out | apply lA | apply lN | apply lD) | exact HB.out)) hb); clear HO328; clear HB; have HO328 := n0_; have HB := n1_; clear n0_ n1_; (try clear hb); (try clear hb2); (try clear hk); (try clear hi); obtain ⟨Ao16, co16, eo16⟩ := Kd.R_slice HO328.out; subst eo16) | (go_at_call 10; (with_reducible refine (billiardref17_Right.calls k _ _ t325 _ _ l1 false _ ?side1 ?side2 ?side3 ?side4 A10.out).mono ?_); (case side1 => repeat (first | exact (Kd.R_reads' HO328.out).2.2 | (with_reducible refine Kd.C_alloc ?_ _) | (with_reducible refine Kd.C_drewN ?_ _) | (with_reducible refine Kd.C_drew ?_))); (case side2 => exact (Kd.R_reads' HO328.out).2.1); (case side3 => repeat (first | exact (Kd.C_below HR1.out HB.out) | (with_reducible refine Kd.C_alloc ?_ _) | (with_reducible refine Kd.C_drewN ?_ _) | (with_reducible refine Kd.C_drew ?_))); (case side4 => exact HC1.out); rintro e w17 ⟨rfl, hb⟩; have n0_ := aM (Kd.R_below (by (with_reducible repeat (first | apply Kd.R_alloc | apply Kd.R_drewN | apply Kd.R_drew)); exact HO328.out) hb); have n1_ := aM (lT (by repeat (first | (with_reducible first | exact HB.out | apply lA | apply lN | apply lD) | exact HB.out)) hb); clear HO328; clear HB; have HO328 := n0_; have HB := n1_; clear n0_ n1_; (try clear hb); (try clear hb2); (try clear hk); (try clear hi)))
     go_meet
     case rel => exact ⟨_, (true), (by first | rfl | (simp; done) | (simp [*]; done)), H', ⟨by first | omega | exact Nat.le_refl _⟩, ⟨by (with_reducible repeat (first | apply Kd.R_alloc | apply Kd.R_drewN | apply Kd.R_drew)); exact HO328.out⟩, ⟨by repeat (first | (with_reducible first | exact HB.out | apply lA | apply lN | apply lD) | exact HB.out)⟩⟩
   ·replace c9 := Bool.eq_false_iff.mpr c9
    subst c9
    rw [if_neg (show ¬ (false = true) by decide)] at H
    have H' := aM H
    clear H
    go_wp2_with (first | ((with_reducible refine gate_callee (f := 9) rfl ?_); refine goesL_ (some 21) rfl rfl Try.func9 (by kernel_rfl) rfl #[] rfl (by (try simp only [List.map_toArray, List.map_cons, List.map_nil]); first | done | rfl | (simp only [List.length_drop, List.length_take]; rfl)) ?_; (with_reducible refine (billiardlaw17_awake.calls k  true _ A7.out).mono ?_); rintro e w18 ⟨rfl, hb⟩; refine ⟨_, rfl, ?_⟩; have n0_ := aM (Kd.R_below (by (with_reducible repeat (first | apply Kd.R_alloc | apply Kd.R_drewN | apply Kd.R_drew)); exact HO328.out) hb); have n1_ := aM (lT (by repeat (first | (with_reducible first | exact HB.out | apply lA | apply lN | apply lD) | exact HB.out)) hb); clear HO328; clear HB; have HO328 := n0_; have HB := n1_; clear n0_ n1_; (try clear hb); (try clear hb2); (try clear hk); (try clear hi)))
    go_meet
    case rel => exact ⟨_, (true), (by first | rfl | (simp; done) | (simp [*]; done)), H', ⟨by first | omega | exact Nat.le_refl _⟩, ⟨by (with_reducible repeat (first | apply Kd.R_alloc | apply Kd.R_drewN | apply Kd.R_drew)); exact HO328.out⟩, ⟨by repeat (first | (with_reducible first | exact HB.out | apply lA | apply lN | apply lD) | exact HB.out)⟩⟩
  ·replace c8 := Bool.eq_false_iff.mpr c8
   subst c8
   exact absurd (billiardlaw17_awake.only A7.out) (by decide)
 case rest =>
  clear HC5
  try clear c1
  try clear p2
  try clear c4
  try clear c8
  try clear c9
  try clear c11
  obtain ⟨kq, x37_4, rfl, HA, HJ4, HO_7, HB⟩ := hcut
  cases kq with
  | zero => exact absurd HA.out (by simp [billiardlaw17_JacobiOrderFree.j0])
  | succ kj4 =>
   have H := HA.out
   clear HA
   simp only [billiardlaw17_JacobiOrderFree.j0] at H
   by_cases c19 : x37_4 = true
   ·subst c19
    rw [if_pos rfl] at H
    replace H := Option.bind_eq_some_iff.mp H
    obtain ⟨t331, A200, H⟩ := H
    try dsimp only at H
    have A20 := aM A200
    clear A200
    obtain rfl := Option.some.inj H
    go_wp2_with (first | ((with_reducible refine gate_callee (f := 9) rfl ?_); refine goesL_ (some 38) rfl rfl Try.func9 (by kernel_rfl) rfl #[] rfl (by (try simp only [List.map_toArray, List.map_cons, List.map_nil]); first | done | rfl | (simp only [List.length_drop, List.length_take]; rfl)) ?_; (with_reducible refine (billiardlaw17_awake.calls kj4  t331 _ A20.out).mono ?_); rintro e w21 ⟨rfl, hb⟩; refine ⟨_, rfl, ?_⟩; have n0_ := aM (Kd.R_below (by (with_reducible repeat (first | apply Kd.R_alloc | apply Kd.R_drewN | apply Kd.R_drew)); exact HO_7.out) hb); have n1_ := aM (lT (by repeat (first | (with_reducible first | exact HB.out | apply lA | apply lN | apply lD) | exact HB.out)) hb); clear HO_7; clear HB; have HO_7 := n0_; have HB := n1_; clear n0_ n1_; (try clear hb); (try clear hb2); (try clear hk); (try clear hi)))
    go_ret
    exact ⟨by first | rfl | (simp [errW_none, errW_some] <;> rfl) | (simp [*, errW_none, errW_some] <;> rfl), by repeat (first | (with_reducible first | exact HB.out | apply lA | apply lN | apply lD) | exact HB.out)⟩
   ·replace c19 := Bool.eq_false_iff.mpr c19
    subst c19
    rw [if_neg (show ¬ (false = true) by decide)] at H
    by_cases c22 : (l1.length : Int) = 0
    ·rw [if_pos c22] at H
     exact absurd H (by simp)
    ·rw [if_neg c22] at H
     have c22b0 : ((l1.length : Int) == 0) = false := beq_eq_false_iff_ne.mpr c22
     have c22b1 : ((l1.length : Int) != 0) = true := bne_iff_ne.mpr c22
     have c22b2 : ¬ (l1 = []) := fun h_ => c22 (by rw [h_]; rfl)
     have H' := aM H
     clear H
     go_wp2
     go_loopg [10, 11] kj4 (fun kq v10 v11 w' => ∃ (x10_2 : List (S41)) (x11_2 : Int), v11 = .int .i64 x11_2 ∧ Aside0 (billiardlaw17_JacobiOrderFree.l0 kq l1 t325 (Int.tmod (wrap64 (a2)) (l1.length : Int)) x10_2 x11_2 = some r) ∧ Aside0 (kq ≤ kj4) ∧ Aside0 (Kd.R k44 44 w' w.heap.size (fun _ => True) v327 t325) ∧ Aside0 (Kd.R k41 41 w' w.heap.size (fun _ => True) v10 x10_2) ∧ Aside0 (Below w.heap.size w w'))
     case atStart => exact ⟨(([] : List (S41))), (0), (by first | rfl | (simp; done) | (simp [*]; done)), H', ⟨Nat.le_refl _⟩, ⟨by (with_reducible repeat (first | apply Kd.R_alloc | apply Kd.R_drewN | apply Kd.R_drew)); exact HO_7.out⟩, ⟨by first | exact Kd.R_nil _ _ _ _ _ | exact Kd.N_nil _ _ _ _ _ | exact Kd.V_nil _ _ _ _ _ | exact Kd.Q_nil _ _ _ _ _ | exact Kd.S_nil _ _ _ _ _⟩, ⟨by repeat (first | (with_reducible first | exact HB.out | apply lA | apply lN | apply lD) | exact HB.out)⟩⟩
     case round =>
      clear H'
      try clear c1
      try clear c2
      try clear p2
      try clear c4
      try clear p6
      try clear c8
      try clear c9
      try clear c11
      try clear c19
      try clear c22
      try clear c22b0
      try clear c22b1
      try clear c22b2
      try clear p2
      obtain ⟨x10_2, x11_2, rfl, HA, HK2, HO_7, HO_10, HB⟩ := hrel
      cases gk with
      | zero => exact absurd HA.out (by simp [billiardlaw17_JacobiOrderFree.l0])
      | succ k2 =>
       have H := HA.out
       clear HA
       simp only [billiardlaw17_JacobiOrderFree.l0] at H
       by_cases c23 : x11_2 < (l1.length : Int)
       ·rw [if_pos c23] at H
        have c23b0 : decide (x11_2 < (l1.length : Int)) = true := decide_eq_true c23
        clear c23
        by_cases c24 : (l1.length : Int) = 0
        ·rw [if_pos c24] at H
         exact absurd H (by simp)
        ·rw [if_neg c24] at H
         have c24b0 : ((l1.length : Int) == 0) = false := beq_eq_false_iff_ne.mpr c24
         have c24b1 : ((l1.length : Int) != 0) = true := bne_iff_ne.mpr c24
         have c24b2 : ¬ (l1 = []) := fun h_ => c24 (by rw [h_]; rfl)
         obtain ⟨ji25, hji25⟩ : ∃ j_ : Int, (Int.tmod (wrap64 ((wrap64 ((Int.tmod (wrap64 (a2)) (l1.length : Int)) + (l1.length : Int))) - x11_2)) (l1.length : Int)) = j_ := ⟨_, rfl⟩
         replace H : (if 0 ≤ (ji25) then (if (ji25) < (l1.length : Int) then (if x10_2.length < 7036874417766 then (billiardlaw17_JacobiOrderFree.l0 k2 l1 t325 (Int.tmod (wrap64 (a2)) (l1.length : Int)) (x10_2 ++ [(⟨(⟨(rd_T41 l1 (ji25)).f0.f0, (rd_T41 l1 (ji25)).f0.f1⟩ : S37), (⟨(rd_T41 l1 (ji25)).f1.f0, (rd_T41 l1 (ji25)).f1.f1⟩ : S39), (rd_T41 l1 (ji25)).f2⟩ : S41)]) (wrap64 (x11_2 + 1))) else (none)) else (none)) else (none)) = some r := by first | (rw [hji25] at H; exact H) | (simp only [hji25] at H ⊢; exact H)
         by_cases c26 : 0 ≤ (ji25)
         ·rw [if_pos c26] at H
          have c26b0 : decide (0 ≤ (ji25)) = true := decide_eq_true c26
          clear c26
          by_cases c27 : (ji25) < (l1.length : Int)
          ·rw [if_pos c27] at H
           have c27b0 : decide ((ji25) < (l1.length : Int)) = true := decide_eq_true c27
           clear c27
           by_cases c28 : x10_2.length < 7036874417766
           ·rw [if_pos c28] at H
            have LMc28 := aM c28
            clear c28
            obtain ⟨y333, hy333⟩ : ∃ y_ : List (S41), y_ = (x10_2 ++ [(⟨(⟨(rd_T41 l1 (ji25)).f0.f0, (rd_T41 l1 (ji25)).f0.f1⟩ : S37), (⟨(rd_T41 l1 (ji25)).f1.f0, (rd_T41 l1 (ji25)).f1.f1⟩ : S39), (rd_T41 l1 (ji25)).f2⟩ : S41)]) := ⟨_, rfl⟩
            replace H : (billiardlaw17_JacobiOrderFree.l0 k2 l1 t325 (Int.tmod (wrap64 (a2)) (l1.length : Int)) y333 (wrap64 (x11_2 + 1))) = some r := by first | (rw [hy333]; with_reducible exact H) | (have H2_ := (Option.bind_some _ _).symm.trans H; rw [hy333]; with_reducible exact H2_) | (have H2_ := (Option.bind_some _ _).symm.trans H; with_reducible exact H2_) | with_reducible exact H | (rw [hy333]; exact H) | exact H
            have Ny333 := aM hy333
            clear hy333
            have H' := aM H
            clear H
            have p332 : 0 ≤ ((ji25) : Int) := of_decide_eq_true (by first | (with_reducible assumption) | assumption)
            have q332 : (ji25) < (l1.length : Int) := of_decide_eq_true (by first | (with_reducible assumption) | assumption)
            obtain ⟨ad332, e332, hx332_0, hx332_1, hx332_2, hx332_3, hx332_4⟩ := at_T41 HR1.out (ji25) p332 q332
            cases e332
            replace hx332_0 := (HB.out.cell (World.block_lt_of_cell? w _ hx332_0)).trans hx332_0
            replace hx332_1 := (HB.out.cell (World.block_lt_of_cell? w _ hx332_1)).trans hx332_1
            replace hx332_2 := (HB.out.cell (World.block_lt_of_cell? w _ hx332_2)).trans hx332_2
            replace hx332_3 := (HB.out.cell (World.block_lt_of_cell? w _ hx332_3)).trans hx332_3
            replace hx332_4 := (HB.out.cell (World.block_lt_of_cell? w _ hx332_4)).trans hx332_4
            replace p332 := eq_true p332
            replace q332 := eq_true q332
            go_wp2_with (first | ((with_reducible refine gate_builtin (b := .append) (xs := #[.tmp 50, .tmp 63]) rfl ?_); (try (refine gate_guard (by rfl) ?_; dsimp only)); at_builtin; refine Kd.R_append k41 (w0 := w) w.heap.size rfl (.tmp 50) (.tmp 63) 23 41 (.agg #[(.int .u32 0), (.int .u32 0), (.int .i32 0), (.int .i32 0), (.int .i32 0)]) 20 rfl Try.underlying23 info41 rfl (by decide) (by omega) u10 x10_2 (⟨(⟨(rd_T41 l1 (ji25)).f0.f0, (rd_T41 l1 (ji25)).f0.f1⟩ : S37), (⟨(rd_T41 l1 (ji25)).f1.f0, (rd_T41 l1 (ji25)).f1.f1⟩ : S39), (rd_T41 l1 (ji25)).f2⟩ : S41) [.int .u32 ((rd_T41 l1 (ji25)).f0.f0), .int .u32 ((rd_T41 l1 (ji25)).f0.f1), .int .i32 ((rd_T41 l1 (ji25)).f1.f0), .int .i32 ((rd_T41 l1 (ji25)).f1.f1), .int .i32 ((rd_T41 l1 (ji25)).f2)] (fun _ => True) (fun _ => False) rfl rfl ?aP (fun _ hk => hk.elim) ?aF ?aO ?aB ?aS ?aL ?_; (case aP => exact k41_mkM _ _ _ (⟨(⟨(rd_T41 l1 (ji25)).f0.f0, (rd_T41 l1 (ji25)).f0.f1⟩ : S37), (⟨(rd_T41 l1 (ji25)).f1.f0, (rd_T41 l1 (ji25)).f1.f1⟩ : S39), (rd_T41 l1 (ji25)).f2⟩ : S41)); (case aB => exact (by repeat (first | (with_reducible first | exact HB.out | apply lA | apply lN | apply lD) | exact HB.out))); (case aF => exact (fun _ _ => trivial)); (case aO => exact (by (with_reducible repeat (first | apply Kd.R_alloc | apply Kd.R_drewN | apply Kd.R_drew)); exact HO_10.out)); (case aS => exact (lZ (by repeat (first | (with_reducible first | exact HB.out | apply lA | apply lN | apply lD) | exact HB.out)))); (case aL => have := LMc28.out; omega); intro v334 w29 ho hb hg hat; rw [← Ny333.out] at ho; have n0_ := aM (Kd.R_over' (by (with_reducible repeat (first | apply Kd.R_alloc | apply Kd.R_drewN | apply Kd.R_drew)); exact HO_7.out) (Kd.R_typed (by (with_reducible repeat (first | apply Kd.R_alloc | apply Kd.R_drewN | apply Kd.R_drew)); exact HO_10.out)) (by decide) hg); have n1_ := aM (hb); have n2_ := aM (ho); clear HO_7; clear HB; clear HO_10; have HO_7 := n0_; have HB := n1_; have HO335 := n2_; clear n0_ n1_ n2_; clear ho hb hg hat))
            go_roundg k2
            case measure => have := HJ4.out; have := HK2.out; omega
            case rel => exact ⟨(y333), (wrap64 (x11_2 + 1)), (by first | rfl | (simp; done) | (simp [*]; done)), H', ⟨by have := HJ4.out; have := HK2.out; omega⟩, ⟨by (with_reducible repeat (first | apply Kd.R_alloc | apply Kd.R_drewN | apply Kd.R_drew)); exact HO_7.out⟩, ⟨by (with_reducible repeat (first | apply Kd.R_alloc | apply Kd.R_drewN | apply Kd.R_drew)); exact HO335.out⟩, ⟨by repeat (first | (with_reducible first | exact HB.out | apply lA | apply lN | apply lD) | exact HB.out)⟩⟩
           ·rw [if_neg c28] at H
            exact absurd H (by simp)
          ·rw [if_neg c27] at H
           exact absurd H (by simp)
         ·rw [if_neg c26] at H
          exact absurd H (by simp)
       ·rw [if_neg c23] at H
        have c23b0 : decide (x11_2 < (l1.length : Int)) = false := decide_eq_false c23
        clear c23
        replace H := Option.bind_eq_some_iff.mp H
        obtain ⟨⟨t336, t339⟩, A300, H⟩ := H
        try dsimp only at H
        have A30 := aM A300
        clear A300
        replace H := Option.bind_eq_some_iff.mp H
        obtain ⟨⟨t340, t343⟩, A310, H⟩ := H
        try dsimp only at H
        have A31 := aM A310
        clear A310
        replace H := Option.bind_eq_some_iff.mp H
        obtain ⟨t344, A320, H⟩ := H
        try dsimp only at H
        have A32 := aM A320
        clear A320
        by_cases c33 : t344 = true
        ·subst c33
         rw [if_pos rfl] at H
         obtain rfl := Option.some.inj H
         obtain ⟨Ao34, co34, eo34⟩ := Kd.R_slice HO_7.out
         subst eo34
         go_wp2_with (first | ((with_reducible refine gate_callee (f := 14) rfl ?_); refine goesL_ (some 68) rfl rfl Try.func14 (by kernel_rfl) rfl #[.slice Ao34 t325.length co34, .slice A1 l1.length c1] rfl (by (try simp only [List.map_toArray, List.map_cons, List.map_nil]); first | done | rfl | (simp only [List.length_drop, List.length_take]; rfl)) ?_; (with_reducible refine (jacobi_Solve.calls k2 (fun k_ => some k_ = (.slice Ao34 t325.length co34 : Value).ownBlock) _ _ t325 _ _ l1 t336 t339 _ ?side1 ?side2 ?side3 A30.out).mono ?_); (case side1 => exact Kd.R_V (Kd.R_tight rfl (Kd.R_apart' (HO_7.out) (Kd.R_typed HO_10.out) (by decide)))); (case side2 => repeat (first | exact (Kd.C_below HR1.out HB.out) | (with_reducible refine Kd.C_alloc ?_ _) | (with_reducible refine Kd.C_drewN ?_ _) | (with_reducible refine Kd.C_drew ?_))); (case side3 => exact HC1.out); rintro e w35 ⟨v337, rfl, ho0, hb⟩; refine ⟨_, rfl, ?_⟩; have n0_ := aM (Kd.R_below (by (with_reducible repeat (first | apply Kd.R_alloc | apply Kd.R_drewN | apply Kd.R_drew)); exact HO_7.out) hb); have n1_ := aM (Kd.R_below (by (with_reducible repeat (first | apply Kd.R_alloc | apply Kd.R_drewN | apply Kd.R_drew)); exact HO_10.out) hb); have n2_ := aM (Kd.V_lower (Kd.V_mono (ok' := fun k_ => some k_ ≠ (u10 : Value).ownBlock) ho0 (fun k_ hk_ => Or.elim hk_ (fun hs_ => ((Kd.R_apart' (HO_7.out) (Kd.R_typed HO_10.out) (by decide)).1 k_ hs_.symm).2) (fun hn_ => (Kd.fresh' (Kd.R_lt (by (with_reducible repeat (first | apply Kd.R_alloc | apply Kd.R_drewN | apply Kd.R_drew)); exact HO_10.out)) k_ hn_)))) (lZ (by repeat (first | (with_reducible first | exact HB.out | apply lA | apply lN | apply lD) | exact HB.out)))); have n3_ := aM (lT (by repeat (first | (with_reducible first | exact HB.out | apply lA | apply lN | apply lD) | exact HB.out)) hb); clear HO_7; clear HO_10; clear HB; have HO_7 := n0_; have HO_10 := n1_; have HO338 := n2_; have HB := n3_; clear n0_ n1_ n2_ n3_; (try clear hb); (try clear hb2); (try clear hk); (try clear hi); (try clear ho0); obtain ⟨Ao36, co36, eo36⟩ := Kd.R_slice HO_10.out; subst eo36) | ((with_reducible refine gate_callee (f := 14) rfl ?_); refine goesL_ (some 74) rfl rfl Try.func14 (by kernel_rfl) rfl #[.slice Ao34 t325.length co34, .slice Ao36 x10_2.length co36] rfl (by (try simp only [List.map_toArray, List.map_cons, List.map_nil]); first | done | rfl | (simp only [List.length_drop, List.length_take]; rfl)) ?_; (with_reducible refine (jacobi_Solve.calls k2 (fun k_ => some k_ = (.slice Ao34 t325.length co34 : Value).ownBlock) _ _ t325 _ _ x10_2 t340 t343 _ ?side1 ?side2 ?side3 A31.out).mono ?_); (case side1 => exact Kd.R_V (Kd.R_tight rfl (Kd.R_apart' (HO_7.out) (Kd.R_typed HO_10.out) (by decide)))); (case side2 => repeat (first | exact (Kd.R_reads' HO_10.out).2.2 | (with_reducible refine Kd.C_alloc ?_ _) | (with_reducible refine Kd.C_drewN ?_ _) | (with_reducible refine Kd.C_drew ?_))); (case side3 => exact (Kd.R_reads' HO_10.out).2.1); rintro e w37 ⟨v341, rfl, ho0, hb⟩; refine ⟨_, rfl, ?_⟩; have n0_ := aM (Kd.R_below (by (with_reducible repeat (first | apply Kd.R_alloc | apply Kd.R_drewN | apply Kd.R_drew)); exact HO_7.out) hb); have n1_ := aM (Kd.R_below (by (with_reducible repeat (first | apply Kd.R_alloc | apply Kd.R_drewN | apply Kd.R_drew)); exact HO_10.out) hb); have n2_ := aM (Kd.V_below (by (with_reducible repeat (first | apply Kd.V_alloc | apply Kd.V_drewN | apply Kd.V_drew)); exact HO338.out) hb); have n3_ := aM (Kd.V_lower (Kd.V_mono (ok' := fun k_ => some k_ ≠ (.slice Ao36 x10_2.length co36 : Value).ownBlock) ho0 (fun k_ hk_ => Or.elim hk_ (fun hs_ => ((Kd.R_apart' (HO_7.out) (Kd.R_typed HO_10.out) (by decide)).1 k_ hs_.symm).2) (fun hn_ => (Kd.fresh' (Kd.R_lt (by (with_reducible repeat (first | apply Kd.R_alloc | apply Kd.R_drewN | apply Kd.R_drew)); exact HO_10.out)) k_ hn_)))) (lZ (by repeat (first | (with_reducible first | exact HB.out | apply lA | apply lN | apply lD) | exact HB.out)))); have n4_ := aM (lT (by repeat (first | (with_reducible first | exact HB.out | apply lA | apply lN | apply lD) | exact HB.out)) hb); clear HO_7; clear HO_10; clear HO338; clear HB; have HO_7 := n0_; have HO_10 := n1_; have HO338 := n2_; have HO342 := n3_; have HB := n4_; clear n0_ n1_ n2_ n3_ n4_; (try clear hb); (try clear hb2); (try clear hk); (try clear hi); (try clear ho0); obtain ⟨Ao38, co38, eo38⟩ := Kd.V_slice HO338.out; subst eo38; obtain ⟨Ao39, co39, eo39⟩ := Kd.V_slice HO342.out; subst eo39) | ((with_reducible refine gate_callee (f := 18) rfl ?_); refine goesL_ (some 79) rfl rfl Try.func18 (by kernel_rfl) rfl #[.slice Ao38 t336.length co38, .slice Ao39 t340.length co39] rfl (by (try simp only [List.map_toArray, List.map_cons, List.map_nil]); first | done | rfl | (simp only [List.length_drop, List.length_take]; rfl)) ?_; (with_reducible refine (billiardref06_Same.calls k2 _ _ t336 _ _ t340 true _ ?side1 ?side2 ?side3 ?side4 A32.out).mono ?_); (case side1 => repeat (first | exact (Kd.V_reads' HO338.out).2.2 | (with_reducible refine Kd.C_alloc ?_ _) | (with_reducible refine Kd.C_drewN ?_ _) | (with_reducible refine Kd.C_drew ?_))); (case side2 => exact (Kd.V_reads' HO338.out).2.1); (case side3 => repeat (first | exact (Kd.V_reads' HO342.out).2.2 | (with_reducible refine Kd.C_alloc ?_ _) | (with_reducible refine Kd.C_drewN ?_ _) | (with_reducible refine Kd.C_drew ?_))); (case side4 => exact (Kd.V_reads' HO342.out).2.1); rintro e w' ⟨rfl, ⟨nd, rfl⟩⟩; refine ⟨_, rfl, ?_⟩))
         go_ret
         exact ⟨by first | rfl | (simp [errW_none, errW_some] <;> rfl) | (simp [*, errW_none, errW_some] <;> rfl), by repeat (first | (with_reducible first | exact HB.out | apply lA | apply lN | apply lD) | exact HB.out)⟩
        ·replace c33 := Bool.eq_false_iff.mpr c33
         subst c33
         rw [if_neg (show ¬ (false = true) by decide)] at H
         exact absurd ((Option.some.inj H).trans HR.out) (by decide)

/-- THE ONE PURE STATEMENT of billiardlaw17_JacobiOrderFree: yours. -/
def billiardlaw17_JacobiOrderFree.Pure : Prop := ∀ (l0 : List (S44)) (l1 : List (S41)) (a2 : Int), (∀ x ∈ l0, Flat.WFB x) → (∀ x ∈ l1, Flat.WFC x) → (Lit.int .u8 a2).wf = true → ∃ k, billiardlaw17_JacobiOrderFree.f k l0 l1 a2 = some true
theorem billiardlaw17_JacobiOrderFree.walk (P : billiardlaw17_JacobiOrderFree.Pure) (a0 : Option Addr) (cap0 : Nat) (l0 : List (S44)) (a1 : Option Addr) (cap1 : Nat) (l1 : List (S41)) (a2 : Int) (w : World) (w0 : Kd.C k44 w a0 l0.length l0) (c0 : l0.length ≤ cap0) (m0 : ∀ x ∈ l0, Flat.WFB x) (w1 : Kd.C k41 w a1 l1.length l1) (c1 : l1.length ≤ cap1) (m1 : ∀ x ∈ l1, Flat.WFC x) (w2 : (Lit.int .u8 a2).wf = true) :
  Calls Try.prog 4 #[.slice a0 l0.length cap0, .slice a1 l1.length cap1, .int .u8 a2] w fun e w' => e = .returned (.bool true) ∧ Below w.heap.size w w' := by
 obtain ⟨k, h⟩ := P l0 l1 a2 m0 m1 w2
 refine (billiardlaw17_JacobiOrderFree.calls k _ _ l0 _ _ l1 a2 true w w0 c0 w1 c1 h rfl).mono ?_
 rintro e w' ⟨rfl, hd⟩
 exact ⟨rfl, hd⟩

end Go.Proofs.Ytcbdcgghccjdpaa.Q
