-- PRINTED by print.py (a twelfth state) out of the translation. Not trusted: Lean checks it.
import Derived.Test.YtabcnaceffpekaaQ0
import Derived.Test.YtabcnaceffpekaaMspec
import Derived.Test.YtabcnaceffpekaaQbilliardlaw24
import Derived.Test.YtabcnaceffpekaaQbilliardref06
import Derived.Test.YtabcnaceffpekaaQbilliardref11
import Derived.Test.YtabcnaceffpekaaQbilliardref12
import Derived.Test.YtabcnaceffpekaaQbilliardref24
import Derived.Test.YtabcnaceffpekaaQquery
import Derived.Test.YtabcnaceffpekaaMslice
namespace Go.Proofs.Ytabcnaceffpekaa.Q
open Go.RowKit Go.Proofs.YtabcnaceffpekaaW.PrintWords Go.Proofs.YtabcnaceffpekaaW.PrintLast Go.Proofs.YtabcnaceffpekaaW.PrintMore
open Go.Proofs.YtabcnaceffpekaaW.PrintWords renaming blk_drewN → bN, blk_drew → bD, blk_alloc → bA, blk_below → bB, blk_cell → bC, blk_frozen → bF, below_alloc → lA, pw_below_drewN → lN, below_drew1 → lD, below_set → lS, below_step → lT, below_size → lZ, Aside0.mk → aM
open List renaming setIfInBounds_toArray → sA, set_cons_zero → sB, set_cons_succ → sC
open Bool renaming true → T, false → F
attribute [local go_sem] max2_int min2_int max_two min_two max_three min_three max_four min_four   -- for this text's walks alone
set_option linter.unusedVariables false
set_option linter.unusedSimpArgs false

/-! ### billiardlaw24_QueryClosest: function 4 -/
-- IMPORT Derived.Test.YtabcnaceffpekaaMslice
mutual
def billiardlaw24_QueryClosest.j0 : Nat → List (S32) → Bool → Int → Int → Option (Bool)
 | 0, _, _, _, _ => none
 | k + 1, x5, x28, x313000, x313001 => if x28 = true then ((billiardlaw24_awake.f k).bind fun t319 => (some t319)) else ((query_Closest.f x5 x313000 x313001).bind fun bt320 => (if bt320.2.2 = true then ((billiardref06_Find.f k x5 bt320.1).bind fun t323 => (if t323 < 0 then (billiardlaw24_QueryClosest.j1 k x5 bt320.1 bt320.2.1 true x313000 x313001) else (if 0 ≤ t323 then (if t323 < (x5.length : Int) then ((billiardref24_Distance.f k ((rd_T32 x5 t323).f0) ((rd_T32 x5 t323).f1) ((rd_T32 x5 t323).f2.f0) ((rd_T32 x5 t323).f2.f1) ((rd_T32 x5 t323).f3) ((rd_T32 x5 t323).f4) ((rd_T32 x5 t323).f5.f0) ((rd_T32 x5 t323).f5.f1) ((rd_T32 x5 t323).f6.f0) ((rd_T32 x5 t323).f6.f1) x313000 x313001).bind fun t325 => (billiardlaw24_QueryClosest.j1 k x5 bt320.1 bt320.2.1 (t325 != bt320.2.1) x313000 x313001)) else (none)) else (none)))) else (if (x5.length : Int) = 0 then (if bt320.1 = 0 then (some (bt320.2.1 == 0)) else (some false)) else (some false))))
def billiardlaw24_QueryClosest.j1 : Nat → List (S32) → Int → Int → Bool → Int → Int → Option (Bool)
 | 0, _, _, _, _, _, _ => none
 | k + 1, x5, x7, x8, x64, x313000, x313001 => if x64 = true then (some false) else (billiardlaw24_QueryClosest.l0 k x5 x7 x8 0 x313000 x313001)
def billiardlaw24_QueryClosest.l0 : Nat → List (S32) → Int → Int → Int → Int → Int → Option (Bool)
 | 0, _, _, _, _, _, _ => none
 | k + 1, x5, x7, x8, x11, x313000, x313001 => if x11 < (x5.length : Int) then (if 0 ≤ x11 then ((billiardref24_Distance.f k ((rd_T32 x5 x11).f0) ((rd_T32 x5 x11).f1) ((rd_T32 x5 x11).f2.f0) ((rd_T32 x5 x11).f2.f1) ((rd_T32 x5 x11).f3) ((rd_T32 x5 x11).f4) ((rd_T32 x5 x11).f5.f0) ((rd_T32 x5 x11).f5.f1) ((rd_T32 x5 x11).f6.f0) ((rd_T32 x5 x11).f6.f1) x313000 x313001).bind fun t327 => (if t327 < x8 then (some false) else (if t327 = x8 then (if ((rd_T32 x5 x11).f0) < x7 then (some false) else (billiardlaw24_QueryClosest.l0 k x5 x7 x8 (wrap64 (x11 + 1)) x313000 x313001)) else (billiardlaw24_QueryClosest.l0 k x5 x7 x8 (wrap64 (x11 + 1)) x313000 x313001)))) else (none)) else (some true)
end
def billiardlaw24_QueryClosest.f (k : Nat) (l0 : List (S32)) (a1_0 : Int) (a1_1 : Int) : Option (Bool) := (billiardref11_View.f k l0).bind fun bt313 => ((billiardlaw24_awake.f k).bind fun t317 => (if t317 = true then (if bt313.2 = true then ((billiardref12_In.f a1_0 a1_1).bind fun t318 => (billiardlaw24_QueryClosest.j0 k bt313.1 (!t318) a1_0 a1_1)) else (billiardlaw24_QueryClosest.j0 k bt313.1 true a1_0 a1_1)) else (billiardlaw24_QueryClosest.j0 k bt313.1 true a1_0 a1_1)))
theorem billiardlaw24_QueryClosest.mono_l : ∀ k, (∀ y0 y1 y2 y3, LeO (billiardlaw24_QueryClosest.j0 k y0 y1 y2 y3) (billiardlaw24_QueryClosest.j0 (k + 1) y0 y1 y2 y3)) ∧ (∀ y0 y1 y2 y3 y4 y5, LeO (billiardlaw24_QueryClosest.j1 k y0 y1 y2 y3 y4 y5) (billiardlaw24_QueryClosest.j1 (k + 1) y0 y1 y2 y3 y4 y5)) ∧ (∀ y0 y1 y2 y3 y4 y5, LeO (billiardlaw24_QueryClosest.l0 k y0 y1 y2 y3 y4 y5) (billiardlaw24_QueryClosest.l0 (k + 1) y0 y1 y2 y3 y4 y5))
 | 0 => ⟨fun _ _ _ _ r h => by simp [billiardlaw24_QueryClosest.j0] at h, fun _ _ _ _ _ _ r h => by simp [billiardlaw24_QueryClosest.j1] at h, fun _ _ _ _ _ _ r h => by simp [billiardlaw24_QueryClosest.l0] at h⟩
 | k + 1 => by
  obtain ⟨ih0, ih1, ih2⟩ := billiardlaw24_QueryClosest.mono_l k
  refine ⟨?_, ?_, ?_⟩
  ·intro y0 y1 y2 y3
   unfold billiardlaw24_QueryClosest.j0
   repeat' first
   | (with_reducible exact ih0 _ _ _ _)
   | (with_reducible exact ih1 _ _ _ _ _ _)
   | (with_reducible exact ih2 _ _ _ _ _ _)
   | (with_reducible exact billiardlaw24_awake.mono _)
   | (with_reducible exact billiardref06_Find.mono _ _ _)
   | (with_reducible exact billiardref11_View.mono _ _)
   | (with_reducible exact billiardref24_Distance.mono _ _ _ _ _ _ _ _ _ _ _ _ _)
   | (with_reducible exact LeO.refl _)
   | (with_reducible exact LeO.none _)
   | (with_reducible refine LeO.ite ?_ ?_)
   | (with_reducible refine LeO.bind ?_ (fun _ => ?_))
   | exact ih0 _ _ _ _
   | exact ih1 _ _ _ _ _ _
   | exact ih2 _ _ _ _ _ _
   | exact billiardlaw24_awake.mono _
   | exact billiardref06_Find.mono _ _ _
   | exact billiardref11_View.mono _ _
   | exact billiardref24_Distance.mono _ _ _ _ _ _ _ _ _ _ _ _ _
   | exact LeO.none _
   | refine LeO.ite ?_ ?_
   | refine LeO.bind ?_ (fun _ => ?_)
  ·intro y0 y1 y2 y3 y4 y5
   unfold billiardlaw24_QueryClosest.j1
   repeat' first
   | (with_reducible exact ih0 _ _ _ _)
   | (with_reducible exact ih1 _ _ _ _ _ _)
   | (with_reducible exact ih2 _ _ _ _ _ _)
   | (with_reducible exact billiardlaw24_awake.mono _)
   | (with_reducible exact billiardref06_Find.mono _ _ _)
   | (with_reducible exact billiardref11_View.mono _ _)
   | (with_reducible exact billiardref24_Distance.mono _ _ _ _ _ _ _ _ _ _ _ _ _)
   | (with_reducible exact LeO.refl _)
   | (with_reducible exact LeO.none _)
   | (with_reducible refine LeO.ite ?_ ?_)
   | (with_reducible refine LeO.bind ?_ (fun _ => ?_))
   | exact ih0 _ _ _ _
   | exact ih1 _ _ _ _ _ _
   | exact ih2 _ _ _ _ _ _
   | exact billiardlaw24_awake.mono _
   | exact billiardref06_Find.mono _ _ _
   | exact billiardref11_View.mono _ _
   | exact billiardref24_Distance.mono _ _ _ _ _ _ _ _ _ _ _ _ _
   | exact LeO.none _
   | refine LeO.ite ?_ ?_
   | refine LeO.bind ?_ (fun _ => ?_)
  ·intro y0 y1 y2 y3 y4 y5
   unfold billiardlaw24_QueryClosest.l0
   repeat' first
   | (with_reducible exact ih0 _ _ _ _)
   | (with_reducible exact ih1 _ _ _ _ _ _)
   | (with_reducible exact ih2 _ _ _ _ _ _)
   | (with_reducible exact billiardlaw24_awake.mono _)
   | (with_reducible exact billiardref06_Find.mono _ _ _)
   | (with_reducible exact billiardref11_View.mono _ _)
   | (with_reducible exact billiardref24_Distance.mono _ _ _ _ _ _ _ _ _ _ _ _ _)
   | (with_reducible exact LeO.refl _)
   | (with_reducible exact LeO.none _)
   | (with_reducible refine LeO.ite ?_ ?_)
   | (with_reducible refine LeO.bind ?_ (fun _ => ?_))
   | exact ih0 _ _ _ _
   | exact ih1 _ _ _ _ _ _
   | exact ih2 _ _ _ _ _ _
   | exact billiardlaw24_awake.mono _
   | exact billiardref06_Find.mono _ _ _
   | exact billiardref11_View.mono _ _
   | exact billiardref24_Distance.mono _ _ _ _ _ _ _ _ _ _ _ _ _
   | exact LeO.none _
   | refine LeO.ite ?_ ?_
   | refine LeO.bind ?_ (fun _ => ?_)
theorem billiardlaw24_QueryClosest.mono : ∀ a0 a1 a2 k, LeO (billiardlaw24_QueryClosest.f k a0 a1 a2) (billiardlaw24_QueryClosest.f (k + 1) a0 a1 a2) := by
 intro a0 a1 a2 k
 obtain ⟨ih0, ih1, ih2⟩ := billiardlaw24_QueryClosest.mono_l k
 unfold billiardlaw24_QueryClosest.f
 repeat' first
   | (with_reducible exact ih0 _ _ _ _)
   | (with_reducible exact ih1 _ _ _ _ _ _)
   | (with_reducible exact ih2 _ _ _ _ _ _)
   | (with_reducible exact billiardlaw24_awake.mono _)
   | (with_reducible exact billiardref06_Find.mono _ _ _)
   | (with_reducible exact billiardref11_View.mono _ _)
   | (with_reducible exact billiardref24_Distance.mono _ _ _ _ _ _ _ _ _ _ _ _ _)
   | (with_reducible exact LeO.refl _)
   | (with_reducible exact LeO.none _)
   | (with_reducible refine LeO.ite ?_ ?_)
   | (with_reducible refine LeO.bind ?_ (fun _ => ?_))
   | exact ih0 _ _ _ _
   | exact ih1 _ _ _ _ _ _
   | exact ih2 _ _ _ _ _ _
   | exact billiardlaw24_awake.mono _
   | exact billiardref06_Find.mono _ _ _
   | exact billiardref11_View.mono _ _
   | exact billiardref24_Distance.mono _ _ _ _ _ _ _ _ _ _ _ _ _
   | exact LeO.none _
   | refine LeO.ite ?_ ?_
   | refine LeO.bind ?_ (fun _ => ?_)
def billiardlaw24_QueryClosest.T8 : Bool × List (List Nat × List Nat) := (true, [([], []), ([0], [0]), ([1], [1]), ([2], [2]), ([2], [2]), ([3, 4, 2], [2, 3, 4]), ([5, 2], [2, 5]), ([2], [2]), ([6, 7, 2, 2], [2, 6, 7]), ([2], [2]), ([8, 9, 2], [2, 8, 9]), ([2, 10], [2, 10])])
def billiardlaw24_QueryClosest.B8 : List Nat := [0, 1, 3, 7, 7, 31, 63, 7, 255, 7, 1023, 2047]
theorem billiardlaw24_QueryClosest.tab8 : rtab .any (opsOf Try.f4 8) = billiardlaw24_QueryClosest.T8 := by kernel_rfl
theorem billiardlaw24_QueryClosest.bits8 : waitsOk billiardlaw24_QueryClosest.T8.2 billiardlaw24_QueryClosest.B8 = true := by kernel_rfl
theorem billiardlaw24_QueryClosest.j1.dead {k : Nat} {p0 : List (S32)} {p1 : Int} {p2 : Int} {p4 : Int} {p5 : Int} {r : Bool} (h : billiardlaw24_QueryClosest.j1 k p0 p1 p2 true p4 p5 = some r) (hr : r = true) : False := by
 cases k with
 | zero => simp only [billiardlaw24_QueryClosest.j1] at h; cases h
 | succ k =>
  have e : billiardlaw24_QueryClosest.j1 (k + 1) p0 p1 p2 true p4 p5 = some false := by simp only [billiardlaw24_QueryClosest.j1]; rfl
  rw [e, hr] at h; cases h
set_option maxHeartbeats 8000000 in
set_option maxRecDepth 100000 in
theorem billiardlaw24_QueryClosest.calls (k : Nat) (A0 : Option Addr) (c0 : Nat) (l0 : List (S32)) (a1_0 : Int) (a1_1 : Int) (r : Bool) (w : World) (hr0 : Kd.C k32 w A0 l0.length l0) (hc0 : l0.length ≤ c0) (h : billiardlaw24_QueryClosest.f k l0 a1_0 a1_1 = some r) (hr : r = true) :
  Calls Try.prog 4 #[.slice A0 l0.length c0, .agg #[.int .i32 a1_0, .int .i32 a1_1]] w fun e w' => e = .returned (.bool r) ∧ Below w.heap.size w w' := by
 have HR := aM hr
 clear hr
 have hu24 := Try.underlying24
 have hu32 := Try.underlying32
 have HR0 := aM hr0
 have HC0 := aM hc0
 clear hr0 hc0
 have HB := aM (Below.refl w.heap.size w)
 have H : ((billiardref11_View.f k l0).bind fun bt313 => ((billiardlaw24_awake.f k).bind fun t317 => (if t317 = true then (if bt313.2 = true then ((billiardref12_In.f a1_0 a1_1).bind fun t318 => (billiardlaw24_QueryClosest.j0 k bt313.1 (!t318) a1_0 a1_1)) else (billiardlaw24_QueryClosest.j0 k bt313.1 true a1_0 a1_1)) else (billiardlaw24_QueryClosest.j0 k bt313.1 true a1_0 a1_1)))) = some r := h
 clear h
 replace H := Option.bind_eq_some_iff.mp H
 obtain ⟨⟨t313, t314⟩, A30, H⟩ := H
 try dsimp only at H
 have A3 := aM A30
 clear A30
 have HC4 := aM H
 clear H
 go_enter Try.func4, Try.ntmps4
 go_upto_region 2 with (first | ((with_reducible refine gate_dst (N := 3) rfl ?_); refine box_event ?hg (N := 3) ?hd (cs := #[.int .i32 a1_0, .int .i32 a1_1]) (t := 24) ?hr ?_; (case hd => rfl); (case hg => rfl); (case hr => first | (go_simp; done) | (go_simp; rfl)); intro b312 hg w5 hbox hb; have n0_ := aM (lT (by repeat (first | (with_reducible first | exact HB.out | apply lA | apply lN | apply lD) | exact HB.out)) hb); have n1_ := aM (hbox); have n2_ := aM ((by rw [hg]; exact (lZ (by repeat (first | (with_reducible first | exact HB.out | apply lA | apply lN | apply lD) | exact HB.out))) : w.heap.size ≤ b312)); have n3_ := aM ((by rw [hg]; exact (lZ (by repeat (first | (with_reducible first | exact HB.out | apply lA | apply lN | apply lD) | exact HB.out))) : w.heap.size ≤ b312)); clear HB; have HB := n0_; have BK312 := n1_; have GW312 := n2_; have GE312 := n3_; clear n0_ n1_ n2_ n3_; clear hb hbox hg) | ((with_reducible refine gate_callee (f := 7) rfl ?_); refine goesL_ (some 15) rfl rfl Try.func7 (by kernel_rfl) rfl #[.slice A0 l0.length c0] rfl (by (try simp only [List.map_toArray, List.map_cons, List.map_nil]); first | done | rfl | (simp only [List.length_drop, List.length_take]; rfl)) ?_; (with_reducible refine (billiardref11_View.calls k _ _ l0 t313 t314 _ ?side1 ?side2 A3.out).mono ?_); (case side1 => repeat (first | exact (Kd.C_below HR0.out HB.out) | (with_reducible refine Kd.C_alloc ?_ _) | (with_reducible refine Kd.C_drewN ?_ _) | (with_reducible refine Kd.C_drew ?_))); (case side2 => exact HC0.out); rintro e w6 ⟨v315, rfl, ho0, hb⟩; refine ⟨_, rfl, ?_⟩; have n0_ := aM (Kd.R_lower ho0 (lZ (by repeat (first | (with_reducible first | exact HB.out | apply lA | apply lN | apply lD | refine lS ?_ GE312.out) | exact HB.out)))); have n1_ := aM (bB (by (with_reducible repeat first | apply bN | apply bD | apply bA); exact BK312.out) hb); have n2_ := aM (lT (by repeat (first | (with_reducible first | exact HB.out | apply lA | apply lN | apply lD | refine lS ?_ GE312.out) | exact HB.out)) hb); clear BK312; clear HB; have HO316 := n0_; have BK312 := n1_; have HB := n2_; clear n0_ n1_ n2_; (try clear hb); (try clear hb2); (try clear hk); (try clear hi); (try clear ho0)))
 (try simp only [Act.put, sA, sB, sC])
 go_cut [28] (fun v28 wc => ∃ (kq : Nat) (x28_3 : Bool), v28 = .bool x28_3 ∧ Aside0 (billiardlaw24_QueryClosest.j0 kq t313 x28_3 a1_0 a1_1 = some r) ∧ Aside0 (kq ≤ k) ∧ Aside0 (Kd.R k32 32 wc w.heap.size (fun _ => True) v315 t313) ∧ Aside0 (wc.heap[b312]? = some (.cells #[.int .i32 a1_0, .int .i32 a1_1] 24 (0, 0))) ∧ Aside0 (Below w.heap.size w wc))
 case first =>
  have H := HC4.out
  clear HC4
  replace H := Option.bind_eq_some_iff.mp H
  obtain ⟨t317, A70, H⟩ := H
  try dsimp only at H
  have A7 := aM A70
  clear A70
  by_cases c8 : t317 = true
  ·subst c8
   rw [if_pos rfl] at H
   by_cases c9 : t314 = true
   ·subst c9
    rw [if_pos rfl] at H
    replace H := Option.bind_eq_some_iff.mp H
    obtain ⟨t318, A100, H⟩ := H
    try dsimp only at H
    have A10 := aM A100
    clear A100
    have H' := aM H
    clear H
    go_wp2_with (first | ((with_reducible refine gate_callee (f := 8) rfl ?_); refine goesL_ (some 18) rfl rfl Try.func8 (by kernel_rfl) rfl #[] rfl (by (try simp only [List.map_toArray, List.map_cons, List.map_nil]); first | done | rfl | (simp only [List.length_drop, List.length_take]; rfl)) ?_; (with_reducible refine (billiardlaw24_awake.calls k  true _ A7.out).mono ?_); rintro e w11 ⟨rfl, hb⟩; refine ⟨_, rfl, ?_⟩; have n0_ := aM (Kd.R_below (by (with_reducible repeat (first | apply Kd.R_alloc | apply Kd.R_drewN | apply Kd.R_drew)); exact HO316.out) hb); have n1_ := aM (bB (by (with_reducible repeat first | apply bN | apply bD | apply bA); exact BK312.out) hb); have n2_ := aM (lT (by repeat (first | (with_reducible first | exact HB.out | apply lA | apply lN | apply lD) | exact HB.out)) hb); clear HO316; clear BK312; clear HB; have HO316 := n0_; have BK312 := n1_; have HB := n2_; clear n0_ n1_ n2_; (try clear hb); (try clear hb2); (try clear hk); (try clear hi); have hcz12_0 : w11.cell? ⟨b312, 0, none⟩ = some (.int .i32 a1_0) := (bC BK312.out 0).trans rfl; have hcz12_1 : w11.cell? ⟨b312, 1, none⟩ = some (.int .i32 a1_1) := (bC BK312.out 1).trans rfl) | (go_at_call 9; (with_reducible refine (billiardref12_In.calls a1_0 a1_1 t318 _ A10.out).mono ?_); rintro e w13 ⟨rfl, hb⟩; have n0_ := aM (Kd.R_below (by (with_reducible repeat (first | apply Kd.R_alloc | apply Kd.R_drewN | apply Kd.R_drew)); exact HO316.out) hb); have n1_ := aM (bB (by (with_reducible repeat first | apply bN | apply bD | apply bA); exact BK312.out) hb); have n2_ := aM (lT (by repeat (first | (with_reducible first | exact HB.out | apply lA | apply lN | apply lD) | exact HB.out)) hb); clear HO316; clear BK312; clear HB; have HO316 := n0_; have BK312 := n1_; have HB := n2_; clear n0_ n1_ n2_; (try clear hb); (try clear hb2); (try clear hk); (try clear hi)))
    go_meet
    case rel => exact ⟨_, (!t318), (by first | rfl | (simp; done) | (simp [*]; done)), H', ⟨by first | omega | exact Nat.le_refl _⟩, ⟨by (with_reducible repeat (first | apply Kd.R_alloc | apply Kd.R_drewN | apply Kd.R_drew)); exact HO316.out⟩, ⟨by (with_reducible repeat first | apply bN | apply bD | apply bA); exact BK312.out⟩, ⟨by repeat (first | (with_reducible first | exact HB.out | apply lA | apply lN | apply lD) | exact HB.out)⟩⟩
   ·replace c9 := Bool.eq_false_iff.mpr c9
    subst c9
    rw [if_neg (show ¬ (false = true) by decide)] at H
    have H' := aM H
    clear H
    go_wp2_with (first | ((with_reducible refine gate_callee (f := 8) rfl ?_); refine goesL_ (some 18) rfl rfl Try.func8 (by kernel_rfl) rfl #[] rfl (by (try simp only [List.map_toArray, List.map_cons, List.map_nil]); first | done | rfl | (simp only [List.length_drop, List.length_take]; rfl)) ?_; (with_reducible refine (billiardlaw24_awake.calls k  true _ A7.out).mono ?_); rintro e w14 ⟨rfl, hb⟩; refine ⟨_, rfl, ?_⟩; have n0_ := aM (Kd.R_below (by (with_reducible repeat (first | apply Kd.R_alloc | apply Kd.R_drewN | apply Kd.R_drew)); exact HO316.out) hb); have n1_ := aM (bB (by (with_reducible repeat first | apply bN | apply bD | apply bA); exact BK312.out) hb); have n2_ := aM (lT (by repeat (first | (with_reducible first | exact HB.out | apply lA | apply lN | apply lD) | exact HB.out)) hb); clear HO316; clear BK312; clear HB; have HO316 := n0_; have BK312 := n1_; have HB := n2_; clear n0_ n1_ n2_; (try clear hb); (try clear hb2); (try clear hk); (try clear hi)))
    go_meet
    case rel => exact ⟨_, (true), (by first | rfl | (simp; done) | (simp [*]; done)), H', ⟨by first | omega | exact Nat.le_refl _⟩, ⟨by (with_reducible repeat (first | apply Kd.R_alloc | apply Kd.R_drewN | apply Kd.R_drew)); exact HO316.out⟩, ⟨by (with_reducible repeat first | apply bN | apply bD | apply bA); exact BK312.out⟩, ⟨by repeat (first | (with_reducible first | exact HB.out | apply lA | apply lN | apply lD) | exact HB.out)⟩⟩
  ·replace c8 := Bool.eq_false_iff.mpr c8
   subst c8
   exact absurd (billiardlaw24_awake.only A7.out) (by decide)
 case rest =>
  clear HC4
  try clear p2
  try clear c4
  try clear c7
  try clear c8
  try clear c9
  try clear hcz12_0
  try clear hcz12_1
  try clear hfz12_0
  try clear hfz12_1
  obtain ⟨kq, x28_3, rfl, HA, HJ3, HO_5, BK312, HB⟩ := hcut
  cases kq with
  | zero => exact absurd HA.out (by simp [billiardlaw24_QueryClosest.j0])
  | succ kj3 =>
   have H := HA.out
   clear HA
   simp only [billiardlaw24_QueryClosest.j0] at H
   by_cases c15 : x28_3 = true
   ·subst c15
    rw [if_pos rfl] at H
    replace H := Option.bind_eq_some_iff.mp H
    obtain ⟨t319, A160, H⟩ := H
    try dsimp only at H
    have A16 := aM A160
    clear A160
    obtain rfl := Option.some.inj H
    go_wp2_with (first | ((with_reducible refine gate_callee (f := 8) rfl ?_); refine goesL_ (some 29) rfl rfl Try.func8 (by kernel_rfl) rfl #[] rfl (by (try simp only [List.map_toArray, List.map_cons, List.map_nil]); first | done | rfl | (simp only [List.length_drop, List.length_take]; rfl)) ?_; (with_reducible refine (billiardlaw24_awake.calls kj3  t319 _ A16.out).mono ?_); rintro e w17 ⟨rfl, hb⟩; refine ⟨_, rfl, ?_⟩; have n0_ := aM (Kd.R_below (by (with_reducible repeat (first | apply Kd.R_alloc | apply Kd.R_drewN | apply Kd.R_drew)); exact HO_5.out) hb); have n1_ := aM (bB (by (with_reducible repeat first | apply bN | apply bD | apply bA); exact BK312.out) hb); have n2_ := aM (lT (by repeat (first | (with_reducible first | exact HB.out | apply lA | apply lN | apply lD) | exact HB.out)) hb); clear HO_5; clear BK312; clear HB; have HO_5 := n0_; have BK312 := n1_; have HB := n2_; clear n0_ n1_ n2_; (try clear hb); (try clear hb2); (try clear hk); (try clear hi)))
    go_ret
    exact ⟨by first | rfl | (simp [errW_none, errW_some] <;> rfl) | (simp [*, errW_none, errW_some] <;> rfl), by repeat (first | (with_reducible first | exact HB.out | apply lA | apply lN | apply lD) | exact HB.out)⟩
   ·replace c15 := Bool.eq_false_iff.mpr c15
    subst c15
    rw [if_neg (show ¬ (false = true) by decide)] at H
    replace H := Option.bind_eq_some_iff.mp H
    obtain ⟨⟨t320, t321, t322⟩, A180, H⟩ := H
    try dsimp only at H
    have A18 := aM A180
    clear A180
    by_cases c19 : t322 = true
    ·subst c19
     rw [if_pos rfl] at H
     replace H := Option.bind_eq_some_iff.mp H
     obtain ⟨t323, A200, H⟩ := H
     try dsimp only at H
     have A20 := aM A200
     clear A200
     have HC21 := aM H
     clear H
     have hcz22_0 : wc.cell? ⟨b312, 0, none⟩ = some (.int .i32 a1_0) := (bC BK312.out 0).trans rfl
     have hcz22_1 : wc.cell? ⟨b312, 1, none⟩ = some (.int .i32 a1_1) := (bC BK312.out 1).trans rfl
     obtain ⟨Ao23, co23, eo23⟩ := Kd.R_slice HO_5.out
     subst eo23
     go_upto_region 8 with (first | ((with_reducible refine gate_callee (f := 19) rfl ?_); refine goesL_ (some 33) rfl rfl Try.func19 (by kernel_rfl) rfl #[.slice Ao23 t313.length co23, .agg #[.int .i32 a1_0, .int .i32 a1_1]] rfl (by (try simp only [List.map_toArray, List.map_cons, List.map_nil]); first | done | rfl | (simp only [List.length_drop, List.length_take]; rfl)) ?_; (with_reducible refine (query_Closest.calls _ _ t313 a1_0 a1_1 t320 t321 true _ ?side1 ?side2 A18.out).mono ?_); (case side1 => repeat (first | exact (Kd.R_reads' HO_5.out).2.2 | (with_reducible refine Kd.C_alloc ?_ _) | (with_reducible refine Kd.C_drewN ?_ _) | (with_reducible refine Kd.C_drew ?_))); (case side2 => exact (Kd.R_reads' HO_5.out).2.1); rintro e w24 ⟨rfl, hb⟩; refine ⟨_, rfl, ?_⟩; have n0_ := aM (Kd.R_below (by (with_reducible repeat (first | apply Kd.R_alloc | apply Kd.R_drewN | apply Kd.R_drew)); exact HO_5.out) hb); have n1_ := aM (bB (by (with_reducible repeat first | apply bN | apply bD | apply bA); exact BK312.out) hb); have n2_ := aM (lT (by repeat (first | (with_reducible first | exact HB.out | apply lA | apply lN | apply lD) | exact HB.out)) hb); clear HO_5; clear BK312; clear HB; have HO_5 := n0_; have BK312 := n1_; have HB := n2_; clear n0_ n1_ n2_; (try clear hb); (try clear hb2); (try clear hk); (try clear hi)) | ((with_reducible refine gate_callee (f := 20) rfl ?_); refine goesL_ (some 52) rfl rfl Try.func20 (by kernel_rfl) rfl #[.slice Ao23 t313.length co23, .int .u32 t320] rfl (by (try simp only [List.map_toArray, List.map_cons, List.map_nil]); first | done | rfl | (simp only [List.length_drop, List.length_take]; rfl)) ?_; (with_reducible refine (billiardref06_Find.calls kj3 _ _ t313 t320 t323 _ ?side1 ?side2 A20.out).mono ?_); (case side1 => repeat (first | exact (Kd.R_reads' HO_5.out).2.2 | (with_reducible refine Kd.C_alloc ?_ _) | (with_reducible refine Kd.C_drewN ?_ _) | (with_reducible refine Kd.C_drew ?_))); (case side2 => exact (Kd.R_reads' HO_5.out).2.1); rintro e w' ⟨rfl, ⟨nd, rfl⟩⟩; refine ⟨_, rfl, ?_⟩; generalize hq_ : World.drewN w24 nd = w24; have n0_ : Aside0 (Kd.R k32 32 w24 w.heap.size (fun _ => True) (.slice Ao23 t313.length co23) t313) := ⟨by rw [← hq_]; exact Kd.R_drewN HO_5.out _⟩; have n1_ : Aside0 (w24.heap[b312]? = some (.cells #[.int .i32 a1_0, .int .i32 a1_1] 24 (0, 0))) := ⟨by rw [← hq_]; exact BK312.out⟩; have n2_ : Aside0 (Below w.heap.size w w24) := ⟨by rw [← hq_]; exact lN HB.out _⟩; clear HO_5 BK312 HB hq_; have HO_5 := n0_; have BK312 := n1_; have HB := n2_; clear n0_ n1_ n2_))
     (try simp only [Act.put, sA, sB, sC])
     go_cut [64] (fun v64 wc => ∃ (kq : Nat) (x64_20 : Bool), v64 = .bool x64_20 ∧ Aside0 (billiardlaw24_QueryClosest.j1 kq t313 t320 t321 x64_20 a1_0 a1_1 = some r) ∧ Aside0 (kq ≤ kj3) ∧ Aside0 (Kd.R k32 32 wc w.heap.size (fun _ => True) (.slice Ao23 t313.length co23) t313) ∧ Aside0 (wc.heap[b312]? = some (.cells #[.int .i32 a1_0, .int .i32 a1_1] 24 (0, 0))) ∧ Aside0 (Below w.heap.size w wc))
     case first =>
      have H := HC21.out
      clear HC21
      by_cases c25 : t323 < 0
      ·rw [if_pos c25] at H
       exact (billiardlaw24_QueryClosest.j1.dead H HR.out).elim
      ·rw [if_neg c25] at H
       have c25b0 : decide (t323 < 0) = false := decide_eq_false c25
       clear c25
       (first | rw [c25b0] | (simp only [i64_w, i32_w]; rw [c25b0]) | skip)
       by_cases c27 : 0 ≤ t323
       ·rw [if_pos c27] at H
        have c27b0 : decide (0 ≤ t323) = true := decide_eq_true c27
        clear c27
        by_cases c28 : t323 < (t313.length : Int)
        ·rw [if_pos c28] at H
         have c28b0 : decide (t323 < (t313.length : Int)) = true := decide_eq_true c28
         clear c28
         replace H := Option.bind_eq_some_iff.mp H
         obtain ⟨t325, A290, H⟩ := H
         try dsimp only at H
         have A29 := aM A290
         clear A290
         have H' := aM H
         clear H
         try go_wp2
         have n0_ := aM (Kd.R_drew HO_5.out)
         have n1_ := aM (bD BK312.out)
         have n2_ := aM (lD HB.out)
         clear HO_5
         clear BK312
         clear HB
         have HO_5 := n0_
         have BK312 := n1_
         have HB := n2_
         clear n0_ n1_ n2_
         have p324 : 0 ≤ (t323 : Int) := of_decide_eq_true (by first | (with_reducible assumption) | assumption)
         have q324 : t323 < (t313.length : Int) := of_decide_eq_true (by first | (with_reducible assumption) | assumption)
         obtain ⟨ad324, e324, hx324_0, hx324_1, hx324_2, hx324_3, hx324_4, hx324_5, hx324_6, hx324_7, hx324_8, hx324_9⟩ := at_T32 (Kd.R_reads' HO_5.out).2.2 t323 p324 q324
         cases e324
         replace p324 := eq_true p324
         replace q324 := eq_true q324
         refine start_ (n := 12) (S := fun w' => w'.cell? ⟨b312, 0, none⟩ = some (.int .i32 a1_0) ∧ w'.cell? ⟨b312, 1, none⟩ = some (.int .i32 a1_1) ∧ w'.cell? (ad324.add ((t323).toNat * 10)) = some (.int .u32 ((rd_T32 t313 t323).f0)) ∧ w'.cell? ⟨(ad324.add ((t323).toNat * 10)).block, (ad324.add ((t323).toNat * 10)).off + 1, none⟩ = some (.int .i32 ((rd_T32 t313 t323).f1)) ∧ w'.cell? ⟨(ad324.add ((t323).toNat * 10)).block, (ad324.add ((t323).toNat * 10)).off + 2, none⟩ = some (.int .i32 ((rd_T32 t313 t323).f2.f0)) ∧ w'.cell? ⟨(ad324.add ((t323).toNat * 10)).block, (ad324.add ((t323).toNat * 10)).off + 3, none⟩ = some (.int .i32 ((rd_T32 t313 t323).f2.f1)) ∧ w'.cell? ⟨(ad324.add ((t323).toNat * 10)).block, (ad324.add ((t323).toNat * 10)).off + 4, none⟩ = some (.int .i32 ((rd_T32 t313 t323).f3)) ∧ w'.cell? ⟨(ad324.add ((t323).toNat * 10)).block, (ad324.add ((t323).toNat * 10)).off + 5, none⟩ = some (.int .i32 ((rd_T32 t313 t323).f4)) ∧ w'.cell? ⟨(ad324.add ((t323).toNat * 10)).block, (ad324.add ((t323).toNat * 10)).off + 6, none⟩ = some (.int .i32 ((rd_T32 t313 t323).f5.f0)) ∧ w'.cell? ⟨(ad324.add ((t323).toNat * 10)).block, (ad324.add ((t323).toNat * 10)).off + 7, none⟩ = some (.int .i32 ((rd_T32 t313 t323).f5.f1)) ∧ w'.cell? ⟨(ad324.add ((t323).toNat * 10)).block, (ad324.add ((t323).toNat * 10)).off + 8, none⟩ = some (.int .i32 ((rd_T32 t313 t323).f6.f0)) ∧ w'.cell? ⟨(ad324.add ((t323).toNat * 10)).block, (ad324.add ((t323).toNat * 10)).off + 9, none⟩ = some (.int .i32 ((rd_T32 t313 t323).f6.f1))) (ds := []) #[F,F,F,F,F,F,F,F,F,F,F,F] (by kernel_rfl) rfl rfl ⟨(bC BK312.out 0).trans rfl, (bC BK312.out 1).trans rfl, hx324_0, hx324_1, hx324_2, hx324_3, hx324_4, hx324_5, hx324_6, hx324_7, hx324_8, hx324_9⟩ (fun hHeld => ?_); refine with_tabW billiardlaw24_QueryClosest.tab8 billiardlaw24_QueryClosest.bits8 (fun HT_ HW_ => ?_)
         generalize w24.drew = w30 at HO_5 BK312 HB hx324_0 hx324_1 hx324_2 hx324_3 hx324_4 hx324_5 hx324_6 hx324_7 hx324_8 hx324_9 hHeld ⊢
         refine pure_ (i := 0) (N := some 53) (v := ?_) (a' := ?_) #[T,F,F,F,F,F,F,F,F,F,F,F] rfl rfl (any_of HT_.out (by kernel_rfl)) (fun _ _ _ h => h) (Or.inl ⟨by rfl, ?_⟩) ?_ ?_
         rotate_left
         ·intro w'
          go_simp
          with_reducible rfl
         rotate_left
         ·simp only [Act.put, sA, sB, sC, i64_w, i32_w]
          rfl
         refine pure_ (i := 1) (N := some 54) (v := ?_) (a' := ?_) #[T,T,F,F,F,F,F,F,F,F,F,F] rfl rfl (any_of HT_.out (by kernel_rfl)) (fun _ _ _ h => h) (Or.inl ⟨by rfl, ?_⟩) ?_ ?_
         rotate_left
         ·intro w'
          go_simp
          with_reducible rfl
         rotate_left
         ·simp only [Act.put, sA, sB, sC, i64_w, i32_w]
          rfl
         refine pure_ (i := 2) (N := some 55) (v := ?_) (a' := ?_) #[T,T,T,F,F,F,F,F,F,F,F,F] rfl rfl (any_of HT_.out (by kernel_rfl)) (fun _ _ _ h => h) (Or.inl ⟨by rfl, ?_⟩) ?_ ?_
         rotate_left
         ·intro w'
          go_simp
          with_reducible rfl
         rotate_left
         ·simp only [Act.put, sA, sB, sC, i64_w, i32_w]
          rfl
         refine pure_ (i := 3) (N := some 56) (v := ?_) (a' := ?_) #[T,T,T,T,F,F,F,F,F,F,F,F] rfl rfl (any_of HT_.out (by kernel_rfl)) (fun _ _ _ h => h) (Or.inl ⟨by rfl, ?_⟩) ?_ ?_
         rotate_left
         ·intro w'
          go_simp
          with_reducible rfl
         rotate_left
         ·simp only [Act.put, sA, sB, sC, i64_w, i32_w]
          rfl
         refine pure_ (i := 4) (N := some 57) (v := ?_) (a' := ?_) #[T,T,T,T,T,F,F,F,F,F,F,F] rfl rfl (any_of HT_.out (by kernel_rfl)) (fun _ _ _ h => h) (Or.inl ⟨by rfl, ?_⟩) ?_ ?_
         rotate_left
         ·intro w'
          go_simp
          with_reducible rfl
         rotate_left
         ·simp only [Act.put, sA, sB, sC, i64_w, i32_w]
          rfl
         refine pure_ (i := 5) (N := some 58) (v := ?_) (a' := ?_) #[T,T,T,T,T,T,F,F,F,F,F,F] rfl rfl (any_of HT_.out (by kernel_rfl)) (fun _ _ _ h => h) (Or.inl ⟨by rfl, ?_⟩) ?_ ?_
         rotate_left
         ·intro w'
          go_simp
          with_reducible rfl
         rotate_left
         ·simp only [Act.put, sA, sB, sC, i64_w, i32_w]
          rfl
         refine pure_ (i := 9) (N := some 62) (v := ?_) (a' := ?_) #[T,T,T,T,T,T,F,F,F,T,F,F] rfl rfl (any_of HT_.out (by kernel_rfl)) (fun _ _ _ h => h) (Or.inl ⟨by rfl, ?_⟩) ?_ ?_
         rotate_left
         ·intro w'
          go_simp
          with_reducible rfl
         rotate_left
         ·simp only [Act.put, sA, sB, sC, i64_w, i32_w]
          rfl
         refine take_ (i := 6) (N := some 59) (v := ?_) (a' := ?_) #[T,T,T,T,T,T,T,F,F,T,F,F] rfl rfl (take_ofW HT_.out HW_.out (by kernel_rfl)) (fun _ _ _ h => h) (Or.inl ⟨by rfl, ?_⟩) hHeld ?_ ?_
         rotate_left
         ·rintro w' ⟨s0, s1, s2, s3, s4, s5, s6, s7, s8, s9, s10, s11⟩
          go_simp
          with_reducible rfl
         rotate_left
         ·simp only [Act.put, sA, sB, sC, i64_w, i32_w]
          rfl
         refine take_ (i := 7) (N := some 60) (v := ?_) (a' := ?_) #[T,T,T,T,T,T,T,T,F,T,F,F] rfl rfl (take_ofW HT_.out HW_.out (by kernel_rfl)) (fun _ _ _ h => h) (Or.inl ⟨by rfl, ?_⟩) hHeld ?_ ?_
         rotate_left
         ·rintro w' ⟨s0, s1, s2, s3, s4, s5, s6, s7, s8, s9, s10, s11⟩
          go_simp
          with_reducible rfl
         rotate_left
         ·simp only [Act.put, sA, sB, sC, i64_w, i32_w]
          rfl
         refine one_ (i := 8) (N := some 61) #[T,T,T,T,T,T,T,T,T,T,F,F] rfl rfl (one_of HT_.out (by kernel_rfl)) (by decide) (fun K hK => ?_)
         refine goes_ Try.func11 (by kernel_rfl) rfl #[.agg #[.int .u32 ((rd_T32 t313 t323).f0), .int .i32 ((rd_T32 t313 t323).f1), .int .i32 ((rd_T32 t313 t323).f2.f0), .int .i32 ((rd_T32 t313 t323).f2.f1), .int .i32 ((rd_T32 t313 t323).f3), .int .i32 ((rd_T32 t313 t323).f4), .int .i32 ((rd_T32 t313 t323).f5.f0), .int .i32 ((rd_T32 t313 t323).f5.f1), .int .i32 ((rd_T32 t313 t323).f6.f0), .int .i32 ((rd_T32 t313 t323).f6.f1)], .agg #[.int .i32 a1_0, .int .i32 a1_1]] (by rfl) rfl rfl (by (try simp only [List.map_toArray, List.map_cons, List.map_nil]); first | done | rfl | (simp only [List.length_drop, List.length_take]; rfl)) ?_
         with_reducible refine (billiardref24_Distance.calls kj3 ((rd_T32 t313 t323).f0) ((rd_T32 t313 t323).f1) ((rd_T32 t313 t323).f2.f0) ((rd_T32 t313 t323).f2.f1) ((rd_T32 t313 t323).f3) ((rd_T32 t313 t323).f4) ((rd_T32 t313 t323).f5.f0) ((rd_T32 t313 t323).f5.f1) ((rd_T32 t313 t323).f6.f0) ((rd_T32 t313 t323).f6.f1) a1_0 a1_1 t325 _ A29.out).mono ?_
         rintro e w31 ⟨rfl, hb⟩
         have HS2_ := (hb.cell (World.block_lt_of_cell? _ _ (hHeld.2.2.1))).trans (hHeld.2.2.1)
         have HS3_ := (hb.cell (World.block_lt_of_cell? _ _ (hHeld.2.2.2.1))).trans (hHeld.2.2.2.1)
         have HS4_ := (hb.cell (World.block_lt_of_cell? _ _ (hHeld.2.2.2.2.1))).trans (hHeld.2.2.2.2.1)
         have HS5_ := (hb.cell (World.block_lt_of_cell? _ _ (hHeld.2.2.2.2.2.1))).trans (hHeld.2.2.2.2.2.1)
         have HS6_ := (hb.cell (World.block_lt_of_cell? _ _ (hHeld.2.2.2.2.2.2.1))).trans (hHeld.2.2.2.2.2.2.1)
         have HS7_ := (hb.cell (World.block_lt_of_cell? _ _ (hHeld.2.2.2.2.2.2.2.1))).trans (hHeld.2.2.2.2.2.2.2.1)
         have HS8_ := (hb.cell (World.block_lt_of_cell? _ _ (hHeld.2.2.2.2.2.2.2.2.1))).trans (hHeld.2.2.2.2.2.2.2.2.1)
         have HS9_ := (hb.cell (World.block_lt_of_cell? _ _ (hHeld.2.2.2.2.2.2.2.2.2.1))).trans (hHeld.2.2.2.2.2.2.2.2.2.1)
         have HS10_ := (hb.cell (World.block_lt_of_cell? _ _ (hHeld.2.2.2.2.2.2.2.2.2.2.1))).trans (hHeld.2.2.2.2.2.2.2.2.2.2.1)
         have HS11_ := (hb.cell (World.block_lt_of_cell? _ _ (hHeld.2.2.2.2.2.2.2.2.2.2.2))).trans (hHeld.2.2.2.2.2.2.2.2.2.2.2)
         refine ⟨_, rfl, ?_⟩
         have n0_ := aM (Kd.R_below (by (with_reducible repeat (first | apply Kd.R_alloc | apply Kd.R_drewN | apply Kd.R_drew)); exact HO_5.out) hb)
         have n1_ := aM (bB (by (with_reducible repeat first | apply bN | apply bD | apply bA); exact BK312.out) hb)
         have n2_ := aM (lT (by repeat (first | (with_reducible first | exact HB.out | apply lA | apply lN | apply lD) | exact HB.out)) hb)
         clear HO_5
         clear BK312
         clear HB
         have HO_5 := n0_
         have BK312 := n1_
         have HB := n2_
         clear n0_ n1_ n2_
         (try clear hb)
         (try clear hb2)
         (try clear hk)
         (try clear hi)
         refine hK.out _ _ ⟨(bC BK312.out 0).trans rfl, (bC BK312.out 1).trans rfl, HS2_, HS3_, HS4_, HS5_, HS6_, HS7_, HS8_, HS9_, HS10_, HS11_⟩ (fun hHeld => ?_)
         clear hK K
         refine norm_ (a' := ?_) ?_ ?_
         rotate_left
         ·show Act.put _ (some 61) _ = _
          simp only [Act.put, sA, sB, sC, i64_w, i32_w]
          rfl
         refine pure_ (i := 10) (N := some 63) (v := ?_) (a' := ?_) #[T,T,T,T,T,T,T,T,T,T,T,F] rfl rfl (any_of HT_.out (by kernel_rfl)) (fun _ _ _ h => h) (Or.inl ⟨by rfl, ?_⟩) ?_ ?_
         rotate_left
         ·intro w'
          go_simp
          with_reducible rfl
         rotate_left
         ·simp only [Act.put, sA, sB, sC, i64_w, i32_w]
          rfl
         refine pure_ (i := 11) (N := some 64) (v := ?_) (a' := ?_) #[T,T,T,T,T,T,T,T,T,T,T,T] rfl rfl (any_of HT_.out (by kernel_rfl)) (fun _ _ _ h => h) (Or.inl ⟨by rfl, ?_⟩) ?_ ?_
         rotate_left
         ·intro w'
          go_simp
          with_reducible rfl
         rotate_left
         ·simp only [Act.put, sA, sB, sC, i64_w, i32_w]
          rfl
         refine done_ (done_of HT_.out (by kernel_rfl)) ?_
         try go_wp2
         go_meet
         case rel => exact ⟨_, ((t325 != t321)), (by first | rfl | (simp; done) | (simp [*]; done)), H', ⟨by have := HJ3.out; first | omega | exact Nat.le_refl _⟩, ⟨by (with_reducible repeat (first | apply Kd.R_alloc | apply Kd.R_drewN | apply Kd.R_drew)); exact HO_5.out⟩, ⟨by (with_reducible repeat first | apply bN | apply bD | apply bA); exact BK312.out⟩, ⟨by repeat (first | (with_reducible first | exact HB.out | apply lA | apply lN | apply lD) | exact HB.out)⟩⟩
        ·rw [if_neg c28] at H
         exact absurd H (by simp)
       ·rw [if_neg c27] at H
        exact absurd H (by simp)
     case rest =>
      clear HC21
      try clear c1
      try clear c2
      try clear p2
      try clear p3
      try clear q3
      try clear hx3
      try clear c4
      try clear c7
      try clear c8
      try clear c9
      try clear c11
      try clear c15
      try clear c19
      try clear c20
      try clear c25
      try clear c25b0
      try clear c27
      try clear c27b0
      try clear c28
      try clear c28b0
      try clear hcz12_0
      try clear hcz12_1
      try clear hcz22_0
      try clear hcz22_1
      try clear hfz12_0
      try clear hfz12_1
      try clear hfz22_0
      try clear hfz22_1
      try clear hx324_0
      try clear hx324_1
      try clear hx324_2
      try clear hx324_3
      try clear hx324_4
      try clear hx324_5
      try clear hx324_6
      try clear hx324_7
      try clear hx324_8
      try clear hx324_9
      try clear p2
      try clear p324
      try clear q324
      obtain ⟨kq, x64_20, rfl, HA, HJ20, HO_5, BK312, HB⟩ := hcut
      cases kq with
      | zero => exact absurd HA.out (by simp [billiardlaw24_QueryClosest.j1])
      | succ kj20 =>
       have H := HA.out
       clear HA
       simp only [billiardlaw24_QueryClosest.j1] at H
       by_cases c32 : x64_20 = true
       ·subst c32
        rw [if_pos rfl] at H
        exact absurd ((Option.some.inj H).trans HR.out) (by decide)
       ·replace c32 := Bool.eq_false_iff.mpr c32
        subst c32
        rw [if_neg (show ¬ (false = true) by decide)] at H
        have H' := aM H
        clear H
        go_wp2
        go_loopg [11] kj20 (fun kq v11 w' => ∃ (x11_3 : Int), v11 = .int .i64 x11_3 ∧ Aside0 (billiardlaw24_QueryClosest.l0 kq t313 t320 t321 x11_3 a1_0 a1_1 = some r) ∧ Aside0 (kq ≤ kj20) ∧ Aside0 (Kd.R k32 32 w' w.heap.size (fun _ => True) (.slice Ao23 t313.length co23) t313) ∧ Aside0 (w'.heap[b312]? = some (.cells #[.int .i32 a1_0, .int .i32 a1_1] 24 (0, 0))) ∧ Aside0 (Below w.heap.size w w'))
        case atStart => exact ⟨(0), (by first | rfl | (simp; done) | (simp [*]; done)), H', ⟨Nat.le_refl _⟩, ⟨by (with_reducible repeat (first | apply Kd.R_alloc | apply Kd.R_drewN | apply Kd.R_drew)); exact HO_5.out⟩, ⟨by (with_reducible repeat first | apply bN | apply bD | apply bA); exact BK312.out⟩, ⟨by repeat (first | (with_reducible first | exact HB.out | apply lA | apply lN | apply lD) | exact HB.out)⟩⟩
        case round =>
         clear H'
         try clear c1
         try clear c2
         try clear p2
         try clear c3
         try clear p3
         try clear q3
         try clear hx3
         try clear c4
         try clear c7
         try clear c8
         try clear c9
         try clear c11
         try clear c15
         try clear c19
         try clear c20
         try clear c25
         try clear c25b0
         try clear c27
         try clear c27b0
         try clear c28
         try clear c28b0
         try clear c32
         try clear p32
         try clear q32
         try clear hx32
         try clear hcz12_0
         try clear hcz12_1
         try clear hcz22_0
         try clear hcz22_1
         try clear hfz12_0
         try clear hfz12_1
         try clear hfz22_0
         try clear hfz22_1
         try clear hx324_0
         try clear hx324_1
         try clear hx324_2
         try clear hx324_3
         try clear hx324_4
         try clear hx324_5
         try clear hx324_6
         try clear hx324_7
         try clear hx324_8
         try clear hx324_9
         try clear p2
         try clear p3
         try clear p324
         try clear q3
         try clear q324
         obtain ⟨x11_3, rfl, HA, HK3, HO_5, BK312, HB⟩ := hrel
         cases gk with
         | zero => exact absurd HA.out (by simp [billiardlaw24_QueryClosest.l0])
         | succ k3 =>
          have H := HA.out
          clear HA
          simp only [billiardlaw24_QueryClosest.l0] at H
          by_cases c33 : x11_3 < (t313.length : Int)
          ·rw [if_pos c33] at H
           have c33b0 : decide (x11_3 < (t313.length : Int)) = true := decide_eq_true c33
           clear c33
           by_cases c34 : 0 ≤ x11_3
           ·rw [if_pos c34] at H
            have c34b0 : decide (0 ≤ x11_3) = true := decide_eq_true c34
            clear c34
            replace H := Option.bind_eq_some_iff.mp H
            obtain ⟨t327, A350, H⟩ := H
            try dsimp only at H
            have A35 := aM A350
            clear A350
            by_cases c36 : t327 < t321
            ·rw [if_pos c36] at H
             have c36b0 : decide (t327 < t321) = true := decide_eq_true c36
             clear c36
             exact absurd ((Option.some.inj H).trans HR.out) (by decide)
            ·rw [if_neg c36] at H
             have c36b0 : decide (t327 < t321) = false := decide_eq_false c36
             clear c36
             by_cases c37 : t327 = t321
             ·rw [if_pos c37] at H
              have c37b0 : (t327 == t321) = true := beq_iff_eq.mpr c37
              have c37b1 : (t327 != t321) = false := bne_eq_false_iff_eq.mpr c37
              clear c37
              by_cases c38 : ((rd_T32 t313 x11_3).f0) < t320
              ·rw [if_pos c38] at H
               have c38b0 : decide (((rd_T32 t313 x11_3).f0) < t320) = true := decide_eq_true c38
               clear c38
               exact absurd ((Option.some.inj H).trans HR.out) (by decide)
              ·rw [if_neg c38] at H
               have c38b0 : decide (((rd_T32 t313 x11_3).f0) < t320) = false := decide_eq_false c38
               clear c38
               have H' := aM H
               clear H
               try go_wp2
               have n0_ := aM (Kd.R_drew HO_5.out)
               have n1_ := aM (bD BK312.out)
               have n2_ := aM (lD HB.out)
               clear HO_5
               clear BK312
               clear HB
               have HO_5 := n0_
               have BK312 := n1_
               have HB := n2_
               clear n0_ n1_ n2_
               have p326 : 0 ≤ (x11_3 : Int) := of_decide_eq_true (by first | (with_reducible assumption) | assumption)
               have q326 : x11_3 < (t313.length : Int) := of_decide_eq_true (by first | (with_reducible assumption) | assumption)
               obtain ⟨ad326, e326, hx326_0, hx326_1, hx326_2, hx326_3, hx326_4, hx326_5, hx326_6, hx326_7, hx326_8, hx326_9⟩ := at_T32 (Kd.R_reads' HO_5.out).2.2 x11_3 p326 q326
               cases e326
               replace p326 := eq_true p326
               replace q326 := eq_true q326
               refine start_ (n := 7) (S := fun w' => w'.cell? ⟨b312, 0, none⟩ = some (.int .i32 a1_0) ∧ w'.cell? ⟨b312, 1, none⟩ = some (.int .i32 a1_1) ∧ w'.cell? (ad326.add ((x11_3).toNat * 10)) = some (.int .u32 ((rd_T32 t313 x11_3).f0)) ∧ w'.cell? ⟨(ad326.add ((x11_3).toNat * 10)).block, (ad326.add ((x11_3).toNat * 10)).off + 1, none⟩ = some (.int .i32 ((rd_T32 t313 x11_3).f1)) ∧ w'.cell? ⟨(ad326.add ((x11_3).toNat * 10)).block, (ad326.add ((x11_3).toNat * 10)).off + 2, none⟩ = some (.int .i32 ((rd_T32 t313 x11_3).f2.f0)) ∧ w'.cell? ⟨(ad326.add ((x11_3).toNat * 10)).block, (ad326.add ((x11_3).toNat * 10)).off + 3, none⟩ = some (.int .i32 ((rd_T32 t313 x11_3).f2.f1)) ∧ w'.cell? ⟨(ad326.add ((x11_3).toNat * 10)).block, (ad326.add ((x11_3).toNat * 10)).off + 4, none⟩ = some (.int .i32 ((rd_T32 t313 x11_3).f3)) ∧ w'.cell? ⟨(ad326.add ((x11_3).toNat * 10)).block, (ad326.add ((x11_3).toNat * 10)).off + 5, none⟩ = some (.int .i32 ((rd_T32 t313 x11_3).f4)) ∧ w'.cell? ⟨(ad326.add ((x11_3).toNat * 10)).block, (ad326.add ((x11_3).toNat * 10)).off + 6, none⟩ = some (.int .i32 ((rd_T32 t313 x11_3).f5.f0)) ∧ w'.cell? ⟨(ad326.add ((x11_3).toNat * 10)).block, (ad326.add ((x11_3).toNat * 10)).off + 7, none⟩ = some (.int .i32 ((rd_T32 t313 x11_3).f5.f1)) ∧ w'.cell? ⟨(ad326.add ((x11_3).toNat * 10)).block, (ad326.add ((x11_3).toNat * 10)).off + 8, none⟩ = some (.int .i32 ((rd_T32 t313 x11_3).f6.f0)) ∧ w'.cell? ⟨(ad326.add ((x11_3).toNat * 10)).block, (ad326.add ((x11_3).toNat * 10)).off + 9, none⟩ = some (.int .i32 ((rd_T32 t313 x11_3).f6.f1))) (ds := []) #[F,F,F,F,F,F,F] (by kernel_rfl) rfl rfl ⟨(bC BK312.out 0).trans rfl, (bC BK312.out 1).trans rfl, hx326_0, hx326_1, hx326_2, hx326_3, hx326_4, hx326_5, hx326_6, hx326_7, hx326_8, hx326_9⟩ (fun hHeld => ?_)
               generalize wr.drew = w39 at HO_5 BK312 HB hx326_0 hx326_1 hx326_2 hx326_3 hx326_4 hx326_5 hx326_6 hx326_7 hx326_8 hx326_9 hHeld ⊢
               refine pure_ (i := 0) (N := some 71) (v := ?_) (a' := ?_) #[T,F,F,F,F,F,F] rfl rfl (by kernel_rfl) (fun _ _ _ h => h) (Or.inl ⟨by rfl, ?_⟩) ?_ ?_
               rotate_left
               ·intro w'
                go_simp
                with_reducible rfl
               rotate_left
               ·simp only [Act.put, sA, sB, sC, i64_w, i32_w]
                rfl
               refine pure_ (i := 1) (N := some 72) (v := ?_) (a' := ?_) #[T,T,F,F,F,F,F] rfl rfl (by kernel_rfl) (fun _ _ _ h => h) (Or.inl ⟨by rfl, ?_⟩) ?_ ?_
               rotate_left
               ·intro w'
                go_simp
                with_reducible rfl
               rotate_left
               ·simp only [Act.put, sA, sB, sC, i64_w, i32_w]
                rfl
               refine pure_ (i := 2) (N := some 73) (v := ?_) (a' := ?_) #[T,T,T,F,F,F,F] rfl rfl (by kernel_rfl) (fun _ _ _ h => h) (Or.inl ⟨by rfl, ?_⟩) ?_ ?_
               rotate_left
               ·intro w'
                go_simp
                with_reducible rfl
               rotate_left
               ·simp only [Act.put, sA, sB, sC, i64_w, i32_w]
                rfl
               refine take_ (i := 3) (N := some 74) (v := ?_) (a' := ?_) #[T,T,T,T,F,F,F] rfl rfl (by kernel_rfl) (fun _ _ _ h => h) (Or.inl ⟨by rfl, ?_⟩) hHeld ?_ ?_
               rotate_left
               ·rintro w' ⟨s0, s1, s2, s3, s4, s5, s6, s7, s8, s9, s10, s11⟩
                go_simp
                with_reducible rfl
               rotate_left
               ·simp only [Act.put, sA, sB, sC, i64_w, i32_w]
                rfl
               refine take_ (i := 4) (N := some 75) (v := ?_) (a' := ?_) #[T,T,T,T,T,F,F] rfl rfl (by kernel_rfl) (fun _ _ _ h => h) (Or.inl ⟨by rfl, ?_⟩) hHeld ?_ ?_
               rotate_left
               ·rintro w' ⟨s0, s1, s2, s3, s4, s5, s6, s7, s8, s9, s10, s11⟩
                go_simp
                with_reducible rfl
               rotate_left
               ·simp only [Act.put, sA, sB, sC, i64_w, i32_w]
                rfl
               refine one_ (i := 5) (N := some 76) #[T,T,T,T,T,T,F] rfl rfl (by kernel_rfl) (by decide) (fun K hK => ?_)
               refine goes_ Try.func11 (by kernel_rfl) rfl #[.agg #[.int .u32 ((rd_T32 t313 x11_3).f0), .int .i32 ((rd_T32 t313 x11_3).f1), .int .i32 ((rd_T32 t313 x11_3).f2.f0), .int .i32 ((rd_T32 t313 x11_3).f2.f1), .int .i32 ((rd_T32 t313 x11_3).f3), .int .i32 ((rd_T32 t313 x11_3).f4), .int .i32 ((rd_T32 t313 x11_3).f5.f0), .int .i32 ((rd_T32 t313 x11_3).f5.f1), .int .i32 ((rd_T32 t313 x11_3).f6.f0), .int .i32 ((rd_T32 t313 x11_3).f6.f1)], .agg #[.int .i32 a1_0, .int .i32 a1_1]] (by rfl) rfl rfl (by (try simp only [List.map_toArray, List.map_cons, List.map_nil]); first | done | rfl | (simp only [List.length_drop, List.length_take]; rfl)) ?_
               with_reducible refine (billiardref24_Distance.calls k3 ((rd_T32 t313 x11_3).f0) ((rd_T32 t313 x11_3).f1) ((rd_T32 t313 x11_3).f2.f0) ((rd_T32 t313 x11_3).f2.f1) ((rd_T32 t313 x11_3).f3) ((rd_T32 t313 x11_3).f4) ((rd_T32 t313 x11_3).f5.f0) ((rd_T32 t313 x11_3).f5.f1) ((rd_T32 t313 x11_3).f6.f0) ((rd_T32 t313 x11_3).f6.f1) a1_0 a1_1 t327 _ A35.out).mono ?_
               rintro e w40 ⟨rfl, hb⟩
               have HS2_ := (hb.cell (World.block_lt_of_cell? _ _ (hHeld.2.2.1))).trans (hHeld.2.2.1)
               have HS3_ := (hb.cell (World.block_lt_of_cell? _ _ (hHeld.2.2.2.1))).trans (hHeld.2.2.2.1)
               have HS4_ := (hb.cell (World.block_lt_of_cell? _ _ (hHeld.2.2.2.2.1))).trans (hHeld.2.2.2.2.1)
               have HS5_ := (hb.cell (World.block_lt_of_cell? _ _ (hHeld.2.2.2.2.2.1))).trans (hHeld.2.2.2.2.2.1)
               have HS6_ := (hb.cell (World.block_lt_of_cell? _ _ (hHeld.2.2.2.2.2.2.1))).trans (hHeld.2.2.2.2.2.2.1)
               have HS7_ := (hb.cell (World.block_lt_of_cell? _ _ (hHeld.2.2.2.2.2.2.2.1))).trans (hHeld.2.2.2.2.2.2.2.1)
               have HS8_ := (hb.cell (World.block_lt_of_cell? _ _ (hHeld.2.2.2.2.2.2.2.2.1))).trans (hHeld.2.2.2.2.2.2.2.2.1)
               have HS9_ := (hb.cell (World.block_lt_of_cell? _ _ (hHeld.2.2.2.2.2.2.2.2.2.1))).trans (hHeld.2.2.2.2.2.2.2.2.2.1)
               have HS10_ := (hb.cell (World.block_lt_of_cell? _ _ (hHeld.2.2.2.2.2.2.2.2.2.2.1))).trans (hHeld.2.2.2.2.2.2.2.2.2.2.1)
               have HS11_ := (hb.cell (World.block_lt_of_cell? _ _ (hHeld.2.2.2.2.2.2.2.2.2.2.2))).trans (hHeld.2.2.2.2.2.2.2.2.2.2.2)
               refine ⟨_, rfl, ?_⟩
               have n0_ := aM (Kd.R_below (by (with_reducible repeat (first | apply Kd.R_alloc | apply Kd.R_drewN | apply Kd.R_drew)); exact HO_5.out) hb)
               have n1_ := aM (bB (by (with_reducible repeat first | apply bN | apply bD | apply bA); exact BK312.out) hb)
               have n2_ := aM (lT (by repeat (first | (with_reducible first | exact HB.out | apply lA | apply lN | apply lD) | exact HB.out)) hb)
               clear HO_5
               clear BK312
               clear HB
               have HO_5 := n0_
               have BK312 := n1_
               have HB := n2_
               clear n0_ n1_ n2_
               (try clear hb)
               (try clear hb2)
               (try clear hk)
               (try clear hi)
               refine hK.out _ _ ⟨(bC BK312.out 0).trans rfl, (bC BK312.out 1).trans rfl, HS2_, HS3_, HS4_, HS5_, HS6_, HS7_, HS8_, HS9_, HS10_, HS11_⟩ (fun hHeld => ?_)
               clear hK K
               refine norm_ (a' := ?_) ?_ ?_
               rotate_left
               ·show Act.put _ (some 76) _ = _
                simp only [Act.put, sA, sB, sC, i64_w, i32_w]
                rfl
               refine pure_ (i := 6) (N := some 12) (v := ?_) (a' := ?_) #[T,T,T,T,T,T,T] rfl rfl (by kernel_rfl) (fun _ _ _ h => h) (Or.inl ⟨by rfl, ?_⟩) ?_ ?_
               rotate_left
               ·intro w'
                go_simp
                with_reducible rfl
               rotate_left
               ·simp only [Act.put, sA, sB, sC, i64_w, i32_w]
                rfl
               refine done_ (by kernel_rfl) ?_
               have p328 : 0 ≤ (x11_3 : Int) := of_decide_eq_true (by first | (with_reducible assumption) | assumption)
               have q328 : x11_3 < (t313.length : Int) := of_decide_eq_true (by first | (with_reducible assumption) | assumption)
               obtain ⟨ad328, e328, hx328_0, hx328_1, hx328_2, hx328_3, hx328_4, hx328_5, hx328_6, hx328_7, hx328_8, hx328_9⟩ := at_T32 (Kd.R_reads' HO_5.out).2.2 x11_3 p328 q328
               obtain rfl : ad326 = ad328 := (by injection e328)
               replace p328 := eq_true p328
               replace q328 := eq_true q328
               try go_wp2
               go_roundg k3
               case measure => have := HJ3.out; have := HJ20.out; have := HK3.out; omega
               case rel => exact ⟨(wrap64 (x11_3 + 1)), (by first | rfl | (simp; done) | (simp [*]; done)), H', ⟨by have := HJ3.out; have := HJ20.out; have := HK3.out; omega⟩, ⟨by (with_reducible repeat (first | apply Kd.R_alloc | apply Kd.R_drewN | apply Kd.R_drew)); exact HO_5.out⟩, ⟨by (with_reducible repeat first | apply bN | apply bD | apply bA); exact BK312.out⟩, ⟨by repeat (first | (with_reducible first | exact HB.out | apply lA | apply lN | apply lD) | exact HB.out)⟩⟩
             ·rw [if_neg c37] at H
              have c37b0 : (t327 == t321) = false := beq_eq_false_iff_ne.mpr c37
              have c37b1 : (t327 != t321) = true := bne_iff_ne.mpr c37
              have H' := aM H
              clear H
              try go_wp2
              have n0_ := aM (Kd.R_drew HO_5.out)
              have n1_ := aM (bD BK312.out)
              have n2_ := aM (lD HB.out)
              clear HO_5
              clear BK312
              clear HB
              have HO_5 := n0_
              have BK312 := n1_
              have HB := n2_
              clear n0_ n1_ n2_
              have p326 : 0 ≤ (x11_3 : Int) := of_decide_eq_true (by first | (with_reducible assumption) | assumption)
              have q326 : x11_3 < (t313.length : Int) := of_decide_eq_true (by first | (with_reducible assumption) | assumption)
              obtain ⟨ad326, e326, hx326_0, hx326_1, hx326_2, hx326_3, hx326_4, hx326_5, hx326_6, hx326_7, hx326_8, hx326_9⟩ := at_T32 (Kd.R_reads' HO_5.out).2.2 x11_3 p326 q326
              cases e326
              replace p326 := eq_true p326
              replace q326 := eq_true q326
              refine start_ (n := 7) (S := fun w' => w'.cell? ⟨b312, 0, none⟩ = some (.int .i32 a1_0) ∧ w'.cell? ⟨b312, 1, none⟩ = some (.int .i32 a1_1) ∧ w'.cell? (ad326.add ((x11_3).toNat * 10)) = some (.int .u32 ((rd_T32 t313 x11_3).f0)) ∧ w'.cell? ⟨(ad326.add ((x11_3).toNat * 10)).block, (ad326.add ((x11_3).toNat * 10)).off + 1, none⟩ = some (.int .i32 ((rd_T32 t313 x11_3).f1)) ∧ w'.cell? ⟨(ad326.add ((x11_3).toNat * 10)).block, (ad326.add ((x11_3).toNat * 10)).off + 2, none⟩ = some (.int .i32 ((rd_T32 t313 x11_3).f2.f0)) ∧ w'.cell? ⟨(ad326.add ((x11_3).toNat * 10)).block, (ad326.add ((x11_3).toNat * 10)).off + 3, none⟩ = some (.int .i32 ((rd_T32 t313 x11_3).f2.f1)) ∧ w'.cell? ⟨(ad326.add ((x11_3).toNat * 10)).block, (ad326.add ((x11_3).toNat * 10)).off + 4, none⟩ = some (.int .i32 ((rd_T32 t313 x11_3).f3)) ∧ w'.cell? ⟨(ad326.add ((x11_3).toNat * 10)).block, (ad326.add ((x11_3).toNat * 10)).off + 5, none⟩ = some (.int .i32 ((rd_T32 t313 x11_3).f4)) ∧ w'.cell? ⟨(ad326.add ((x11_3).toNat * 10)).block, (ad326.add ((x11_3).toNat * 10)).off + 6, none⟩ = some (.int .i32 ((rd_T32 t313 x11_3).f5.f0)) ∧ w'.cell? ⟨(ad326.add ((x11_3).toNat * 10)).block, (ad326.add ((x11_3).toNat * 10)).off + 7, none⟩ = some (.int .i32 ((rd_T32 t313 x11_3).f5.f1)) ∧ w'.cell? ⟨(ad326.add ((x11_3).toNat * 10)).block, (ad326.add ((x11_3).toNat * 10)).off + 8, none⟩ = some (.int .i32 ((rd_T32 t313 x11_3).f6.f0)) ∧ w'.cell? ⟨(ad326.add ((x11_3).toNat * 10)).block, (ad326.add ((x11_3).toNat * 10)).off + 9, none⟩ = some (.int .i32 ((rd_T32 t313 x11_3).f6.f1))) (ds := []) #[F,F,F,F,F,F,F] (by kernel_rfl) rfl rfl ⟨(bC BK312.out 0).trans rfl, (bC BK312.out 1).trans rfl, hx326_0, hx326_1, hx326_2, hx326_3, hx326_4, hx326_5, hx326_6, hx326_7, hx326_8, hx326_9⟩ (fun hHeld => ?_)
              generalize wr.drew = w41 at HO_5 BK312 HB hx326_0 hx326_1 hx326_2 hx326_3 hx326_4 hx326_5 hx326_6 hx326_7 hx326_8 hx326_9 hHeld ⊢
              refine pure_ (i := 0) (N := some 71) (v := ?_) (a' := ?_) #[T,F,F,F,F,F,F] rfl rfl (by kernel_rfl) (fun _ _ _ h => h) (Or.inl ⟨by rfl, ?_⟩) ?_ ?_
              rotate_left
              ·intro w'
               go_simp
               with_reducible rfl
              rotate_left
              ·simp only [Act.put, sA, sB, sC, i64_w, i32_w]
               rfl
              refine pure_ (i := 1) (N := some 72) (v := ?_) (a' := ?_) #[T,T,F,F,F,F,F] rfl rfl (by kernel_rfl) (fun _ _ _ h => h) (Or.inl ⟨by rfl, ?_⟩) ?_ ?_
              rotate_left
              ·intro w'
               go_simp
               with_reducible rfl
              rotate_left
              ·simp only [Act.put, sA, sB, sC, i64_w, i32_w]
               rfl
              refine pure_ (i := 2) (N := some 73) (v := ?_) (a' := ?_) #[T,T,T,F,F,F,F] rfl rfl (by kernel_rfl) (fun _ _ _ h => h) (Or.inl ⟨by rfl, ?_⟩) ?_ ?_
              rotate_left
              ·intro w'
               go_simp
               with_reducible rfl
              rotate_left
              ·simp only [Act.put, sA, sB, sC, i64_w, i32_w]
               rfl
              refine take_ (i := 3) (N := some 74) (v := ?_) (a' := ?_) #[T,T,T,T,F,F,F] rfl rfl (by kernel_rfl) (fun _ _ _ h => h) (Or.inl ⟨by rfl, ?_⟩) hHeld ?_ ?_
              rotate_left
              ·rintro w' ⟨s0, s1, s2, s3, s4, s5, s6, s7, s8, s9, s10, s11⟩
               go_simp
               with_reducible rfl
              rotate_left
              ·simp only [Act.put, sA, sB, sC, i64_w, i32_w]
               rfl
              refine take_ (i := 4) (N := some 75) (v := ?_) (a' := ?_) #[T,T,T,T,T,F,F] rfl rfl (by kernel_rfl) (fun _ _ _ h => h) (Or.inl ⟨by rfl, ?_⟩) hHeld ?_ ?_
              rotate_left
              ·rintro w' ⟨s0, s1, s2, s3, s4, s5, s6, s7, s8, s9, s10, s11⟩
               go_simp
               with_reducible rfl
              rotate_left
              ·simp only [Act.put, sA, sB, sC, i64_w, i32_w]
               rfl
              refine one_ (i := 5) (N := some 76) #[T,T,T,T,T,T,F] rfl rfl (by kernel_rfl) (by decide) (fun K hK => ?_)
              refine goes_ Try.func11 (by kernel_rfl) rfl #[.agg #[.int .u32 ((rd_T32 t313 x11_3).f0), .int .i32 ((rd_T32 t313 x11_3).f1), .int .i32 ((rd_T32 t313 x11_3).f2.f0), .int .i32 ((rd_T32 t313 x11_3).f2.f1), .int .i32 ((rd_T32 t313 x11_3).f3), .int .i32 ((rd_T32 t313 x11_3).f4), .int .i32 ((rd_T32 t313 x11_3).f5.f0), .int .i32 ((rd_T32 t313 x11_3).f5.f1), .int .i32 ((rd_T32 t313 x11_3).f6.f0), .int .i32 ((rd_T32 t313 x11_3).f6.f1)], .agg #[.int .i32 a1_0, .int .i32 a1_1]] (by rfl) rfl rfl (by (try simp only [List.map_toArray, List.map_cons, List.map_nil]); first | done | rfl | (simp only [List.length_drop, List.length_take]; rfl)) ?_
              with_reducible refine (billiardref24_Distance.calls k3 ((rd_T32 t313 x11_3).f0) ((rd_T32 t313 x11_3).f1) ((rd_T32 t313 x11_3).f2.f0) ((rd_T32 t313 x11_3).f2.f1) ((rd_T32 t313 x11_3).f3) ((rd_T32 t313 x11_3).f4) ((rd_T32 t313 x11_3).f5.f0) ((rd_T32 t313 x11_3).f5.f1) ((rd_T32 t313 x11_3).f6.f0) ((rd_T32 t313 x11_3).f6.f1) a1_0 a1_1 t327 _ A35.out).mono ?_
              rintro e w42 ⟨rfl, hb⟩
              have HS2_ := (hb.cell (World.block_lt_of_cell? _ _ (hHeld.2.2.1))).trans (hHeld.2.2.1)
              have HS3_ := (hb.cell (World.block_lt_of_cell? _ _ (hHeld.2.2.2.1))).trans (hHeld.2.2.2.1)
              have HS4_ := (hb.cell (World.block_lt_of_cell? _ _ (hHeld.2.2.2.2.1))).trans (hHeld.2.2.2.2.1)
              have HS5_ := (hb.cell (World.block_lt_of_cell? _ _ (hHeld.2.2.2.2.2.1))).trans (hHeld.2.2.2.2.2.1)
              have HS6_ := (hb.cell (World.block_lt_of_cell? _ _ (hHeld.2.2.2.2.2.2.1))).trans (hHeld.2.2.2.2.2.2.1)
              have HS7_ := (hb.cell (World.block_lt_of_cell? _ _ (hHeld.2.2.2.2.2.2.2.1))).trans (hHeld.2.2.2.2.2.2.2.1)
              have HS8_ := (hb.cell (World.block_lt_of_cell? _ _ (hHeld.2.2.2.2.2.2.2.2.1))).trans (hHeld.2.2.2.2.2.2.2.2.1)
              have HS9_ := (hb.cell (World.block_lt_of_cell? _ _ (hHeld.2.2.2.2.2.2.2.2.2.1))).trans (hHeld.2.2.2.2.2.2.2.2.2.1)
              have HS10_ := (hb.cell (World.block_lt_of_cell? _ _ (hHeld.2.2.2.2.2.2.2.2.2.2.1))).trans (hHeld.2.2.2.2.2.2.2.2.2.2.1)
              have HS11_ := (hb.cell (World.block_lt_of_cell? _ _ (hHeld.2.2.2.2.2.2.2.2.2.2.2))).trans (hHeld.2.2.2.2.2.2.2.2.2.2.2)
              refine ⟨_, rfl, ?_⟩
              have n0_ := aM (Kd.R_below (by (with_reducible repeat (first | apply Kd.R_alloc | apply Kd.R_drewN | apply Kd.R_drew)); exact HO_5.out) hb)
              have n1_ := aM (bB (by (with_reducible repeat first | apply bN | apply bD | apply bA); exact BK312.out) hb)
              have n2_ := aM (lT (by repeat (first | (with_reducible first | exact HB.out | apply lA | apply lN | apply lD) | exact HB.out)) hb)
              clear HO_5
              clear BK312
              clear HB
              have HO_5 := n0_
              have BK312 := n1_
              have HB := n2_
              clear n0_ n1_ n2_
              (try clear hb)
              (try clear hb2)
              (try clear hk)
              (try clear hi)
              refine hK.out _ _ ⟨(bC BK312.out 0).trans rfl, (bC BK312.out 1).trans rfl, HS2_, HS3_, HS4_, HS5_, HS6_, HS7_, HS8_, HS9_, HS10_, HS11_⟩ (fun hHeld => ?_)
              clear hK K
              refine norm_ (a' := ?_) ?_ ?_
              rotate_left
              ·show Act.put _ (some 76) _ = _
               simp only [Act.put, sA, sB, sC, i64_w, i32_w]
               rfl
              refine pure_ (i := 6) (N := some 12) (v := ?_) (a' := ?_) #[T,T,T,T,T,T,T] rfl rfl (by kernel_rfl) (fun _ _ _ h => h) (Or.inl ⟨by rfl, ?_⟩) ?_ ?_
              rotate_left
              ·intro w'
               go_simp
               with_reducible rfl
              rotate_left
              ·simp only [Act.put, sA, sB, sC, i64_w, i32_w]
               rfl
              refine done_ (by kernel_rfl) ?_
              try go_wp2
              go_roundg k3
              case measure => have := HJ3.out; have := HJ20.out; have := HK3.out; omega
              case rel => exact ⟨(wrap64 (x11_3 + 1)), (by first | rfl | (simp; done) | (simp [*]; done)), H', ⟨by have := HJ3.out; have := HJ20.out; have := HK3.out; omega⟩, ⟨by (with_reducible repeat (first | apply Kd.R_alloc | apply Kd.R_drewN | apply Kd.R_drew)); exact HO_5.out⟩, ⟨by (with_reducible repeat first | apply bN | apply bD | apply bA); exact BK312.out⟩, ⟨by repeat (first | (with_reducible first | exact HB.out | apply lA | apply lN | apply lD) | exact HB.out)⟩⟩
           ·rw [if_neg c34] at H
            exact absurd H (by simp)
          ·rw [if_neg c33] at H
           have c33b0 : decide (x11_3 < (t313.length : Int)) = false := decide_eq_false c33
           clear c33
           obtain rfl := Option.some.inj H
           go_wp2
           go_ret
           exact ⟨by first | rfl | (simp [errW_none, errW_some] <;> rfl) | (simp [*, errW_none, errW_some] <;> rfl), by repeat (first | (with_reducible first | exact HB.out | apply lA | apply lN | apply lD) | exact HB.out)⟩
    ·replace c19 := Bool.eq_false_iff.mpr c19
     subst c19
     rw [if_neg (show ¬ (false = true) by decide)] at H
     by_cases c43 : (t313.length : Int) = 0
     ·rw [if_pos c43] at H
      have c43b0 : ((t313.length : Int) == 0) = true := beq_iff_eq.mpr c43
      have c43b1 : ((t313.length : Int) != 0) = false := bne_eq_false_iff_eq.mpr c43
      clear c43
      by_cases c44 : t320 = 0
      ·rw [if_pos c44] at H
       have c44b0 : (t320 == 0) = true := beq_iff_eq.mpr c44
       have c44b1 : (t320 != 0) = false := bne_eq_false_iff_eq.mpr c44
       clear c44
       obtain rfl := Option.some.inj H
       have hcz45_0 : wc.cell? ⟨b312, 0, none⟩ = some (.int .i32 a1_0) := (bC BK312.out 0).trans rfl
       have hcz45_1 : wc.cell? ⟨b312, 1, none⟩ = some (.int .i32 a1_1) := (bC BK312.out 1).trans rfl
       obtain ⟨Ao46, co46, eo46⟩ := Kd.R_slice HO_5.out
       subst eo46
       go_wp2_with (first | ((with_reducible refine gate_callee (f := 19) rfl ?_); refine goesL_ (some 33) rfl rfl Try.func19 (by kernel_rfl) rfl #[.slice Ao46 t313.length co46, .agg #[.int .i32 a1_0, .int .i32 a1_1]] rfl (by (try simp only [List.map_toArray, List.map_cons, List.map_nil]); first | done | rfl | (simp only [List.length_drop, List.length_take]; rfl)) ?_; (with_reducible refine (query_Closest.calls _ _ t313 a1_0 a1_1 t320 t321 false _ ?side1 ?side2 A18.out).mono ?_); (case side1 => repeat (first | exact (Kd.R_reads' HO_5.out).2.2 | (with_reducible refine Kd.C_alloc ?_ _) | (with_reducible refine Kd.C_drewN ?_ _) | (with_reducible refine Kd.C_drew ?_))); (case side2 => exact (Kd.R_reads' HO_5.out).2.1); rintro e w47 ⟨rfl, hb⟩; refine ⟨_, rfl, ?_⟩; have n0_ := aM (Kd.R_below (by (with_reducible repeat (first | apply Kd.R_alloc | apply Kd.R_drewN | apply Kd.R_drew)); exact HO_5.out) hb); have n1_ := aM (bB (by (with_reducible repeat first | apply bN | apply bD | apply bA); exact BK312.out) hb); have n2_ := aM (lT (by repeat (first | (with_reducible first | exact HB.out | apply lA | apply lN | apply lD) | exact HB.out)) hb); clear HO_5; clear BK312; clear HB; have HO_5 := n0_; have BK312 := n1_; have HB := n2_; clear n0_ n1_ n2_; (try clear hb); (try clear hb2); (try clear hk); (try clear hi)))
       go_ret
       exact ⟨by first | rfl | (simp [errW_none, errW_some] <;> rfl) | (simp [*, errW_none, errW_some] <;> rfl), by repeat (first | (with_reducible first | exact HB.out | apply lA | apply lN | apply lD) | exact HB.out)⟩
      ·rw [if_neg c44] at H
       have c44b0 : (t320 == 0) = false := beq_eq_false_iff_ne.mpr c44
       have c44b1 : (t320 != 0) = true := bne_iff_ne.mpr c44
       exact absurd ((Option.some.inj H).trans HR.out) (by decide)
     ·rw [if_neg c43] at H
      have c43b0 : ((t313.length : Int) == 0) = false := beq_eq_false_iff_ne.mpr c43
      have c43b1 : ((t313.length : Int) != 0) = true := bne_iff_ne.mpr c43
      have c43b2 : ¬ (t313 = []) := fun h_ => c43 (by rw [h_]; rfl)
      exact absurd ((Option.some.inj H).trans HR.out) (by decide)

/-- THE ONE PURE STATEMENT of billiardlaw24_QueryClosest: yours. -/
def billiardlaw24_QueryClosest.Pure : Prop := ∀ (l0 : List (S32)) (a1_0 : Int) (a1_1 : Int), (∀ x ∈ l0, Flat.WFB x) → (Lit.int .i32 a1_0).wf = true → (Lit.int .i32 a1_1).wf = true → ∃ k, billiardlaw24_QueryClosest.f k l0 a1_0 a1_1 = some true
theorem billiardlaw24_QueryClosest.walk (P : billiardlaw24_QueryClosest.Pure) (a0 : Option Addr) (cap0 : Nat) (l0 : List (S32)) (a1_0 : Int) (a1_1 : Int) (w : World) (w0 : Kd.C k32 w a0 l0.length l0) (c0 : l0.length ≤ cap0) (m0 : ∀ x ∈ l0, Flat.WFB x) (w1_0 : (Lit.int .i32 a1_0).wf = true) (w1_1 : (Lit.int .i32 a1_1).wf = true) :
  Calls Try.prog 4 #[.slice a0 l0.length cap0, .agg #[.int .i32 a1_0, .int .i32 a1_1]] w fun e w' => e = .returned (.bool true) ∧ Below w.heap.size w w' := by
 obtain ⟨k, h⟩ := P l0 a1_0 a1_1 m0 w1_0 w1_1
 refine (billiardlaw24_QueryClosest.calls k _ _ l0 a1_0 a1_1 true w w0 c0 h rfl).mono ?_
 rintro e w' ⟨rfl, hd⟩
 exact ⟨rfl, hd⟩

end Go.Proofs.Ytabcnaceffpekaa.Q
