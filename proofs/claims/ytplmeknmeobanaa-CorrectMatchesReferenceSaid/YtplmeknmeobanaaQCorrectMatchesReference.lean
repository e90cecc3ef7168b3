-- PRINTED by print.py (a twelfth state) out of the translation. Not trusted: Lean checks it.
import Derived.Test.YtplmeknmeobanaaQ0
import Derived.Test.YtplmeknmeobanaaMkeep
import Derived.Test.YtplmeknmeobanaaQbilliardlaw18
import Derived.Test.YtplmeknmeobanaaQbilliardref06
import Derived.Test.YtplmeknmeobanaaQbilliardref11
import Derived.Test.YtplmeknmeobanaaQbilliardref18
import Derived.Test.YtplmeknmeobanaaQbilliardref18y1
import Derived.Test.YtplmeknmeobanaaQcorrect
import Derived.Test.YtplmeknmeobanaaMslice
namespace Go.Proofs.Ytplmeknmeobanaa.Q
open Go.RowKit Go.Proofs.YtplmeknmeobanaaW.PrintWords Go.Proofs.YtplmeknmeobanaaW.PrintLast Go.Proofs.YtplmeknmeobanaaW.PrintMore
open Go.Proofs.YtplmeknmeobanaaW.PrintWords renaming blk_drewN → bN, blk_drew → bD, blk_alloc → bA, blk_below → bB, blk_cell → bC, blk_frozen → bF, blk_far → bR, blk_lt → bL, blk_put → bP, cell_far → cF, below_alloc → lA, pw_below_drewN → lN, below_drew1 → lD, below_set → lS, below_step → lT, below_size → lZ, Aside0.mk → aM
open List renaming setIfInBounds_toArray → sA, set_cons_zero → sB, set_cons_succ → sC
open Bool renaming true → T, false → F
attribute [local go_sem] max2_int min2_int max_two min_two max_three min_three max_four min_four   -- for this text's walks alone
set_option linter.unusedVariables false
set_option linter.unusedSimpArgs false

/-! ### billiardlaw18_CorrectMatchesReference: function 3 -/
-- IMPORT Derived.Test.YtplmeknmeobanaaMslice
mutual
def billiardlaw18_CorrectMatchesReference.j0 : Nat → List (S37) → List (S32) → Bool → Option (Bool)
 | 0, _, _, _ => none
 | k + 1, x1, x5, x26 => if x26 = true then ((billiardlaw18_awake.f k).bind fun t235 => (some t235)) else (billiardlaw18_CorrectMatchesReference.l0 k x1 x5 0)
def billiardlaw18_CorrectMatchesReference.l0 : Nat → List (S37) → List (S32) → Int → Option (Bool)
 | 0, _, _, _ => none
 | k + 1, x1, x5, x7 => if x7 < (x1.length : Int) then (if 0 ≤ x7 then ((billiardref06_Find.f k x5 ((rd_T37 x1 x7).f0.f0)).bind fun t237 => (if 0 ≤ t237 then (if t237 < (x5.length : Int) then ((billiardref06_Find.f k x5 ((rd_T37 x1 x7).f0.f1)).bind fun t241 => (if 0 ≤ t241 then (if t241 < (x5.length : Int) then ((correct_Amount.f ((rd_T37 x1 x7).f0.f0) ((rd_T37 x1 x7).f0.f1) ((rd_T37 x1 x7).f1.f0) ((rd_T37 x1 x7).f1.f1) ((rd_T37 x1 x7).f2) ((rd_T32 x5 t237).f0) ((rd_T32 x5 t237).f1) ((rd_T32 x5 t237).f2.f0) ((rd_T32 x5 t237).f2.f1) ((rd_T32 x5 t237).f3) ((rd_T32 x5 t237).f4) ((rd_T32 x5 t237).f5.f0) ((rd_T32 x5 t237).f5.f1) ((rd_T32 x5 t237).f6.f0) ((rd_T32 x5 t237).f6.f1) ((rd_T32 x5 t241).f0) ((rd_T32 x5 t241).f1) ((rd_T32 x5 t241).f2.f0) ((rd_T32 x5 t241).f2.f1) ((rd_T32 x5 t241).f3) ((rd_T32 x5 t241).f4) ((rd_T32 x5 t241).f5.f0) ((rd_T32 x5 t241).f5.f1) ((rd_T32 x5 t241).f6.f0) ((rd_T32 x5 t241).f6.f1)).bind fun t245 => ((billiardref18_Amount.f ((rd_T37 x1 x7).f0.f0) ((rd_T37 x1 x7).f0.f1) ((rd_T37 x1 x7).f1.f0) ((rd_T37 x1 x7).f1.f1) ((rd_T37 x1 x7).f2) ((rd_T32 x5 t237).f0) ((rd_T32 x5 t237).f1) ((rd_T32 x5 t237).f2.f0) ((rd_T32 x5 t237).f2.f1) ((rd_T32 x5 t237).f3) ((rd_T32 x5 t237).f4) ((rd_T32 x5 t237).f5.f0) ((rd_T32 x5 t237).f5.f1) ((rd_T32 x5 t237).f6.f0) ((rd_T32 x5 t237).f6.f1) ((rd_T32 x5 t241).f0) ((rd_T32 x5 t241).f1) ((rd_T32 x5 t241).f2.f0) ((rd_T32 x5 t241).f2.f1) ((rd_T32 x5 t241).f3) ((rd_T32 x5 t241).f4) ((rd_T32 x5 t241).f5.f0) ((rd_T32 x5 t241).f5.f1) ((rd_T32 x5 t241).f6.f0) ((rd_T32 x5 t241).f6.f1)).bind fun t247 => (if t245 = t247 then ((correct_Share.f ((rd_T37 x1 x7).f0.f0) ((rd_T37 x1 x7).f0.f1) ((rd_T37 x1 x7).f1.f0) ((rd_T37 x1 x7).f1.f1) ((rd_T37 x1 x7).f2) ((rd_T32 x5 t237).f0) ((rd_T32 x5 t237).f1) ((rd_T32 x5 t237).f2.f0) ((rd_T32 x5 t237).f2.f1) ((rd_T32 x5 t237).f3) ((rd_T32 x5 t237).f4) ((rd_T32 x5 t237).f5.f0) ((rd_T32 x5 t237).f5.f1) ((rd_T32 x5 t237).f6.f0) ((rd_T32 x5 t237).f6.f1) ((rd_T32 x5 t241).f0) ((rd_T32 x5 t241).f1) ((rd_T32 x5 t241).f2.f0) ((rd_T32 x5 t241).f2.f1) ((rd_T32 x5 t241).f3) ((rd_T32 x5 t241).f4) ((rd_T32 x5 t241).f5.f0) ((rd_T32 x5 t241).f5.f1) ((rd_T32 x5 t241).f6.f0) ((rd_T32 x5 t241).f6.f1) false).bind fun t249 => ((billiardref18_Share.f ((rd_T37 x1 x7).f0.f0) ((rd_T37 x1 x7).f0.f1) ((rd_T37 x1 x7).f1.f0) ((rd_T37 x1 x7).f1.f1) ((rd_T37 x1 x7).f2) ((rd_T32 x5 t237).f0) ((rd_T32 x5 t237).f1) ((rd_T32 x5 t237).f2.f0) ((rd_T32 x5 t237).f2.f1) ((rd_T32 x5 t237).f3) ((rd_T32 x5 t237).f4) ((rd_T32 x5 t237).f5.f0) ((rd_T32 x5 t237).f5.f1) ((rd_T32 x5 t237).f6.f0) ((rd_T32 x5 t237).f6.f1) ((rd_T32 x5 t241).f0) ((rd_T32 x5 t241).f1) ((rd_T32 x5 t241).f2.f0) ((rd_T32 x5 t241).f2.f1) ((rd_T32 x5 t241).f3) ((rd_T32 x5 t241).f4) ((rd_T32 x5 t241).f5.f0) ((rd_T32 x5 t241).f5.f1) ((rd_T32 x5 t241).f6.f0) ((rd_T32 x5 t241).f6.f1) ((rd_T32 x5 t237).f3)).bind fun t251 => (if t249 = t251 then ((correct_Share.f ((rd_T37 x1 x7).f0.f0) ((rd_T37 x1 x7).f0.f1) ((rd_T37 x1 x7).f1.f0) ((rd_T37 x1 x7).f1.f1) ((rd_T37 x1 x7).f2) ((rd_T32 x5 t237).f0) ((rd_T32 x5 t237).f1) ((rd_T32 x5 t237).f2.f0) ((rd_T32 x5 t237).f2.f1) ((rd_T32 x5 t237).f3) ((rd_T32 x5 t237).f4) ((rd_T32 x5 t237).f5.f0) ((rd_T32 x5 t237).f5.f1) ((rd_T32 x5 t237).f6.f0) ((rd_T32 x5 t237).f6.f1) ((rd_T32 x5 t241).f0) ((rd_T32 x5 t241).f1) ((rd_T32 x5 t241).f2.f0) ((rd_T32 x5 t241).f2.f1) ((rd_T32 x5 t241).f3) ((rd_T32 x5 t241).f4) ((rd_T32 x5 t241).f5.f0) ((rd_T32 x5 t241).f5.f1) ((rd_T32 x5 t241).f6.f0) ((rd_T32 x5 t241).f6.f1) true).bind fun t253 => ((billiardref18_Share.f ((rd_T37 x1 x7).f0.f0) ((rd_T37 x1 x7).f0.f1) ((rd_T37 x1 x7).f1.f0) ((rd_T37 x1 x7).f1.f1) ((rd_T37 x1 x7).f2) ((rd_T32 x5 t237).f0) ((rd_T32 x5 t237).f1) ((rd_T32 x5 t237).f2.f0) ((rd_T32 x5 t237).f2.f1) ((rd_T32 x5 t237).f3) ((rd_T32 x5 t237).f4) ((rd_T32 x5 t237).f5.f0) ((rd_T32 x5 t237).f5.f1) ((rd_T32 x5 t237).f6.f0) ((rd_T32 x5 t237).f6.f1) ((rd_T32 x5 t241).f0) ((rd_T32 x5 t241).f1) ((rd_T32 x5 t241).f2.f0) ((rd_T32 x5 t241).f2.f1) ((rd_T32 x5 t241).f3) ((rd_T32 x5 t241).f4) ((rd_T32 x5 t241).f5.f0) ((rd_T32 x5 t241).f5.f1) ((rd_T32 x5 t241).f6.f0) ((rd_T32 x5 t241).f6.f1) ((rd_T32 x5 t241).f3)).bind fun t255 => (if t253 = t255 then (billiardlaw18_CorrectMatchesReference.l0 k x1 x5 (wrap64 (x7 + 1))) else (some false)))) else (some false)))) else (some false)))) else (none)) else (none))) else (none)) else (none))) else (none)) else ((correct_Shifts.f x5 x1).bind fun t256 => ((billiardlaw18_shifts.f k t256).bind fun t259 => ((billiardref18_Shifts.f k x5 x1).bind fun t262 => ((billiardref18_Same.f k t259 t262).bind fun t265 => (some t265)))))
end
def billiardlaw18_CorrectMatchesReference.f (k : Nat) (l0 : List (S32)) (l1 : List (S37)) : Option (Bool) := (billiardref11_View.f k l0).bind fun bt229 => ((billiardlaw18_awake.f k).bind fun t233 => (if t233 = true then (if bt229.2 = true then ((billiardref18_Right.f k bt229.1 l1).bind fun t234 => (billiardlaw18_CorrectMatchesReference.j0 k l1 bt229.1 (!t234))) else (billiardlaw18_CorrectMatchesReference.j0 k l1 bt229.1 true)) else (billiardlaw18_CorrectMatchesReference.j0 k l1 bt229.1 true)))
theorem billiardlaw18_CorrectMatchesReference.mono_l : ∀ k, (∀ y0 y1 y2, LeO (billiardlaw18_CorrectMatchesReference.j0 k y0 y1 y2) (billiardlaw18_CorrectMatchesReference.j0 (k + 1) y0 y1 y2)) ∧ (∀ y0 y1 y2, LeO (billiardlaw18_CorrectMatchesReference.l0 k y0 y1 y2) (billiardlaw18_CorrectMatchesReference.l0 (k + 1) y0 y1 y2))
 | 0 => ⟨fun _ _ _ r h => by simp [billiardlaw18_CorrectMatchesReference.j0] at h, fun _ _ _ r h => by simp [billiardlaw18_CorrectMatchesReference.l0] at h⟩
 | k + 1 => by
  obtain ⟨ih0, ih1⟩ := billiardlaw18_CorrectMatchesReference.mono_l k
  refine ⟨?_, ?_⟩
  ·intro y0 y1 y2
   unfold billiardlaw18_CorrectMatchesReference.j0
   repeat' first
   | (with_reducible exact ih0 _ _ _)
   | (with_reducible exact ih1 _ _ _)
   | (with_reducible exact billiardlaw18_awake.mono _)
   | (with_reducible exact billiardlaw18_shifts.mono _ _)
   | (with_reducible exact billiardref06_Find.mono _ _ _)
   | (with_reducible exact billiardref11_View.mono _ _)
   | (with_reducible exact billiardref18_Right.mono _ _ _)
   | (with_reducible exact billiardref18_Same.mono _ _ _)
   | (with_reducible exact billiardref18_Shifts.mono _ _ _)
   | (with_reducible exact LeO.refl _)
   | (with_reducible exact LeO.none _)
   | (with_reducible refine LeO.ite ?_ ?_)
   | (with_reducible refine LeO.bind ?_ (fun _ => ?_))
   | exact ih0 _ _ _
   | exact ih1 _ _ _
   | exact billiardlaw18_awake.mono _
   | exact billiardlaw18_shifts.mono _ _
   | exact billiardref06_Find.mono _ _ _
   | exact billiardref11_View.mono _ _
   | exact billiardref18_Right.mono _ _ _
   | exact billiardref18_Same.mono _ _ _
   | exact billiardref18_Shifts.mono _ _ _
   | exact LeO.none _
   | refine LeO.ite ?_ ?_
   | refine LeO.bind ?_ (fun _ => ?_)
  ·intro y0 y1 y2
   unfold billiardlaw18_CorrectMatchesReference.l0
   repeat' first
   | (with_reducible exact ih0 _ _ _)
   | (with_reducible exact ih1 _ _ _)
   | (with_reducible exact billiardlaw18_awake.mono _)
   | (with_reducible exact billiardlaw18_shifts.mono _ _)
   | (with_reducible exact billiardref06_Find.mono _ _ _)
   | (with_reducible exact billiardref11_View.mono _ _)
   | (with_reducible exact billiardref18_Right.mono _ _ _)
   | (with_reducible exact billiardref18_Same.mono _ _ _)
   | (with_reducible exact billiardref18_Shifts.mono _ _ _)
   | (with_reducible exact LeO.refl _)
   | (with_reducible exact LeO.none _)
   | (with_reducible refine LeO.ite ?_ ?_)
   | (with_reducible refine LeO.bind ?_ (fun _ => ?_))
   | exact ih0 _ _ _
   | exact ih1 _ _ _
   | exact billiardlaw18_awake.mono _
   | exact billiardlaw18_shifts.mono _ _
   | exact billiardref06_Find.mono _ _ _
   | exact billiardref11_View.mono _ _
   | exact billiardref18_Right.mono _ _ _
   | exact billiardref18_Same.mono _ _ _
   | exact billiardref18_Shifts.mono _ _ _
   | exact LeO.none _
   | refine LeO.ite ?_ ?_
   | refine LeO.bind ?_ (fun _ => ?_)
theorem billiardlaw18_CorrectMatchesReference.mono : ∀ a0 a1 k, LeO (billiardlaw18_CorrectMatchesReference.f k a0 a1) (billiardlaw18_CorrectMatchesReference.f (k + 1) a0 a1) := by
 intro a0 a1 k
 obtain ⟨ih0, ih1⟩ := billiardlaw18_CorrectMatchesReference.mono_l k
 unfold billiardlaw18_CorrectMatchesReference.f
 repeat' first
   | (with_reducible exact ih0 _ _ _)
   | (with_reducible exact ih1 _ _ _)
   | (with_reducible exact billiardlaw18_awake.mono _)
   | (with_reducible exact billiardlaw18_shifts.mono _ _)
   | (with_reducible exact billiardref06_Find.mono _ _ _)
   | (with_reducible exact billiardref11_View.mono _ _)
   | (with_reducible exact billiardref18_Right.mono _ _ _)
   | (with_reducible exact billiardref18_Same.mono _ _ _)
   | (with_reducible exact billiardref18_Shifts.mono _ _ _)
   | (with_reducible exact LeO.refl _)
   | (with_reducible exact LeO.none _)
   | (with_reducible refine LeO.ite ?_ ?_)
   | (with_reducible refine LeO.bind ?_ (fun _ => ?_))
   | exact ih0 _ _ _
   | exact ih1 _ _ _
   | exact billiardlaw18_awake.mono _
   | exact billiardlaw18_shifts.mono _ _
   | exact billiardref06_Find.mono _ _ _
   | exact billiardref11_View.mono _ _
   | exact billiardref18_Right.mono _ _ _
   | exact billiardref18_Same.mono _ _ _
   | exact billiardref18_Shifts.mono _ _ _
   | exact LeO.none _
   | refine LeO.ite ?_ ?_
   | refine LeO.bind ?_ (fun _ => ?_)
def billiardlaw18_CorrectMatchesReference.T9 : Bool × List (List Nat × List Nat) := (true, [([], []), ([], []), ([0, 1], [0, 1]), ([2], [2]), ([], []), ([], []), ([3, 4, 5], [3, 4, 5]), ([], []), ([], []), ([7, 8], [7, 8]), ([9], [9]), ([], []), ([], []), ([10, 11, 12, 6], [10, 11, 12]), ([6, 13], [6, 13]), ([14, 13], [14]), ([15], [15]), ([15], [15]), ([16, 17, 15], [15, 16, 17]), ([18, 15], [15, 18]), ([15], [15]), ([15], [15]), ([19, 20, 21, 15, 15], [15, 19, 20, 21]), ([15], [15]), ([15], [15]), ([23, 24, 15], [15, 23, 24]), ([25, 15], [15, 25]), ([15], [15]), ([15], [15]), ([15], [15]), ([29, 15], [15, 29]), ([26, 27, 28, 30, 22, 15], [15, 26, 27, 28, 30]), ([22, 31, 15], [15, 22, 31]), ([15, 32], [15, 32]), ([33, 31], [33]), ([34], [34]), ([34], [34]), ([35, 36, 34], [34, 35, 36]), ([37, 34], [34, 37]), ([34], [34]), ([34], [34]), ([38, 39, 40, 34, 34], [34, 38, 39, 40]), ([34], [34]), ([34], [34]), ([42, 43, 34], [34, 42, 43]), ([44, 34], [34, 44]), ([34], [34]), ([34], [34]), ([34], [34]), ([48, 34], [34, 48]), ([45, 46, 47, 49, 41, 34], [34, 45, 46, 47, 49]), ([41, 50, 34], [34, 41, 50]), ([34, 51], [34, 51])])
def billiardlaw18_CorrectMatchesReference.B9 : List Nat := [0, 0, 3, 7, 0, 0, 63, 0, 0, 384, 896, 0, 0, 8191, 16383, 32767, 65535, 65535, 262143, 524287, 65535, 65535, 4194303, 65535, 65535, 25231359, 58785791, 65535, 65535, 65535, 536936447, 2147483647, 4294967295, 8589934591, 17179869183, 34359738367, 34359738367, 137438953471, 274877906943, 34359738367, 34359738367, 2199023255551, 34359738367, 34359738367, 13228499271679, 30820685316095, 34359738367, 34359738367, 34359738367, 281509336449023, 1125899906842623, 2251799813685247, 4503599627370495]
theorem billiardlaw18_CorrectMatchesReference.tab9 : rtab .any (opsOf Try.f3 9) = billiardlaw18_CorrectMatchesReference.T9 := by kernel_rfl
theorem billiardlaw18_CorrectMatchesReference.bits9 : waitsOk billiardlaw18_CorrectMatchesReference.T9.2 billiardlaw18_CorrectMatchesReference.B9 = true := by kernel_rfl
set_option maxHeartbeats 8000000 in
set_option maxRecDepth 100000 in
theorem billiardlaw18_CorrectMatchesReference.calls (k : Nat) (A0 : Option Addr) (c0 : Nat) (l0 : List (S32)) (A1 : Option Addr) (c1 : Nat) (l1 : List (S37)) (r : Bool) (w : World) (hr0 : Kd.C k32 w A0 l0.length l0) (hc0 : l0.length ≤ c0) (hr1 : Kd.C k37 w A1 l1.length l1) (hc1 : l1.length ≤ c1) (h : billiardlaw18_CorrectMatchesReference.f k l0 l1 = some r) (hr : r = true) :
  Calls Try.prog 3 #[.slice A0 l0.length c0, .slice A1 l1.length c1] w fun e w' => e = .returned (.bool r) ∧ Below w.heap.size w w' := by
 have HR := aM hr
 clear hr
 have hu32 := Try.underlying32
 have hu37 := Try.underlying37
 have HR0 := aM hr0
 have HC0 := aM hc0
 clear hr0 hc0
 have HR1 := aM hr1
 have HC1 := aM hc1
 clear hr1 hc1
 have HB := aM (Below.refl w.heap.size w)
 have H : ((billiardref11_View.f k l0).bind fun bt229 => ((billiardlaw18_awake.f k).bind fun t233 => (if t233 = true then (if bt229.2 = true then ((billiardref18_Right.f k bt229.1 l1).bind fun t234 => (billiardlaw18_CorrectMatchesReference.j0 k l1 bt229.1 (!t234))) else (billiardlaw18_CorrectMatchesReference.j0 k l1 bt229.1 true)) else (billiardlaw18_CorrectMatchesReference.j0 k l1 bt229.1 true)))) = some r := h
 clear h
 replace H := Option.bind_eq_some_iff.mp H
 obtain ⟨⟨t229, t230⟩, A30, H⟩ := H
 try dsimp only at H
 have A3 := aM A30
 clear A30
 have HC4 := aM H
 clear H
 go_enter Try.func3, Try.ntmps3
 go_upto_region 2 with (first | ((with_reducible refine gate_callee (f := 6) rfl ?_); refine goesL_ (some 12) rfl rfl Try.func6 (by kernel_rfl) rfl #[.slice A0 l0.length c0] rfl (by (try simp only [List.map_toArray, List.map_cons, List.map_nil]); first | done | rfl | (simp only [List.length_drop, List.length_take]; rfl)) ?_; (with_reducible refine (billiardref11_View.calls k _ _ l0 t229 t230 _ ?side1 ?side2 A3.out).mono ?_); (case side1 => repeat (first | exact HR0.out | (with_reducible refine Kd.C_alloc ?_ _) | (with_reducible refine Kd.C_drewN ?_ _) | (with_reducible refine Kd.C_drew ?_))); (case side2 => exact HC0.out); rintro e w5 ⟨v231, rfl, ho0, hb⟩; refine ⟨_, rfl, ?_⟩; have n0_ := aM (Kd.R_lower ho0 (lZ (by repeat (first | (with_reducible first | exact HB.out | apply lA | apply lN | apply lD) | exact HB.out)))); have n1_ := aM (lT (by repeat (first | (with_reducible first | exact HB.out | apply lA | apply lN | apply lD) | exact HB.out)) hb); clear HB; have HO232 := n0_; have HB := n1_; clear n0_ n1_; (try clear hb); (try clear hb2); (try clear hk); (try clear hi); (try clear ho0)))
 (try simp only [Act.put, sA, sB, sC])
 go_cut [26] (fun v26 wc => ∃ (kq : Nat) (x26_3 : Bool), v26 = .bool x26_3 ∧ Aside0 (billiardlaw18_CorrectMatchesReference.j0 kq l1 t229 x26_3 = some r) ∧ Aside0 (kq ≤ k) ∧ Aside0 (Kd.R k32 32 wc w.heap.size (fun _ => True) v231 t229) ∧ Aside0 (Below w.heap.size w wc))
 case first =>
  have H := HC4.out
  clear HC4
  replace H := Option.bind_eq_some_iff.mp H
  obtain ⟨t233, A60, H⟩ := H
  try dsimp only at H
  have A6 := aM A60
  clear A60
  by_cases c7 : t233 = true
  ·subst c7
   rw [if_pos rfl] at H
   by_cases c8 : t230 = true
   ·subst c8
    rw [if_pos rfl] at H
    replace H := Option.bind_eq_some_iff.mp H
    obtain ⟨t234, A90, H⟩ := H
    try dsimp only at H
    have A9 := aM A90
    clear A90
    have H' := aM H
    clear H
    go_wp2_with (first | ((with_reducible refine gate_callee (f := 7) rfl ?_); refine goesL_ (some 15) rfl rfl Try.func7 (by kernel_rfl) rfl #[] rfl (by (try simp only [List.map_toArray, List.map_cons, List.map_nil]); first | done | rfl | (simp only [List.length_drop, List.length_take]; rfl)) ?_; (with_reducible refine (billiardlaw18_awake.calls k  true _ A6.out).mono ?_); rintro e w10 ⟨rfl, hb⟩; refine ⟨_, rfl, ?_⟩; have n0_ := aM (Kd.R_below (by (with_reducible repeat (first | apply Kd.R_alloc | apply Kd.R_drewN | apply Kd.R_drew)); exact HO232.out) hb); have n1_ := aM (lT (by repeat (first | (with_reducible first | exact HB.out | apply lA | apply lN | apply lD) | exact HB.out)) hb); clear HO232; clear HB; have HO232 := n0_; have HB := n1_; clear n0_ n1_; (try clear hb); (try clear hb2); (try clear hk); (try clear hi); obtain ⟨Ao11, co11, eo11⟩ := Kd.R_slice HO232.out; subst eo11) | (go_at_call 8; (with_reducible refine (billiardref18_Right.calls k _ _ t229 _ _ l1 t234 _ ?side1 ?side2 ?side3 ?side4 A9.out).mono ?_); (case side1 => repeat (first | exact (Kd.R_reads' HO232.out).2.2 | (with_reducible refine Kd.C_alloc ?_ _) | (with_reducible refine Kd.C_drewN ?_ _) | (with_reducible refine Kd.C_drew ?_))); (case side2 => exact (Kd.R_reads' HO232.out).2.1); (case side3 => repeat (first | exact (Kd.C_below HR1.out HB.out) | (with_reducible refine Kd.C_alloc ?_ _) | (with_reducible refine Kd.C_drewN ?_ _) | (with_reducible refine Kd.C_drew ?_))); (case side4 => exact HC1.out); rintro e w12 ⟨rfl, hb⟩; have n0_ := aM (Kd.R_below (by (with_reducible repeat (first | apply Kd.R_alloc | apply Kd.R_drewN | apply Kd.R_drew)); exact HO232.out) hb); have n1_ := aM (lT (by repeat (first | (with_reducible first | exact HB.out | apply lA | apply lN | apply lD) | exact HB.out)) hb); clear HO232; clear HB; have HO232 := n0_; have HB := n1_; clear n0_ n1_; (try clear hb); (try clear hb2); (try clear hk); (try clear hi)))
    go_meet
    case rel => exact ⟨_, (!t234), (by first | rfl | (simp; done) | (simp [*]; done)), H', ⟨by first | omega | exact Nat.le_refl _⟩, ⟨by (with_reducible repeat (first | apply Kd.R_alloc | apply Kd.R_drewN | apply Kd.R_drew)); exact HO232.out⟩, ⟨by repeat (first | (with_reducible first | exact HB.out | apply lA | apply lN | apply lD) | exact HB.out)⟩⟩
   ·replace c8 := Bool.eq_false_iff.mpr c8
    subst c8
    rw [if_neg (show ¬ (false = true) by decide)] at H
    have H' := aM H
    clear H
    go_wp2_with (first | ((with_reducible refine gate_callee (f := 7) rfl ?_); refine goesL_ (some 15) rfl rfl Try.func7 (by kernel_rfl) rfl #[] rfl (by (try simp only [List.map_toArray, List.map_cons, List.map_nil]); first | done | rfl | (simp only [List.length_drop, List.length_take]; rfl)) ?_; (with_reducible refine (billiardlaw18_awake.calls k  true _ A6.out).mono ?_); rintro e w13 ⟨rfl, hb⟩; refine ⟨_, rfl, ?_⟩; have n0_ := aM (Kd.R_below (by (with_reducible repeat (first | apply Kd.R_alloc | apply Kd.R_drewN | apply Kd.R_drew)); exact HO232.out) hb); have n1_ := aM (lT (by repeat (first | (with_reducible first | exact HB.out | apply lA | apply lN | apply lD) | exact HB.out)) hb); clear HO232; clear HB; have HO232 := n0_; have HB := n1_; clear n0_ n1_; (try clear hb); (try clear hb2); (try clear hk); (try clear hi)))
    go_meet
    case rel => exact ⟨_, (true), (by first | rfl | (simp; done) | (simp [*]; done)), H', ⟨by first | omega | exact Nat.le_refl _⟩, ⟨by (with_reducible repeat (first | apply Kd.R_alloc | apply Kd.R_drewN | apply Kd.R_drew)); exact HO232.out⟩, ⟨by repeat (first | (with_reducible first | exact HB.out | apply lA | apply lN | apply lD) | exact HB.out)⟩⟩
  ·replace c7 := Bool.eq_false_iff.mpr c7
   subst c7
   exact absurd (billiardlaw18_awake.only A6.out) (by decide)
 case rest =>
  clear HC4
  try clear c1
  try clear p2
  try clear c3
  try clear c6
  try clear c7
  try clear c8
  obtain ⟨kq, x26_3, rfl, HA, HJ3, HO_5, HB⟩ := hcut
  cases kq with
  | zero => exact absurd HA.out (by simp [billiardlaw18_CorrectMatchesReference.j0])
  | succ kj3 =>
   have H := HA.out
   clear HA
   simp only [billiardlaw18_CorrectMatchesReference.j0] at H
   by_cases c14 : x26_3 = true
   ·subst c14
    rw [if_pos rfl] at H
    replace H := Option.bind_eq_some_iff.mp H
    obtain ⟨t235, A150, H⟩ := H
    try dsimp only at H
    have A15 := aM A150
    clear A150
    obtain rfl := Option.some.inj H
    go_wp2_with (first | ((with_reducible refine gate_callee (f := 7) rfl ?_); refine goesL_ (some 27) rfl rfl Try.func7 (by kernel_rfl) rfl #[] rfl (by (try simp only [List.map_toArray, List.map_cons, List.map_nil]); first | done | rfl | (simp only [List.length_drop, List.length_take]; rfl)) ?_; (with_reducible refine (billiardlaw18_awake.calls kj3  t235 _ A15.out).mono ?_); rintro e w16 ⟨rfl, hb⟩; refine ⟨_, rfl, ?_⟩; have n0_ := aM (Kd.R_below (by (with_reducible repeat (first | apply Kd.R_alloc | apply Kd.R_drewN | apply Kd.R_drew)); exact HO_5.out) hb); have n1_ := aM (lT (by repeat (first | (with_reducible first | exact HB.out | apply lA | apply lN | apply lD) | exact HB.out)) hb); clear HO_5; clear HB; have HO_5 := n0_; have HB := n1_; clear n0_ n1_; (try clear hb); (try clear hb2); (try clear hk); (try clear hi)))
    go_ret
    exact ⟨by first | rfl | (simp [errW_none, errW_some] <;> rfl) | (simp [*, errW_none, errW_some] <;> rfl), by repeat (first | (with_reducible first | exact HB.out | apply lA | apply lN | apply lD) | exact HB.out)⟩
   ·replace c14 := Bool.eq_false_iff.mpr c14
    subst c14
    rw [if_neg (show ¬ (false = true) by decide)] at H
    have H' := aM H
    clear H
    go_wp2
    go_loopg [7] kj3 (fun kq v7 w' => ∃ (x7_2 : Int), v7 = .int .i64 x7_2 ∧ Aside0 (billiardlaw18_CorrectMatchesReference.l0 kq l1 t229 x7_2 = some r) ∧ Aside0 (kq ≤ kj3) ∧ Aside0 (Kd.R k32 32 w' w.heap.size (fun _ => True) v231 t229) ∧ Aside0 (Below w.heap.size w w'))
    case atStart => exact ⟨(0), (by first | rfl | (simp; done) | (simp [*]; done)), H', ⟨Nat.le_refl _⟩, ⟨by (with_reducible repeat (first | apply Kd.R_alloc | apply Kd.R_drewN | apply Kd.R_drew)); exact HO_5.out⟩, ⟨by repeat (first | (with_reducible first | exact HB.out | apply lA | apply lN | apply lD) | exact HB.out)⟩⟩
    case round =>
     clear H'
     try clear c1
     try clear p2
     try clear c3
     try clear c6
     try clear c7
     try clear c8
     try clear c14
     try clear p2
     obtain ⟨x7_2, rfl, HA, HK2, HO_5, HB⟩ := hrel
     cases gk with
     | zero => exact absurd HA.out (by simp [billiardlaw18_CorrectMatchesReference.l0])
     | succ k2 =>
      have H := HA.out
      clear HA
      simp only [billiardlaw18_CorrectMatchesReference.l0] at H
      by_cases c17 : x7_2 < (l1.length : Int)
      ·rw [if_pos c17] at H
       have c17b0 : decide (x7_2 < (l1.length : Int)) = true := decide_eq_true c17
       clear c17
       by_cases c18 : 0 ≤ x7_2
       ·rw [if_pos c18] at H
        have c18b0 : decide (0 ≤ x7_2) = true := decide_eq_true c18
        clear c18
        replace H := Option.bind_eq_some_iff.mp H
        obtain ⟨t237, A190, H⟩ := H
        try dsimp only at H
        have A19 := aM A190
        clear A190
        by_cases c20 : 0 ≤ t237
        ·rw [if_pos c20] at H
         have c20b0 : decide (0 ≤ t237) = true := decide_eq_true c20
         clear c20
         by_cases c21 : t237 < (t229.length : Int)
         ·rw [if_pos c21] at H
          have c21b0 : decide (t237 < (t229.length : Int)) = true := decide_eq_true c21
          clear c21
          replace H := Option.bind_eq_some_iff.mp H
          obtain ⟨t241, A220, H⟩ := H
          try dsimp only at H
          have A22 := aM A220
          clear A220
          by_cases c23 : 0 ≤ t241
          ·rw [if_pos c23] at H
           have c23b0 : decide (0 ≤ t241) = true := decide_eq_true c23
           clear c23
           by_cases c24 : t241 < (t229.length : Int)
           ·rw [if_pos c24] at H
            have c24b0 : decide (t241 < (t229.length : Int)) = true := decide_eq_true c24
            clear c24
            replace H := Option.bind_eq_some_iff.mp H
            obtain ⟨t245, A250, H⟩ := H
            try dsimp only at H
            have A25 := aM A250
            clear A250
            replace H := Option.bind_eq_some_iff.mp H
            obtain ⟨t247, A260, H⟩ := H
            try dsimp only at H
            have A26 := aM A260
            clear A260
            by_cases c27 : t245 = t247
            ·rw [if_pos c27] at H
             have c27b0 : (t245 == t247) = true := beq_iff_eq.mpr c27
             have c27b1 : (t245 != t247) = false := bne_eq_false_iff_eq.mpr c27
             clear c27
             replace H := Option.bind_eq_some_iff.mp H
             obtain ⟨t249, A280, H⟩ := H
             try dsimp only at H
             have A28 := aM A280
             clear A280
             replace H := Option.bind_eq_some_iff.mp H
             obtain ⟨t251, A290, H⟩ := H
             try dsimp only at H
             have A29 := aM A290
             clear A290
             by_cases c30 : t249 = t251
             ·rw [if_pos c30] at H
              have c30b0 : (t249 == t251) = true := beq_iff_eq.mpr c30
              have c30b1 : (t249 != t251) = false := bne_eq_false_iff_eq.mpr c30
              clear c30
              replace H := Option.bind_eq_some_iff.mp H
              obtain ⟨t253, A310, H⟩ := H
              try dsimp only at H
              have A31 := aM A310
              clear A310
              replace H := Option.bind_eq_some_iff.mp H
              obtain ⟨t255, A320, H⟩ := H
              try dsimp only at H
              have A32 := aM A320
              clear A320
              by_cases c33 : t253 = t255
              ·rw [if_pos c33] at H
               have c33b0 : (t253 == t255) = true := beq_iff_eq.mpr c33
               have c33b1 : (t253 != t255) = false := bne_eq_false_iff_eq.mpr c33
               clear c33
               have H' := aM H
               clear H
               have p236 : 0 ≤ (x7_2 : Int) := of_decide_eq_true (by first | (with_reducible assumption) | assumption)
               have q236 : x7_2 < (l1.length : Int) := of_decide_eq_true (by first | (with_reducible assumption) | assumption)
               obtain ⟨ad236, e236, hx236_0, hx236_1, hx236_2, hx236_3, hx236_4⟩ := at_T37 HR1.out x7_2 p236 q236
               cases e236
               replace hx236_0 := (HB.out.cell (World.block_lt_of_cell? w _ hx236_0)).trans hx236_0
               replace hx236_1 := (HB.out.cell (World.block_lt_of_cell? w _ hx236_1)).trans hx236_1
               replace hx236_2 := (HB.out.cell (World.block_lt_of_cell? w _ hx236_2)).trans hx236_2
               replace hx236_3 := (HB.out.cell (World.block_lt_of_cell? w _ hx236_3)).trans hx236_3
               replace hx236_4 := (HB.out.cell (World.block_lt_of_cell? w _ hx236_4)).trans hx236_4
               replace p236 := eq_true p236
               replace q236 := eq_true q236
               obtain ⟨Ao34, co34, eo34⟩ := Kd.R_slice HO_5.out
               subst eo34
               try go_wp2_with (first | ((with_reducible refine gate_callee (f := 9) rfl ?_); refine goesL_ (some 42) rfl rfl Try.func9 (by kernel_rfl) rfl #[.slice Ao34 t229.length co34, .int .u32 ((rd_T37 l1 x7_2).f0.f0)] rfl (by (try simp only [List.map_toArray, List.map_cons, List.map_nil]); first | done | rfl | (simp only [List.length_drop, List.length_take]; rfl)) ?_; (with_reducible refine (billiardref06_Find.calls k2 _ _ t229 ((rd_T37 l1 x7_2).f0.f0) t237 _ ?side1 ?side2 A19.out).mono ?_); (case side1 => repeat (first | exact (Kd.R_reads' HO_5.out).2.2 | (with_reducible refine Kd.C_alloc ?_ _) | (with_reducible refine Kd.C_drewN ?_ _) | (with_reducible refine Kd.C_drew ?_))); (case side2 => exact (Kd.R_reads' HO_5.out).2.1); rintro e w' ⟨rfl, ⟨nd, rfl⟩⟩; refine ⟨_, rfl, ?_⟩; have p238 : 0 ≤ (t237 : Int) := of_decide_eq_true (by first | (with_reducible assumption) | assumption); have q238 : t237 < (t229.length : Int) := of_decide_eq_true (by first | (with_reducible assumption) | assumption); obtain ⟨ad238, e238, hx238_0, hx238_1, hx238_2, hx238_3, hx238_4, hx238_5, hx238_6, hx238_7, hx238_8, hx238_9⟩ := at_T32 (Kd.R_reads' HO_5.out).2.2 t237 p238 q238; cases e238; replace p238 := eq_true p238; replace q238 := eq_true q238) | ((with_reducible refine gate_dst (N := 8) rfl ?_); refine box_event ?hg (N := 8) ?hd (cs := #[.int .u32 0, .int .i32 0, .int .i32 0, .int .i32 0, .int .i32 0, .int .i32 0, .int .i32 0, .int .i32 0, .int .i32 0, .int .i32 0]) (t := 32) ?hr ?_; (case hd => rfl); (case hg => rfl); (case hr => first | (go_simp; done) | (go_simp; rfl)); intro b239 hg w35 hbox hb; have n0_ := aM (Kd.R_below (Kd.R_elderB (by (with_reducible repeat (first | apply Kd.R_alloc | apply Kd.R_drewN | apply Kd.R_drew)); exact HO_5.out) b239 (Nat.le_of_eq hg.symm)) hb); have n1_ := aM (lT (by repeat (first | (with_reducible first | exact HB.out | apply lA | apply lN | apply lD) | exact HB.out)) hb); have n2_ := aM (hbox); have n3_ := aM ((by rw [hg]; exact (lZ (by repeat (first | (with_reducible first | exact HB.out | apply lA | apply lN | apply lD) | exact HB.out))) : w.heap.size ≤ b239)); have n4_ := aM ((by rw [hg]; exact (lZ (by repeat (first | (with_reducible first | exact HB.out | apply lA | apply lN | apply lD) | exact HB.out))) : w.heap.size ≤ b239)); clear HO_5; clear HB; have HO_5 := n0_; have HB := n1_; have BK239 := n2_; have GW239 := n3_; have GE239 := n4_; clear n0_ n1_ n2_ n3_ n4_; clear hb hbox hg; have hcz36_0 : w35.cell? ⟨b239, 0, none⟩ = some (.int .u32 0) := (bC BK239.out 0).trans rfl; have hcz36_1 : w35.cell? ⟨b239, 1, none⟩ = some (.int .i32 0) := (bC BK239.out 1).trans rfl; have hcz36_2 : w35.cell? ⟨b239, 2, none⟩ = some (.int .i32 0) := (bC BK239.out 2).trans rfl; have hcz36_3 : w35.cell? ⟨b239, 3, none⟩ = some (.int .i32 0) := (bC BK239.out 3).trans rfl; have hcz36_4 : w35.cell? ⟨b239, 4, none⟩ = some (.int .i32 0) := (bC BK239.out 4).trans rfl; have hcz36_5 : w35.cell? ⟨b239, 5, none⟩ = some (.int .i32 0) := (bC BK239.out 5).trans rfl; have hcz36_6 : w35.cell? ⟨b239, 6, none⟩ = some (.int .i32 0) := (bC BK239.out 6).trans rfl; have hcz36_7 : w35.cell? ⟨b239, 7, none⟩ = some (.int .i32 0) := (bC BK239.out 7).trans rfl; have hcz36_8 : w35.cell? ⟨b239, 8, none⟩ = some (.int .i32 0) := (bC BK239.out 8).trans rfl; have hcz36_9 : w35.cell? ⟨b239, 9, none⟩ = some (.int .i32 0) := (bC BK239.out 9).trans rfl; have hfz36_0 := bF BK239.out 0; have hfz36_1 := bF BK239.out 1; have hfz36_2 := bF BK239.out 2; have hfz36_3 := bF BK239.out 3; have hfz36_4 := bF BK239.out 4; have hfz36_5 := bF BK239.out 5; have hfz36_6 := bF BK239.out 6; have hfz36_7 := bF BK239.out 7; have hfz36_8 := bF BK239.out 8; have hfz36_9 := bF BK239.out 9; have p240 : 0 ≤ (x7_2 : Int) := of_decide_eq_true (by first | (with_reducible assumption) | assumption); have q240 : x7_2 < (l1.length : Int) := of_decide_eq_true (by first | (with_reducible assumption) | assumption); obtain ⟨ad240, e240, hx240_0, hx240_1, hx240_2, hx240_3, hx240_4⟩ := at_T37 HR1.out x7_2 p240 q240; obtain rfl : ad236 = ad240 := (by injection e240); have hn240_0 : ad236.block ≠ b239 := Nat.ne_of_lt (Nat.lt_of_lt_of_le (by have := World.block_lt_of_cell? _ _ hx240_0; first | rwa [add_block] at this | exact this) GW239.out); have hn240_1 := hn240_0; have hn240_2 := hn240_0; have hn240_3 := hn240_0; have hn240_4 := hn240_0; have hn240_5 := hn240_0; have hn240_6 := hn240_0; have hn240_7 := hn240_0; have hn240_8 := hn240_0; have hn240_9 := hn240_0; replace hx240_0 := (HB.out.cell (World.block_lt_of_cell? w _ hx240_0)).trans hx240_0; replace hx240_1 := (HB.out.cell (World.block_lt_of_cell? w _ hx240_1)).trans hx240_1; replace hx240_2 := (HB.out.cell (World.block_lt_of_cell? w _ hx240_2)).trans hx240_2; replace hx240_3 := (HB.out.cell (World.block_lt_of_cell? w _ hx240_3)).trans hx240_3; replace hx240_4 := (HB.out.cell (World.block_lt_of_cell? w _ hx240_4)).trans hx240_4; replace hx240_0 := (cF (p := ⟨b239, 0, none⟩) (by first | exact nA hn240_0 | exact hn240_0) (.int .u32 ((rd_T32 t229 t237).f0))).trans hx240_0; replace hx240_1 := (cF (p := ⟨b239, 0, none⟩) (by first | exact nA hn240_0 | exact hn240_0) (.int .u32 ((rd_T32 t229 t237).f0))).trans hx240_1; replace hx240_2 := (cF (p := ⟨b239, 0, none⟩) (by first | exact nA hn240_0 | exact hn240_0) (.int .u32 ((rd_T32 t229 t237).f0))).trans hx240_2; replace hx240_3 := (cF (p := ⟨b239, 0, none⟩) (by first | exact nA hn240_0 | exact hn240_0) (.int .u32 ((rd_T32 t229 t237).f0))).trans hx240_3; replace hx240_4 := (cF (p := ⟨b239, 0, none⟩) (by first | exact nA hn240_0 | exact hn240_0) (.int .u32 ((rd_T32 t229 t237).f0))).trans hx240_4; replace hx240_0 := (cF (p := ⟨b239, 1, none⟩) (by first | exact nA hn240_1 | exact hn240_1) (.int .i32 ((rd_T32 t229 t237).f1))).trans hx240_0; replace hx240_1 := (cF (p := ⟨b239, 1, none⟩) (by first | exact nA hn240_1 | exact hn240_1) (.int .i32 ((rd_T32 t229 t237).f1))).trans hx240_1; replace hx240_2 := (cF (p := ⟨b239, 1, none⟩) (by first | exact nA hn240_1 | exact hn240_1) (.int .i32 ((rd_T32 t229 t237).f1))).trans hx240_2; replace hx240_3 := (cF (p := ⟨b239, 1, none⟩) (by first | exact nA hn240_1 | exact hn240_1) (.int .i32 ((rd_T32 t229 t237).f1))).trans hx240_3; replace hx240_4 := (cF (p := ⟨b239, 1, none⟩) (by first | exact nA hn240_1 | exact hn240_1) (.int .i32 ((rd_T32 t229 t237).f1))).trans hx240_4; replace hx240_0 := (cF (p := ⟨b239, 2, none⟩) (by first | exact nA hn240_2 | exact hn240_2) (.int .i32 ((rd_T32 t229 t237).f2.f0))).trans hx240_0; replace hx240_1 := (cF (p := ⟨b239, 2, none⟩) (by first | exact nA hn240_2 | exact hn240_2) (.int .i32 ((rd_T32 t229 t237).f2.f0))).trans hx240_1; replace hx240_2 := (cF (p := ⟨b239, 2, none⟩) (by first | exact nA hn240_2 | exact hn240_2) (.int .i32 ((rd_T32 t229 t237).f2.f0))).trans hx240_2; replace hx240_3 := (cF (p := ⟨b239, 2, none⟩) (by first | exact nA hn240_2 | exact hn240_2) (.int .i32 ((rd_T32 t229 t237).f2.f0))).trans hx240_3; replace hx240_4 := (cF (p := ⟨b239, 2, none⟩) (by first | exact nA hn240_2 | exact hn240_2) (.int .i32 ((rd_T32 t229 t237).f2.f0))).trans hx240_4; replace hx240_0 := (cF (p := ⟨b239, 3, none⟩) (by first | exact nA hn240_3 | exact hn240_3) (.int .i32 ((rd_T32 t229 t237).f2.f1))).trans hx240_0; replace hx240_1 := (cF (p := ⟨b239, 3, none⟩) (by first | exact nA hn240_3 | exact hn240_3) (.int .i32 ((rd_T32 t229 t237).f2.f1))).trans hx240_1; replace hx240_2 := (cF (p := ⟨b239, 3, none⟩) (by first | exact nA hn240_3 | exact hn240_3) (.int .i32 ((rd_T32 t229 t237).f2.f1))).trans hx240_2; replace hx240_3 := (cF (p := ⟨b239, 3, none⟩) (by first | exact nA hn240_3 | exact hn240_3) (.int .i32 ((rd_T32 t229 t237).f2.f1))).trans hx240_3; replace hx240_4 := (cF (p := ⟨b239, 3, none⟩) (by first | exact nA hn240_3 | exact hn240_3) (.int .i32 ((rd_T32 t229 t237).f2.f1))).trans hx240_4; replace hx240_0 := (cF (p := ⟨b239, 4, none⟩) (by first | exact nA hn240_4 | exact hn240_4) (.int .i32 ((rd_T32 t229 t237).f3))).trans hx240_0; replace hx240_1 := (cF (p := ⟨b239, 4, none⟩) (by first | exact nA hn240_4 | exact hn240_4) (.int .i32 ((rd_T32 t229 t237).f3))).trans hx240_1; replace hx240_2 := (cF (p := ⟨b239, 4, none⟩) (by first | exact nA hn240_4 | exact hn240_4) (.int .i32 ((rd_T32 t229 t237).f3))).trans hx240_2; replace hx240_3 := (cF (p := ⟨b239, 4, none⟩) (by first | exact nA hn240_4 | exact hn240_4) (.int .i32 ((rd_T32 t229 t237).f3))).trans hx240_3; replace hx240_4 := (cF (p := ⟨b239, 4, none⟩) (by first | exact nA hn240_4 | exact hn240_4) (.int .i32 ((rd_T32 t229 t237).f3))).trans hx240_4; replace hx240_0 := (cF (p := ⟨b239, 5, none⟩) (by first | exact nA hn240_5 | exact hn240_5) (.int .i32 ((rd_T32 t229 t237).f4))).trans hx240_0; replace hx240_1 := (cF (p := ⟨b239, 5, none⟩) (by first | exact nA hn240_5 | exact hn240_5) (.int .i32 ((rd_T32 t229 t237).f4))).trans hx240_1; replace hx240_2 := (cF (p := ⟨b239, 5, none⟩) (by first | exact nA hn240_5 | exact hn240_5) (.int .i32 ((rd_T32 t229 t237).f4))).trans hx240_2; replace hx240_3 := (cF (p := ⟨b239, 5, none⟩) (by first | exact nA hn240_5 | exact hn240_5) (.int .i32 ((rd_T32 t229 t237).f4))).trans hx240_3; replace hx240_4 := (cF (p := ⟨b239, 5, none⟩) (by first | exact nA hn240_5 | exact hn240_5) (.int .i32 ((rd_T32 t229 t237).f4))).trans hx240_4; replace hx240_0 := (cF (p := ⟨b239, 6, none⟩) (by first | exact nA hn240_6 | exact hn240_6) (.int .i32 ((rd_T32 t229 t237).f5.f0))).trans hx240_0; replace hx240_1 := (cF (p := ⟨b239, 6, none⟩) (by first | exact nA hn240_6 | exact hn240_6) (.int .i32 ((rd_T32 t229 t237).f5.f0))).trans hx240_1; replace hx240_2 := (cF (p := ⟨b239, 6, none⟩) (by first | exact nA hn240_6 | exact hn240_6) (.int .i32 ((rd_T32 t229 t237).f5.f0))).trans hx240_2; replace hx240_3 := (cF (p := ⟨b239, 6, none⟩) (by first | exact nA hn240_6 | exact hn240_6) (.int .i32 ((rd_T32 t229 t237).f5.f0))).trans hx240_3; replace hx240_4 := (cF (p := ⟨b239, 6, none⟩) (by first | exact nA hn240_6 | exact hn240_6) (.int .i32 ((rd_T32 t229 t237).f5.f0))).trans hx240_4; replace hx240_0 := (cF (p := ⟨b239, 7, none⟩) (by first | exact nA hn240_7 | exact hn240_7) (.int .i32 ((rd_T32 t229 t237).f5.f1))).trans hx240_0; replace hx240_1 := (cF (p := ⟨b239, 7, none⟩) (by first | exact nA hn240_7 | exact hn240_7) (.int .i32 ((rd_T32 t229 t237).f5.f1))).trans hx240_1; replace hx240_2 := (cF (p := ⟨b239, 7, none⟩) (by first | exact nA hn240_7 | exact hn240_7) (.int .i32 ((rd_T32 t229 t237).f5.f1))).trans hx240_2; replace hx240_3 := (cF (p := ⟨b239, 7, none⟩) (by first | exact nA hn240_7 | exact hn240_7) (.int .i32 ((rd_T32 t229 t237).f5.f1))).trans hx240_3; replace hx240_4 := (cF (p := ⟨b239, 7, none⟩) (by first | exact nA hn240_7 | exact hn240_7) (.int .i32 ((rd_T32 t229 t237).f5.f1))).trans hx240_4; replace hx240_0 := (cF (p := ⟨b239, 8, none⟩) (by first | exact nA hn240_8 | exact hn240_8) (.int .i32 ((rd_T32 t229 t237).f6.f0))).trans hx240_0; replace hx240_1 := (cF (p := ⟨b239, 8, none⟩) (by first | exact nA hn240_8 | exact hn240_8) (.int .i32 ((rd_T32 t229 t237).f6.f0))).trans hx240_1; replace hx240_2 := (cF (p := ⟨b239, 8, none⟩) (by first | exact nA hn240_8 | exact hn240_8) (.int .i32 ((rd_T32 t229 t237).f6.f0))).trans hx240_2; replace hx240_3 := (cF (p := ⟨b239, 8, none⟩) (by first | exact nA hn240_8 | exact hn240_8) (.int .i32 ((rd_T32 t229 t237).f6.f0))).trans hx240_3; replace hx240_4 := (cF (p := ⟨b239, 8, none⟩) (by first | exact nA hn240_8 | exact hn240_8) (.int .i32 ((rd_T32 t229 t237).f6.f0))).trans hx240_4; replace hx240_0 := (cF (p := ⟨b239, 9, none⟩) (by first | exact nA hn240_9 | exact hn240_9) (.int .i32 ((rd_T32 t229 t237).f6.f1))).trans hx240_0; replace hx240_1 := (cF (p := ⟨b239, 9, none⟩) (by first | exact nA hn240_9 | exact hn240_9) (.int .i32 ((rd_T32 t229 t237).f6.f1))).trans hx240_1; replace hx240_2 := (cF (p := ⟨b239, 9, none⟩) (by first | exact nA hn240_9 | exact hn240_9) (.int .i32 ((rd_T32 t229 t237).f6.f1))).trans hx240_2; replace hx240_3 := (cF (p := ⟨b239, 9, none⟩) (by first | exact nA hn240_9 | exact hn240_9) (.int .i32 ((rd_T32 t229 t237).f6.f1))).trans hx240_3; replace hx240_4 := (cF (p := ⟨b239, 9, none⟩) (by first | exact nA hn240_9 | exact hn240_9) (.int .i32 ((rd_T32 t229 t237).f6.f1))).trans hx240_4; clear hn240_0; clear hn240_1; clear hn240_2; clear hn240_3; clear hn240_4; clear hn240_5; clear hn240_6; clear hn240_7; clear hn240_8; clear hn240_9; replace p240 := eq_true p240; replace q240 := eq_true q240) | ((with_reducible refine gate_callee (f := 9) rfl ?_); refine goesL_ (some 53) rfl rfl Try.func9 (by kernel_rfl) rfl #[.slice (some ad238) t229.length co34, .int .u32 ((rd_T37 l1 x7_2).f0.f1)] rfl (by (try simp only [List.map_toArray, List.map_cons, List.map_nil]); first | done | rfl | (simp only [List.length_drop, List.length_take]; rfl)) ?_; (with_reducible refine (billiardref06_Find.calls k2 _ _ t229 ((rd_T37 l1 x7_2).f0.f1) t241 _ ?side1 ?side2 A22.out).mono ?_); (case side1 => refine (Kd.R_reads' (e := 32) (base := w.heap.size) (ok := fun k_ => (True ∧ k_ ≠ b239)) (n := t229.length) (c := co34) ?_).2.2; exact (by (with_reducible repeat (first | apply Kd.R_alloc | apply Kd.R_drewN | apply Kd.R_drew)); exact (Kd.R_mono (Kd.R_far (p := ⟨b239, 9, none⟩) (Kd.R_far (p := ⟨b239, 8, none⟩) (Kd.R_far (p := ⟨b239, 7, none⟩) (Kd.R_far (p := ⟨b239, 6, none⟩) (Kd.R_far (p := ⟨b239, 5, none⟩) (Kd.R_far (p := ⟨b239, 4, none⟩) (Kd.R_far (p := ⟨b239, 3, none⟩) (Kd.R_far (p := ⟨b239, 2, none⟩) (Kd.R_far (p := ⟨b239, 1, none⟩) (Kd.R_far (p := ⟨b239, 0, none⟩) (Kd.R_mono HO_5.out (fun k_ hk => (⟨hk, hk.2⟩ : _ ∧ k_ ≠ b239))) (fun _ hk => hk.2) (.int .u32 ((rd_T32 t229 t237).f0))) (fun _ hk => hk.2) (.int .i32 ((rd_T32 t229 t237).f1))) (fun _ hk => hk.2) (.int .i32 ((rd_T32 t229 t237).f2.f0))) (fun _ hk => hk.2) (.int .i32 ((rd_T32 t229 t237).f2.f1))) (fun _ hk => hk.2) (.int .i32 ((rd_T32 t229 t237).f3))) (fun _ hk => hk.2) (.int .i32 ((rd_T32 t229 t237).f4))) (fun _ hk => hk.2) (.int .i32 ((rd_T32 t229 t237).f5.f0))) (fun _ hk => hk.2) (.int .i32 ((rd_T32 t229 t237).f5.f1))) (fun _ hk => hk.2) (.int .i32 ((rd_T32 t229 t237).f6.f0))) (fun _ hk => hk.2) (.int .i32 ((rd_T32 t229 t237).f6.f1))) (fun _ h_ => h_.1)))); (case side2 => exact (Kd.R_reads' HO_5.out).2.1); rintro e w' ⟨rfl, ⟨nd, rfl⟩⟩; refine ⟨_, rfl, ?_⟩; have p242 : 0 ≤ (t241 : Int) := of_decide_eq_true (by first | (with_reducible assumption) | assumption); have q242 : t241 < (t229.length : Int) := of_decide_eq_true (by first | (with_reducible assumption) | assumption); obtain ⟨ad242, e242, hx242_0, hx242_1, hx242_2, hx242_3, hx242_4, hx242_5, hx242_6, hx242_7, hx242_8, hx242_9⟩ := at_T32 (Kd.R_reads' HO_5.out).2.2 t241 p242 q242; obtain rfl : ad238 = ad242 := (by injection e242); have hn242_0 : ad238.block ≠ b239 := Kd.own_blk (by first | exact Kd.R_ne HO_5.out BK239.out (by decide) | (intro e_; have k_ := HO_5.out.1 _ e_.symm; first | exact k_.2 rfl | exact k_.1 rfl | exact k_.1.2 rfl | exact k_.2.2 rfl | exact k_.1.1 rfl)); have hn242_1 := hn242_0; have hn242_2 := hn242_0; have hn242_3 := hn242_0; have hn242_4 := hn242_0; have hn242_5 := hn242_0; have hn242_6 := hn242_0; have hn242_7 := hn242_0; have hn242_8 := hn242_0; have hn242_9 := hn242_0; replace hx242_0 := (cF (p := ⟨b239, 0, none⟩) (by first | exact nA hn242_0 | exact hn242_0) (.int .u32 ((rd_T32 t229 t237).f0))).trans hx242_0; replace hx242_1 := (cF (p := ⟨b239, 0, none⟩) (by first | exact nA hn242_0 | exact hn242_0) (.int .u32 ((rd_T32 t229 t237).f0))).trans hx242_1; replace hx242_2 := (cF (p := ⟨b239, 0, none⟩) (by first | exact nA hn242_0 | exact hn242_0) (.int .u32 ((rd_T32 t229 t237).f0))).trans hx242_2; replace hx242_3 := (cF (p := ⟨b239, 0, none⟩) (by first | exact nA hn242_0 | exact hn242_0) (.int .u32 ((rd_T32 t229 t237).f0))).trans hx242_3; replace hx242_4 := (cF (p := ⟨b239, 0, none⟩) (by first | exact nA hn242_0 | exact hn242_0) (.int .u32 ((rd_T32 t229 t237).f0))).trans hx242_4; replace hx242_5 := (cF (p := ⟨b239, 0, none⟩) (by first | exact nA hn242_0 | exact hn242_0) (.int .u32 ((rd_T32 t229 t237).f0))).trans hx242_5; replace hx242_6 := (cF (p := ⟨b239, 0, none⟩) (by first | exact nA hn242_0 | exact hn242_0) (.int .u32 ((rd_T32 t229 t237).f0))).trans hx242_6; replace hx242_7 := (cF (p := ⟨b239, 0, none⟩) (by first | exact nA hn242_0 | exact hn242_0) (.int .u32 ((rd_T32 t229 t237).f0))).trans hx242_7; replace hx242_8 := (cF (p := ⟨b239, 0, none⟩) (by first | exact nA hn242_0 | exact hn242_0) (.int .u32 ((rd_T32 t229 t237).f0))).trans hx242_8; replace hx242_9 := (cF (p := ⟨b239, 0, none⟩) (by first | exact nA hn242_0 | exact hn242_0) (.int .u32 ((rd_T32 t229 t237).f0))).trans hx242_9; replace hx242_0 := (cF (p := ⟨b239, 1, none⟩) (by first | exact nA hn242_1 | exact hn242_1) (.int .i32 ((rd_T32 t229 t237).f1))).trans hx242_0; replace hx242_1 := (cF (p := ⟨b239, 1, none⟩) (by first | exact nA hn242_1 | exact hn242_1) (.int .i32 ((rd_T32 t229 t237).f1))).trans hx242_1; replace hx242_2 := (cF (p := ⟨b239, 1, none⟩) (by first | exact nA hn242_1 | exact hn242_1) (.int .i32 ((rd_T32 t229 t237).f1))).trans hx242_2; replace hx242_3 := (cF (p := ⟨b239, 1, none⟩) (by first | exact nA hn242_1 | exact hn242_1) (.int .i32 ((rd_T32 t229 t237).f1))).trans hx242_3; replace hx242_4 := (cF (p := ⟨b239, 1, none⟩) (by first | exact nA hn242_1 | exact hn242_1) (.int .i32 ((rd_T32 t229 t237).f1))).trans hx242_4; replace hx242_5 := (cF (p := ⟨b239, 1, none⟩) (by first | exact nA hn242_1 | exact hn242_1) (.int .i32 ((rd_T32 t229 t237).f1))).trans hx242_5; replace hx242_6 := (cF (p := ⟨b239, 1, none⟩) (by first | exact nA hn242_1 | exact hn242_1) (.int .i32 ((rd_T32 t229 t237).f1))).trans hx242_6; replace hx242_7 := (cF (p := ⟨b239, 1, none⟩) (by first | exact nA hn242_1 | exact hn242_1) (.int .i32 ((rd_T32 t229 t237).f1))).trans hx242_7; replace hx242_8 := (cF (p := ⟨b239, 1, none⟩) (by first | exact nA hn242_1 | exact hn242_1) (.int .i32 ((rd_T32 t229 t237).f1))).trans hx242_8; replace hx242_9 := (cF (p := ⟨b239, 1, none⟩) (by first | exact nA hn242_1 | exact hn242_1) (.int .i32 ((rd_T32 t229 t237).f1))).trans hx242_9; replace hx242_0 := (cF (p := ⟨b239, 2, none⟩) (by first | exact nA hn242_2 | exact hn242_2) (.int .i32 ((rd_T32 t229 t237).f2.f0))).trans hx242_0; replace hx242_1 := (cF (p := ⟨b239, 2, none⟩) (by first | exact nA hn242_2 | exact hn242_2) (.int .i32 ((rd_T32 t229 t237).f2.f0))).trans hx242_1; replace hx242_2 := (cF (p := ⟨b239, 2, none⟩) (by first | exact nA hn242_2 | exact hn242_2) (.int .i32 ((rd_T32 t229 t237).f2.f0))).trans hx242_2; replace hx242_3 := (cF (p := ⟨b239, 2, none⟩) (by first | exact nA hn242_2 | exact hn242_2) (.int .i32 ((rd_T32 t229 t237).f2.f0))).trans hx242_3; replace hx242_4 := (cF (p := ⟨b239, 2, none⟩) (by first | exact nA hn242_2 | exact hn242_2) (.int .i32 ((rd_T32 t229 t237).f2.f0))).trans hx242_4; replace hx242_5 := (cF (p := ⟨b239, 2, none⟩) (by first | exact nA hn242_2 | exact hn242_2) (.int .i32 ((rd_T32 t229 t237).f2.f0))).trans hx242_5; replace hx242_6 := (cF (p := ⟨b239, 2, none⟩) (by first | exact nA hn242_2 | exact hn242_2) (.int .i32 ((rd_T32 t229 t237).f2.f0))).trans hx242_6; replace hx242_7 := (cF (p := ⟨b239, 2, none⟩) (by first | exact nA hn242_2 | exact hn242_2) (.int .i32 ((rd_T32 t229 t237).f2.f0))).trans hx242_7; replace hx242_8 := (cF (p := ⟨b239, 2, none⟩) (by first | exact nA hn242_2 | exact hn242_2) (.int .i32 ((rd_T32 t229 t237).f2.f0))).trans hx242_8; replace hx242_9 := (cF (p := ⟨b239, 2, none⟩) (by first | exact nA hn242_2 | exact hn242_2) (.int .i32 ((rd_T32 t229 t237).f2.f0))).trans hx242_9; replace hx242_0 := (cF (p := ⟨b239, 3, none⟩) (by first | exact nA hn242_3 | exact hn242_3) (.int .i32 ((rd_T32 t229 t237).f2.f1))).trans hx242_0; replace hx242_1 := (cF (p := ⟨b239, 3, none⟩) (by first | exact nA hn242_3 | exact hn242_3) (.int .i32 ((rd_T32 t229 t237).f2.f1))).trans hx242_1; replace hx242_2 := (cF (p := ⟨b239, 3, none⟩) (by first | exact nA hn242_3 | exact hn242_3) (.int .i32 ((rd_T32 t229 t237).f2.f1))).trans hx242_2; replace hx242_3 := (cF (p := ⟨b239, 3, none⟩) (by first | exact nA hn242_3 | exact hn242_3) (.int .i32 ((rd_T32 t229 t237).f2.f1))).trans hx242_3; replace hx242_4 := (cF (p := ⟨b239, 3, none⟩) (by first | exact nA hn242_3 | exact hn242_3) (.int .i32 ((rd_T32 t229 t237).f2.f1))).trans hx242_4; replace hx242_5 := (cF (p := ⟨b239, 3, none⟩) (by first | exact nA hn242_3 | exact hn242_3) (.int .i32 ((rd_T32 t229 t237).f2.f1))).trans hx242_5; replace hx242_6 := (cF (p := ⟨b239, 3, none⟩) (by first | exact nA hn242_3 | exact hn242_3) (.int .i32 ((rd_T32 t229 t237).f2.f1))).trans hx242_6; replace hx242_7 := (cF (p := ⟨b239, 3, none⟩) (by first | exact nA hn242_3 | exact hn242_3) (.int .i32 ((rd_T32 t229 t237).f2.f1))).trans hx242_7; replace hx242_8 := (cF (p := ⟨b239, 3, none⟩) (by first | exact nA hn242_3 | exact hn242_3) (.int .i32 ((rd_T32 t229 t237).f2.f1))).trans hx242_8; replace hx242_9 := (cF (p := ⟨b239, 3, none⟩) (by first | exact nA hn242_3 | exact hn242_3) (.int .i32 ((rd_T32 t229 t237).f2.f1))).trans hx242_9; replace hx242_0 := (cF (p := ⟨b239, 4, none⟩) (by first | exact nA hn242_4 | exact hn242_4) (.int .i32 ((rd_T32 t229 t237).f3))).trans hx242_0; replace hx242_1 := (cF (p := ⟨b239, 4, none⟩) (by first | exact nA hn242_4 | exact hn242_4) (.int .i32 ((rd_T32 t229 t237).f3))).trans hx242_1; replace hx242_2 := (cF (p := ⟨b239, 4, none⟩) (by first | exact nA hn242_4 | exact hn242_4) (.int .i32 ((rd_T32 t229 t237).f3))).trans hx242_2; replace hx242_3 := (cF (p := ⟨b239, 4, none⟩) (by first | exact nA hn242_4 | exact hn242_4) (.int .i32 ((rd_T32 t229 t237).f3))).trans hx242_3; replace hx242_4 := (cF (p := ⟨b239, 4, none⟩) (by first | exact nA hn242_4 | exact hn242_4) (.int .i32 ((rd_T32 t229 t237).f3))).trans hx242_4; replace hx242_5 := (cF (p := ⟨b239, 4, none⟩) (by first | exact nA hn242_4 | exact hn242_4) (.int .i32 ((rd_T32 t229 t237).f3))).trans hx242_5; replace hx242_6 := (cF (p := ⟨b239, 4, none⟩) (by first | exact nA hn242_4 | exact hn242_4) (.int .i32 ((rd_T32 t229 t237).f3))).trans hx242_6; replace hx242_7 := (cF (p := ⟨b239, 4, none⟩) (by first | exact nA hn242_4 | exact hn242_4) (.int .i32 ((rd_T32 t229 t237).f3))).trans hx242_7; replace hx242_8 := (cF (p := ⟨b239, 4, none⟩) (by first | exact nA hn242_4 | exact hn242_4) (.int .i32 ((rd_T32 t229 t237).f3))).trans hx242_8; replace hx242_9 := (cF (p := ⟨b239, 4, none⟩) (by first | exact nA hn242_4 | exact hn242_4) (.int .i32 ((rd_T32 t229 t237).f3))).trans hx242_9; replace hx242_0 := (cF (p := ⟨b239, 5, none⟩) (by first | exact nA hn242_5 | exact hn242_5) (.int .i32 ((rd_T32 t229 t237).f4))).trans hx242_0; replace hx242_1 := (cF (p := ⟨b239, 5, none⟩) (by first | exact nA hn242_5 | exact hn242_5) (.int .i32 ((rd_T32 t229 t237).f4))).trans hx242_1; replace hx242_2 := (cF (p := ⟨b239, 5, none⟩) (by first | exact nA hn242_5 | exact hn242_5) (.int .i32 ((rd_T32 t229 t237).f4))).trans hx242_2; replace hx242_3 := (cF (p := ⟨b239, 5, none⟩) (by first | exact nA hn242_5 | exact hn242_5) (.int .i32 ((rd_T32 t229 t237).f4))).trans hx242_3; replace hx242_4 := (cF (p := ⟨b239, 5, none⟩) (by first | exact nA hn242_5 | exact hn242_5) (.int .i32 ((rd_T32 t229 t237).f4))).trans hx242_4; replace hx242_5 := (cF (p := ⟨b239, 5, none⟩) (by first | exact nA hn242_5 | exact hn242_5) (.int .i32 ((rd_T32 t229 t237).f4))).trans hx242_5; replace hx242_6 := (cF (p := ⟨b239, 5, none⟩) (by first | exact nA hn242_5 | exact hn242_5) (.int .i32 ((rd_T32 t229 t237).f4))).trans hx242_6; replace hx242_7 := (cF (p := ⟨b239, 5, none⟩) (by first | exact nA hn242_5 | exact hn242_5) (.int .i32 ((rd_T32 t229 t237).f4))).trans hx242_7; replace hx242_8 := (cF (p := ⟨b239, 5, none⟩) (by first | exact nA hn242_5 | exact hn242_5) (.int .i32 ((rd_T32 t229 t237).f4))).trans hx242_8; replace hx242_9 := (cF (p := ⟨b239, 5, none⟩) (by first | exact nA hn242_5 | exact hn242_5) (.int .i32 ((rd_T32 t229 t237).f4))).trans hx242_9; replace hx242_0 := (cF (p := ⟨b239, 6, none⟩) (by first | exact nA hn242_6 | exact hn242_6) (.int .i32 ((rd_T32 t229 t237).f5.f0))).trans hx242_0; replace hx242_1 := (cF (p := ⟨b239, 6, none⟩) (by first | exact nA hn242_6 | exact hn242_6) (.int .i32 ((rd_T32 t229 t237).f5.f0))).trans hx242_1; replace hx242_2 := (cF (p := ⟨b239, 6, none⟩) (by first | exact nA hn242_6 | exact hn242_6) (.int .i32 ((rd_T32 t229 t237).f5.f0))).trans hx242_2; replace hx242_3 := (cF (p := ⟨b239, 6, none⟩) (by first | exact nA hn242_6 | exact hn242_6) (.int .i32 ((rd_T32 t229 t237).f5.f0))).trans hx242_3; replace hx242_4 := (cF (p := ⟨b239, 6, none⟩) (by first | exact nA hn242_6 | exact hn242_6) (.int .i32 ((rd_T32 t229 t237).f5.f0))).trans hx242_4; replace hx242_5 := (cF (p := ⟨b239, 6, none⟩) (by first | exact nA hn242_6 | exact hn242_6) (.int .i32 ((rd_T32 t229 t237).f5.f0))).trans hx242_5; replace hx242_6 := (cF (p := ⟨b239, 6, none⟩) (by first | exact nA hn242_6 | exact hn242_6) (.int .i32 ((rd_T32 t229 t237).f5.f0))).trans hx242_6; replace hx242_7 := (cF (p := ⟨b239, 6, none⟩) (by first | exact nA hn242_6 | exact hn242_6) (.int .i32 ((rd_T32 t229 t237).f5.f0))).trans hx242_7; replace hx242_8 := (cF (p := ⟨b239, 6, none⟩) (by first | exact nA hn242_6 | exact hn242_6) (.int .i32 ((rd_T32 t229 t237).f5.f0))).trans hx242_8; replace hx242_9 := (cF (p := ⟨b239, 6, none⟩) (by first | exact nA hn242_6 | exact hn242_6) (.int .i32 ((rd_T32 t229 t237).f5.f0))).trans hx242_9; replace hx242_0 := (cF (p := ⟨b239, 7, none⟩) (by first | exact nA hn242_7 | exact hn242_7) (.int .i32 ((rd_T32 t229 t237).f5.f1))).trans hx242_0; replace hx242_1 := (cF (p := ⟨b239, 7, none⟩) (by first | exact nA hn242_7 | exact hn242_7) (.int .i32 ((rd_T32 t229 t237).f5.f1))).trans hx242_1; replace hx242_2 := (cF (p := ⟨b239, 7, none⟩) (by first | exact nA hn242_7 | exact hn242_7) (.int .i32 ((rd_T32 t229 t237).f5.f1))).trans hx242_2; replace hx242_3 := (cF (p := ⟨b239, 7, none⟩) (by first | exact nA hn242_7 | exact hn242_7) (.int .i32 ((rd_T32 t229 t237).f5.f1))).trans hx242_3; replace hx242_4 := (cF (p := ⟨b239, 7, none⟩) (by first | exact nA hn242_7 | exact hn242_7) (.int .i32 ((rd_T32 t229 t237).f5.f1))).trans hx242_4; replace hx242_5 := (cF (p := ⟨b239, 7, none⟩) (by first | exact nA hn242_7 | exact hn242_7) (.int .i32 ((rd_T32 t229 t237).f5.f1))).trans hx242_5; replace hx242_6 := (cF (p := ⟨b239, 7, none⟩) (by first | exact nA hn242_7 | exact hn242_7) (.int .i32 ((rd_T32 t229 t237).f5.f1))).trans hx242_6; replace hx242_7 := (cF (p := ⟨b239, 7, none⟩) (by first | exact nA hn242_7 | exact hn242_7) (.int .i32 ((rd_T32 t229 t237).f5.f1))).trans hx242_7; replace hx242_8 := (cF (p := ⟨b239, 7, none⟩) (by first | exact nA hn242_7 | exact hn242_7) (.int .i32 ((rd_T32 t229 t237).f5.f1))).trans hx242_8; replace hx242_9 := (cF (p := ⟨b239, 7, none⟩) (by first | exact nA hn242_7 | exact hn242_7) (.int .i32 ((rd_T32 t229 t237).f5.f1))).trans hx242_9; replace hx242_0 := (cF (p := ⟨b239, 8, none⟩) (by first | exact nA hn242_8 | exact hn242_8) (.int .i32 ((rd_T32 t229 t237).f6.f0))).trans hx242_0; replace hx242_1 := (cF (p := ⟨b239, 8, none⟩) (by first | exact nA hn242_8 | exact hn242_8) (.int .i32 ((rd_T32 t229 t237).f6.f0))).trans hx242_1; replace hx242_2 := (cF (p := ⟨b239, 8, none⟩) (by first | exact nA hn242_8 | exact hn242_8) (.int .i32 ((rd_T32 t229 t237).f6.f0))).trans hx242_2; replace hx242_3 := (cF (p := ⟨b239, 8, none⟩) (by first | exact nA hn242_8 | exact hn242_8) (.int .i32 ((rd_T32 t229 t237).f6.f0))).trans hx242_3; replace hx242_4 := (cF (p := ⟨b239, 8, none⟩) (by first | exact nA hn242_8 | exact hn242_8) (.int .i32 ((rd_T32 t229 t237).f6.f0))).trans hx242_4; replace hx242_5 := (cF (p := ⟨b239, 8, none⟩) (by first | exact nA hn242_8 | exact hn242_8) (.int .i32 ((rd_T32 t229 t237).f6.f0))).trans hx242_5; replace hx242_6 := (cF (p := ⟨b239, 8, none⟩) (by first | exact nA hn242_8 | exact hn242_8) (.int .i32 ((rd_T32 t229 t237).f6.f0))).trans hx242_6; replace hx242_7 := (cF (p := ⟨b239, 8, none⟩) (by first | exact nA hn242_8 | exact hn242_8) (.int .i32 ((rd_T32 t229 t237).f6.f0))).trans hx242_7; replace hx242_8 := (cF (p := ⟨b239, 8, none⟩) (by first | exact nA hn242_8 | exact hn242_8) (.int .i32 ((rd_T32 t229 t237).f6.f0))).trans hx242_8; replace hx242_9 := (cF (p := ⟨b239, 8, none⟩) (by first | exact nA hn242_8 | exact hn242_8) (.int .i32 ((rd_T32 t229 t237).f6.f0))).trans hx242_9; replace hx242_0 := (cF (p := ⟨b239, 9, none⟩) (by first | exact nA hn242_9 | exact hn242_9) (.int .i32 ((rd_T32 t229 t237).f6.f1))).trans hx242_0; replace hx242_1 := (cF (p := ⟨b239, 9, none⟩) (by first | exact nA hn242_9 | exact hn242_9) (.int .i32 ((rd_T32 t229 t237).f6.f1))).trans hx242_1; replace hx242_2 := (cF (p := ⟨b239, 9, none⟩) (by first | exact nA hn242_9 | exact hn242_9) (.int .i32 ((rd_T32 t229 t237).f6.f1))).trans hx242_2; replace hx242_3 := (cF (p := ⟨b239, 9, none⟩) (by first | exact nA hn242_9 | exact hn242_9) (.int .i32 ((rd_T32 t229 t237).f6.f1))).trans hx242_3; replace hx242_4 := (cF (p := ⟨b239, 9, none⟩) (by first | exact nA hn242_9 | exact hn242_9) (.int .i32 ((rd_T32 t229 t237).f6.f1))).trans hx242_4; replace hx242_5 := (cF (p := ⟨b239, 9, none⟩) (by first | exact nA hn242_9 | exact hn242_9) (.int .i32 ((rd_T32 t229 t237).f6.f1))).trans hx242_5; replace hx242_6 := (cF (p := ⟨b239, 9, none⟩) (by first | exact nA hn242_9 | exact hn242_9) (.int .i32 ((rd_T32 t229 t237).f6.f1))).trans hx242_6; replace hx242_7 := (cF (p := ⟨b239, 9, none⟩) (by first | exact nA hn242_9 | exact hn242_9) (.int .i32 ((rd_T32 t229 t237).f6.f1))).trans hx242_7; replace hx242_8 := (cF (p := ⟨b239, 9, none⟩) (by first | exact nA hn242_9 | exact hn242_9) (.int .i32 ((rd_T32 t229 t237).f6.f1))).trans hx242_8; replace hx242_9 := (cF (p := ⟨b239, 9, none⟩) (by first | exact nA hn242_9 | exact hn242_9) (.int .i32 ((rd_T32 t229 t237).f6.f1))).trans hx242_9; clear hn242_0; clear hn242_1; clear hn242_2; clear hn242_3; clear hn242_4; clear hn242_5; clear hn242_6; clear hn242_7; clear hn242_8; clear hn242_9; replace p242 := eq_true p242; replace q242 := eq_true q242) | ((with_reducible refine gate_dst (N := 9) rfl ?_); refine box_event ?hg (N := 9) ?hd (cs := #[.int .u32 0, .int .i32 0, .int .i32 0, .int .i32 0, .int .i32 0, .int .i32 0, .int .i32 0, .int .i32 0, .int .i32 0, .int .i32 0]) (t := 32) ?hr ?_; (case hd => rfl); (case hg => rfl); (case hr => first | (go_simp; done) | (go_simp; rfl)); intro b243 hg w37 hbox hb; have n0_ := aM (Kd.R_below (Kd.R_elderB (by (with_reducible repeat (first | apply Kd.R_alloc | apply Kd.R_drewN | apply Kd.R_drew)); exact (Kd.R_mono (Kd.R_far (p := ⟨b239, 9, none⟩) (Kd.R_far (p := ⟨b239, 8, none⟩) (Kd.R_far (p := ⟨b239, 7, none⟩) (Kd.R_far (p := ⟨b239, 6, none⟩) (Kd.R_far (p := ⟨b239, 5, none⟩) (Kd.R_far (p := ⟨b239, 4, none⟩) (Kd.R_far (p := ⟨b239, 3, none⟩) (Kd.R_far (p := ⟨b239, 2, none⟩) (Kd.R_far (p := ⟨b239, 1, none⟩) (Kd.R_far (p := ⟨b239, 0, none⟩) (Kd.R_mono HO_5.out (fun k_ hk => (⟨hk, hk.2⟩ : _ ∧ k_ ≠ b239))) (fun _ hk => hk.2) (.int .u32 ((rd_T32 t229 t237).f0))) (fun _ hk => hk.2) (.int .i32 ((rd_T32 t229 t237).f1))) (fun _ hk => hk.2) (.int .i32 ((rd_T32 t229 t237).f2.f0))) (fun _ hk => hk.2) (.int .i32 ((rd_T32 t229 t237).f2.f1))) (fun _ hk => hk.2) (.int .i32 ((rd_T32 t229 t237).f3))) (fun _ hk => hk.2) (.int .i32 ((rd_T32 t229 t237).f4))) (fun _ hk => hk.2) (.int .i32 ((rd_T32 t229 t237).f5.f0))) (fun _ hk => hk.2) (.int .i32 ((rd_T32 t229 t237).f5.f1))) (fun _ hk => hk.2) (.int .i32 ((rd_T32 t229 t237).f6.f0))) (fun _ hk => hk.2) (.int .i32 ((rd_T32 t229 t237).f6.f1))) (fun _ h_ => h_.1))) b243 (Nat.le_of_eq hg.symm)) hb); have n1_ := aM (bB (g := b239) (o := .cells #[.int .u32 ((rd_T32 t229 t237).f0), .int .i32 ((rd_T32 t229 t237).f1), .int .i32 ((rd_T32 t229 t237).f2.f0), .int .i32 ((rd_T32 t229 t237).f2.f1), .int .i32 ((rd_T32 t229 t237).f3), .int .i32 ((rd_T32 t229 t237).f4), .int .i32 ((rd_T32 t229 t237).f5.f0), .int .i32 ((rd_T32 t229 t237).f5.f1), .int .i32 ((rd_T32 t229 t237).f6.f0), .int .i32 ((rd_T32 t229 t237).f6.f1)] 32 (0, 0)) (by (with_reducible repeat first | apply bN | apply bD | apply bA); refine bP (cs := #[.int .u32 ((rd_T32 t229 t237).f0), .int .i32 ((rd_T32 t229 t237).f1), .int .i32 ((rd_T32 t229 t237).f2.f0), .int .i32 ((rd_T32 t229 t237).f2.f1), .int .i32 ((rd_T32 t229 t237).f3), .int .i32 ((rd_T32 t229 t237).f4), .int .i32 ((rd_T32 t229 t237).f5.f0), .int .i32 ((rd_T32 t229 t237).f5.f1), .int .i32 ((rd_T32 t229 t237).f6.f0), .int .i32 0]) ?_ 9 _ rfl; (with_reducible repeat first | apply bN | apply bD | apply bA); refine bP (cs := #[.int .u32 ((rd_T32 t229 t237).f0), .int .i32 ((rd_T32 t229 t237).f1), .int .i32 ((rd_T32 t229 t237).f2.f0), .int .i32 ((rd_T32 t229 t237).f2.f1), .int .i32 ((rd_T32 t229 t237).f3), .int .i32 ((rd_T32 t229 t237).f4), .int .i32 ((rd_T32 t229 t237).f5.f0), .int .i32 ((rd_T32 t229 t237).f5.f1), .int .i32 0, .int .i32 0]) ?_ 8 _ rfl; (with_reducible repeat first | apply bN | apply bD | apply bA); refine bP (cs := #[.int .u32 ((rd_T32 t229 t237).f0), .int .i32 ((rd_T32 t229 t237).f1), .int .i32 ((rd_T32 t229 t237).f2.f0), .int .i32 ((rd_T32 t229 t237).f2.f1), .int .i32 ((rd_T32 t229 t237).f3), .int .i32 ((rd_T32 t229 t237).f4), .int .i32 ((rd_T32 t229 t237).f5.f0), .int .i32 0, .int .i32 0, .int .i32 0]) ?_ 7 _ rfl; (with_reducible repeat first | apply bN | apply bD | apply bA); refine bP (cs := #[.int .u32 ((rd_T32 t229 t237).f0), .int .i32 ((rd_T32 t229 t237).f1), .int .i32 ((rd_T32 t229 t237).f2.f0), .int .i32 ((rd_T32 t229 t237).f2.f1), .int .i32 ((rd_T32 t229 t237).f3), .int .i32 ((rd_T32 t229 t237).f4), .int .i32 0, .int .i32 0, .int .i32 0, .int .i32 0]) ?_ 6 _ rfl; (with_reducible repeat first | apply bN | apply bD | apply bA); refine bP (cs := #[.int .u32 ((rd_T32 t229 t237).f0), .int .i32 ((rd_T32 t229 t237).f1), .int .i32 ((rd_T32 t229 t237).f2.f0), .int .i32 ((rd_T32 t229 t237).f2.f1), .int .i32 ((rd_T32 t229 t237).f3), .int .i32 0, .int .i32 0, .int .i32 0, .int .i32 0, .int .i32 0]) ?_ 5 _ rfl; (with_reducible repeat first | apply bN | apply bD | apply bA); refine bP (cs := #[.int .u32 ((rd_T32 t229 t237).f0), .int .i32 ((rd_T32 t229 t237).f1), .int .i32 ((rd_T32 t229 t237).f2.f0), .int .i32 ((rd_T32 t229 t237).f2.f1), .int .i32 0, .int .i32 0, .int .i32 0, .int .i32 0, .int .i32 0, .int .i32 0]) ?_ 4 _ rfl; (with_reducible repeat first | apply bN | apply bD | apply bA); refine bP (cs := #[.int .u32 ((rd_T32 t229 t237).f0), .int .i32 ((rd_T32 t229 t237).f1), .int .i32 ((rd_T32 t229 t237).f2.f0), .int .i32 0, .int .i32 0, .int .i32 0, .int .i32 0, .int .i32 0, .int .i32 0, .int .i32 0]) ?_ 3 _ rfl; (with_reducible repeat first | apply bN | apply bD | apply bA); refine bP (cs := #[.int .u32 ((rd_T32 t229 t237).f0), .int .i32 ((rd_T32 t229 t237).f1), .int .i32 0, .int .i32 0, .int .i32 0, .int .i32 0, .int .i32 0, .int .i32 0, .int .i32 0, .int .i32 0]) ?_ 2 _ rfl; (with_reducible repeat first | apply bN | apply bD | apply bA); refine bP (cs := #[.int .u32 ((rd_T32 t229 t237).f0), .int .i32 0, .int .i32 0, .int .i32 0, .int .i32 0, .int .i32 0, .int .i32 0, .int .i32 0, .int .i32 0, .int .i32 0]) ?_ 1 _ rfl; (with_reducible repeat first | apply bN | apply bD | apply bA); refine bP (cs := #[.int .u32 0, .int .i32 0, .int .i32 0, .int .i32 0, .int .i32 0, .int .i32 0, .int .i32 0, .int .i32 0, .int .i32 0, .int .i32 0]) ?_ 0 _ rfl; (with_reducible repeat first | apply bN | apply bD | apply bA); exact BK239.out) hb); have n2_ := aM (lT (by repeat (first | (with_reducible first | exact HB.out | apply lA | apply lN | apply lD | refine lS ?_ GE239.out) | exact HB.out)) hb); have n3_ := aM (hbox); have n4_ := aM ((by rw [hg]; exact (lZ (by repeat (first | (with_reducible first | exact HB.out | apply lA | apply lN | apply lD | refine lS ?_ GE239.out) | exact HB.out))) : w.heap.size ≤ b243)); have n5_ := aM ((by rw [hg]; exact (lZ (by repeat (first | (with_reducible first | exact HB.out | apply lA | apply lN | apply lD | refine lS ?_ GE239.out) | exact HB.out))) : w.heap.size ≤ b243)); have n6_ := aM ((by rw [hg]; exact Nat.ne_of_lt (bL (g := b239) (o := .cells #[.int .u32 ((rd_T32 t229 t237).f0), .int .i32 ((rd_T32 t229 t237).f1), .int .i32 ((rd_T32 t229 t237).f2.f0), .int .i32 ((rd_T32 t229 t237).f2.f1), .int .i32 ((rd_T32 t229 t237).f3), .int .i32 ((rd_T32 t229 t237).f4), .int .i32 ((rd_T32 t229 t237).f5.f0), .int .i32 ((rd_T32 t229 t237).f5.f1), .int .i32 ((rd_T32 t229 t237).f6.f0), .int .i32 ((rd_T32 t229 t237).f6.f1)] 32 (0, 0)) (by (with_reducible repeat first | apply bN | apply bD | apply bA); refine bP (cs := #[.int .u32 ((rd_T32 t229 t237).f0), .int .i32 ((rd_T32 t229 t237).f1), .int .i32 ((rd_T32 t229 t237).f2.f0), .int .i32 ((rd_T32 t229 t237).f2.f1), .int .i32 ((rd_T32 t229 t237).f3), .int .i32 ((rd_T32 t229 t237).f4), .int .i32 ((rd_T32 t229 t237).f5.f0), .int .i32 ((rd_T32 t229 t237).f5.f1), .int .i32 ((rd_T32 t229 t237).f6.f0), .int .i32 0]) ?_ 9 _ rfl; (with_reducible repeat first | apply bN | apply bD | apply bA); refine bP (cs := #[.int .u32 ((rd_T32 t229 t237).f0), .int .i32 ((rd_T32 t229 t237).f1), .int .i32 ((rd_T32 t229 t237).f2.f0), .int .i32 ((rd_T32 t229 t237).f2.f1), .int .i32 ((rd_T32 t229 t237).f3), .int .i32 ((rd_T32 t229 t237).f4), .int .i32 ((rd_T32 t229 t237).f5.f0), .int .i32 ((rd_T32 t229 t237).f5.f1), .int .i32 0, .int .i32 0]) ?_ 8 _ rfl; (with_reducible repeat first | apply bN | apply bD | apply bA); refine bP (cs := #[.int .u32 ((rd_T32 t229 t237).f0), .int .i32 ((rd_T32 t229 t237).f1), .int .i32 ((rd_T32 t229 t237).f2.f0), .int .i32 ((rd_T32 t229 t237).f2.f1), .int .i32 ((rd_T32 t229 t237).f3), .int .i32 ((rd_T32 t229 t237).f4), .int .i32 ((rd_T32 t229 t237).f5.f0), .int .i32 0, .int .i32 0, .int .i32 0]) ?_ 7 _ rfl; (with_reducible repeat first | apply bN | apply bD | apply bA); refine bP (cs := #[.int .u32 ((rd_T32 t229 t237).f0), .int .i32 ((rd_T32 t229 t237).f1), .int .i32 ((rd_T32 t229 t237).f2.f0), .int .i32 ((rd_T32 t229 t237).f2.f1), .int .i32 ((rd_T32 t229 t237).f3), .int .i32 ((rd_T32 t229 t237).f4), .int .i32 0, .int .i32 0, .int .i32 0, .int .i32 0]) ?_ 6 _ rfl; (with_reducible repeat first | apply bN | apply bD | apply bA); refine bP (cs := #[.int .u32 ((rd_T32 t229 t237).f0), .int .i32 ((rd_T32 t229 t237).f1), .int .i32 ((rd_T32 t229 t237).f2.f0), .int .i32 ((rd_T32 t229 t237).f2.f1), .int .i32 ((rd_T32 t229 t237).f3), .int .i32 0, .int .i32 0, .int .i32 0, .int .i32 0, .int .i32 0]) ?_ 5 _ rfl; (with_reducible repeat first | apply bN | apply bD | apply bA); refine bP (cs := #[.int .u32 ((rd_T32 t229 t237).f0), .int .i32 ((rd_T32 t229 t237).f1), .int .i32 ((rd_T32 t229 t237).f2.f0), .int .i32 ((rd_T32 t229 t237).f2.f1), .int .i32 0, .int .i32 0, .int .i32 0, .int .i32 0, .int .i32 0, .int .i32 0]) ?_ 4 _ rfl; (with_reducible repeat first | apply bN | apply bD | apply bA); refine bP (cs := #[.int .u32 ((rd_T32 t229 t237).f0), .int .i32 ((rd_T32 t229 t237).f1), .int .i32 ((rd_T32 t229 t237).f2.f0), .int .i32 0, .int .i32 0, .int .i32 0, .int .i32 0, .int .i32 0, .int .i32 0, .int .i32 0]) ?_ 3 _ rfl; (with_reducible repeat first | apply bN | apply bD | apply bA); refine bP (cs := #[.int .u32 ((rd_T32 t229 t237).f0), .int .i32 ((rd_T32 t229 t237).f1), .int .i32 0, .int .i32 0, .int .i32 0, .int .i32 0, .int .i32 0, .int .i32 0, .int .i32 0, .int .i32 0]) ?_ 2 _ rfl; (with_reducible repeat first | apply bN | apply bD | apply bA); refine bP (cs := #[.int .u32 ((rd_T32 t229 t237).f0), .int .i32 0, .int .i32 0, .int .i32 0, .int .i32 0, .int .i32 0, .int .i32 0, .int .i32 0, .int .i32 0, .int .i32 0]) ?_ 1 _ rfl; (with_reducible repeat first | apply bN | apply bD | apply bA); refine bP (cs := #[.int .u32 0, .int .i32 0, .int .i32 0, .int .i32 0, .int .i32 0, .int .i32 0, .int .i32 0, .int .i32 0, .int .i32 0, .int .i32 0]) ?_ 0 _ rfl; (with_reducible repeat first | apply bN | apply bD | apply bA); exact BK239.out)) : b239 ≠ b243)); have n7_ := aM ((by rw [hg]; exact Nat.ne_of_gt (bL (g := b239) (o := .cells #[.int .u32 ((rd_T32 t229 t237).f0), .int .i32 ((rd_T32 t229 t237).f1), .int .i32 ((rd_T32 t229 t237).f2.f0), .int .i32 ((rd_T32 t229 t237).f2.f1), .int .i32 ((rd_T32 t229 t237).f3), .int .i32 ((rd_T32 t229 t237).f4), .int .i32 ((rd_T32 t229 t237).f5.f0), .int .i32 ((rd_T32 t229 t237).f5.f1), .int .i32 ((rd_T32 t229 t237).f6.f0), .int .i32 ((rd_T32 t229 t237).f6.f1)] 32 (0, 0)) (by (with_reducible repeat first | apply bN | apply bD | apply bA); refine bP (cs := #[.int .u32 ((rd_T32 t229 t237).f0), .int .i32 ((rd_T32 t229 t237).f1), .int .i32 ((rd_T32 t229 t237).f2.f0), .int .i32 ((rd_T32 t229 t237).f2.f1), .int .i32 ((rd_T32 t229 t237).f3), .int .i32 ((rd_T32 t229 t237).f4), .int .i32 ((rd_T32 t229 t237).f5.f0), .int .i32 ((rd_T32 t229 t237).f5.f1), .int .i32 ((rd_T32 t229 t237).f6.f0), .int .i32 0]) ?_ 9 _ rfl; (with_reducible repeat first | apply bN | apply bD | apply bA); refine bP (cs := #[.int .u32 ((rd_T32 t229 t237).f0), .int .i32 ((rd_T32 t229 t237).f1), .int .i32 ((rd_T32 t229 t237).f2.f0), .int .i32 ((rd_T32 t229 t237).f2.f1), .int .i32 ((rd_T32 t229 t237).f3), .int .i32 ((rd_T32 t229 t237).f4), .int .i32 ((rd_T32 t229 t237).f5.f0), .int .i32 ((rd_T32 t229 t237).f5.f1), .int .i32 0, .int .i32 0]) ?_ 8 _ rfl; (with_reducible repeat first | apply bN | apply bD | apply bA); refine bP (cs := #[.int .u32 ((rd_T32 t229 t237).f0), .int .i32 ((rd_T32 t229 t237).f1), .int .i32 ((rd_T32 t229 t237).f2.f0), .int .i32 ((rd_T32 t229 t237).f2.f1), .int .i32 ((rd_T32 t229 t237).f3), .int .i32 ((rd_T32 t229 t237).f4), .int .i32 ((rd_T32 t229 t237).f5.f0), .int .i32 0, .int .i32 0, .int .i32 0]) ?_ 7 _ rfl; (with_reducible repeat first | apply bN | apply bD | apply bA); refine bP (cs := #[.int .u32 ((rd_T32 t229 t237).f0), .int .i32 ((rd_T32 t229 t237).f1), .int .i32 ((rd_T32 t229 t237).f2.f0), .int .i32 ((rd_T32 t229 t237).f2.f1), .int .i32 ((rd_T32 t229 t237).f3), .int .i32 ((rd_T32 t229 t237).f4), .int .i32 0, .int .i32 0, .int .i32 0, .int .i32 0]) ?_ 6 _ rfl; (with_reducible repeat first | apply bN | apply bD | apply bA); refine bP (cs := #[.int .u32 ((rd_T32 t229 t237).f0), .int .i32 ((rd_T32 t229 t237).f1), .int .i32 ((rd_T32 t229 t237).f2.f0), .int .i32 ((rd_T32 t229 t237).f2.f1), .int .i32 ((rd_T32 t229 t237).f3), .int .i32 0, .int .i32 0, .int .i32 0, .int .i32 0, .int .i32 0]) ?_ 5 _ rfl; (with_reducible repeat first | apply bN | apply bD | apply bA); refine bP (cs := #[.int .u32 ((rd_T32 t229 t237).f0), .int .i32 ((rd_T32 t229 t237).f1), .int .i32 ((rd_T32 t229 t237).f2.f0), .int .i32 ((rd_T32 t229 t237).f2.f1), .int .i32 0, .int .i32 0, .int .i32 0, .int .i32 0, .int .i32 0, .int .i32 0]) ?_ 4 _ rfl; (with_reducible repeat first | apply bN | apply bD | apply bA); refine bP (cs := #[.int .u32 ((rd_T32 t229 t237).f0), .int .i32 ((rd_T32 t229 t237).f1), .int .i32 ((rd_T32 t229 t237).f2.f0), .int .i32 0, .int .i32 0, .int .i32 0, .int .i32 0, .int .i32 0, .int .i32 0, .int .i32 0]) ?_ 3 _ rfl; (with_reducible repeat first | apply bN | apply bD | apply bA); refine bP (cs := #[.int .u32 ((rd_T32 t229 t237).f0), .int .i32 ((rd_T32 t229 t237).f1), .int .i32 0, .int .i32 0, .int .i32 0, .int .i32 0, .int .i32 0, .int .i32 0, .int .i32 0, .int .i32 0]) ?_ 2 _ rfl; (with_reducible repeat first | apply bN | apply bD | apply bA); refine bP (cs := #[.int .u32 ((rd_T32 t229 t237).f0), .int .i32 0, .int .i32 0, .int .i32 0, .int .i32 0, .int .i32 0, .int .i32 0, .int .i32 0, .int .i32 0, .int .i32 0]) ?_ 1 _ rfl; (with_reducible repeat first | apply bN | apply bD | apply bA); refine bP (cs := #[.int .u32 0, .int .i32 0, .int .i32 0, .int .i32 0, .int .i32 0, .int .i32 0, .int .i32 0, .int .i32 0, .int .i32 0, .int .i32 0]) ?_ 0 _ rfl; (with_reducible repeat first | apply bN | apply bD | apply bA); exact BK239.out)) : b243 ≠ b239)); clear HO_5; clear BK239; clear HB; have HO_5 := n0_; have BK239 := n1_; have HB := n2_; have BK243 := n3_; have GW243 := n4_; have GE243 := n5_; have N0_ := n6_; have N1_ := n7_; clear n0_ n1_ n2_ n3_ n4_ n5_ n6_ n7_; clear hb hbox hg; have hnb38 := N1_.out; have hnc38 := N0_.out; have hcz39_0 : w37.cell? ⟨b243, 0, none⟩ = some (.int .u32 0) := (bC BK243.out 0).trans rfl; have hcz39_1 : w37.cell? ⟨b243, 1, none⟩ = some (.int .i32 0) := (bC BK243.out 1).trans rfl; have hcz39_2 : w37.cell? ⟨b243, 2, none⟩ = some (.int .i32 0) := (bC BK243.out 2).trans rfl; have hcz39_3 : w37.cell? ⟨b243, 3, none⟩ = some (.int .i32 0) := (bC BK243.out 3).trans rfl; have hcz39_4 : w37.cell? ⟨b243, 4, none⟩ = some (.int .i32 0) := (bC BK243.out 4).trans rfl; have hcz39_5 : w37.cell? ⟨b243, 5, none⟩ = some (.int .i32 0) := (bC BK243.out 5).trans rfl; have hcz39_6 : w37.cell? ⟨b243, 6, none⟩ = some (.int .i32 0) := (bC BK243.out 6).trans rfl; have hcz39_7 : w37.cell? ⟨b243, 7, none⟩ = some (.int .i32 0) := (bC BK243.out 7).trans rfl; have hcz39_8 : w37.cell? ⟨b243, 8, none⟩ = some (.int .i32 0) := (bC BK243.out 8).trans rfl; have hcz39_9 : w37.cell? ⟨b243, 9, none⟩ = some (.int .i32 0) := (bC BK243.out 9).trans rfl; have hfz39_0 := bF BK243.out 0; have hfz39_1 := bF BK243.out 1; have hfz39_2 := bF BK243.out 2; have hfz39_3 := bF BK243.out 3; have hfz39_4 := bF BK243.out 4; have hfz39_5 := bF BK243.out 5; have hfz39_6 := bF BK243.out 6; have hfz39_7 := bF BK243.out 7; have hfz39_8 := bF BK243.out 8; have hfz39_9 := bF BK243.out 9))
               have n0_ : Aside0 (Kd.R k32 32 ((((((((((w37.setCell ⟨b243, 0, none⟩ (.int .u32 ((rd_T32 t229 t241).f0))).setCell ⟨b243, 1, none⟩ (.int .i32 ((rd_T32 t229 t241).f1))).setCell ⟨b243, 2, none⟩ (.int .i32 ((rd_T32 t229 t241).f2.f0))).setCell ⟨b243, 3, none⟩ (.int .i32 ((rd_T32 t229 t241).f2.f1))).setCell ⟨b243, 4, none⟩ (.int .i32 ((rd_T32 t229 t241).f3))).setCell ⟨b243, 5, none⟩ (.int .i32 ((rd_T32 t229 t241).f4))).setCell ⟨b243, 6, none⟩ (.int .i32 ((rd_T32 t229 t241).f5.f0))).setCell ⟨b243, 7, none⟩ (.int .i32 ((rd_T32 t229 t241).f5.f1))).setCell ⟨b243, 8, none⟩ (.int .i32 ((rd_T32 t229 t241).f6.f0))).setCell ⟨b243, 9, none⟩ (.int .i32 ((rd_T32 t229 t241).f6.f1))) w.heap.size (fun k_ => k_ ≠ b239 ∧ k_ ≠ b243) (.slice (some ad238) t229.length co34) t229) := ⟨by (with_reducible repeat (first | apply Kd.R_alloc | apply Kd.R_drewN | apply Kd.R_drew)); exact Kd.R_mono (Kd.R_far (p := ⟨b243, 9, none⟩) (Kd.R_far (p := ⟨b243, 8, none⟩) (Kd.R_far (p := ⟨b243, 7, none⟩) (Kd.R_far (p := ⟨b243, 6, none⟩) (Kd.R_far (p := ⟨b243, 5, none⟩) (Kd.R_far (p := ⟨b243, 4, none⟩) (Kd.R_far (p := ⟨b243, 3, none⟩) (Kd.R_far (p := ⟨b243, 2, none⟩) (Kd.R_far (p := ⟨b243, 1, none⟩) (Kd.R_far (p := ⟨b243, 0, none⟩) (Kd.R_mono HO_5.out (fun k_ hk => (⟨hk, hk.2⟩ : _ ∧ k_ ≠ b243))) (fun _ hk => hk.2) (.int .u32 ((rd_T32 t229 t241).f0))) (fun _ hk => hk.2) (.int .i32 ((rd_T32 t229 t241).f1))) (fun _ hk => hk.2) (.int .i32 ((rd_T32 t229 t241).f2.f0))) (fun _ hk => hk.2) (.int .i32 ((rd_T32 t229 t241).f2.f1))) (fun _ hk => hk.2) (.int .i32 ((rd_T32 t229 t241).f3))) (fun _ hk => hk.2) (.int .i32 ((rd_T32 t229 t241).f4))) (fun _ hk => hk.2) (.int .i32 ((rd_T32 t229 t241).f5.f0))) (fun _ hk => hk.2) (.int .i32 ((rd_T32 t229 t241).f5.f1))) (fun _ hk => hk.2) (.int .i32 ((rd_T32 t229 t241).f6.f0))) (fun _ hk => hk.2) (.int .i32 ((rd_T32 t229 t241).f6.f1))) (fun _ hk => ⟨hk.1.1.2, hk.1.2⟩)⟩
               have n1_ : Aside0 (((((((((((w37.setCell ⟨b243, 0, none⟩ (.int .u32 ((rd_T32 t229 t241).f0))).setCell ⟨b243, 1, none⟩ (.int .i32 ((rd_T32 t229 t241).f1))).setCell ⟨b243, 2, none⟩ (.int .i32 ((rd_T32 t229 t241).f2.f0))).setCell ⟨b243, 3, none⟩ (.int .i32 ((rd_T32 t229 t241).f2.f1))).setCell ⟨b243, 4, none⟩ (.int .i32 ((rd_T32 t229 t241).f3))).setCell ⟨b243, 5, none⟩ (.int .i32 ((rd_T32 t229 t241).f4))).setCell ⟨b243, 6, none⟩ (.int .i32 ((rd_T32 t229 t241).f5.f0))).setCell ⟨b243, 7, none⟩ (.int .i32 ((rd_T32 t229 t241).f5.f1))).setCell ⟨b243, 8, none⟩ (.int .i32 ((rd_T32 t229 t241).f6.f0))).setCell ⟨b243, 9, none⟩ (.int .i32 ((rd_T32 t229 t241).f6.f1))).heap[b239]? = some (.cells #[.int .u32 ((rd_T32 t229 t237).f0), .int .i32 ((rd_T32 t229 t237).f1), .int .i32 ((rd_T32 t229 t237).f2.f0), .int .i32 ((rd_T32 t229 t237).f2.f1), .int .i32 ((rd_T32 t229 t237).f3), .int .i32 ((rd_T32 t229 t237).f4), .int .i32 ((rd_T32 t229 t237).f5.f0), .int .i32 ((rd_T32 t229 t237).f5.f1), .int .i32 ((rd_T32 t229 t237).f6.f0), .int .i32 ((rd_T32 t229 t237).f6.f1)] 32 (0, 0))) := ⟨by (with_reducible repeat first | apply bN | apply bD | apply bA); refine bR ?_ N0_.out _; (with_reducible repeat first | apply bN | apply bD | apply bA); refine bR ?_ N0_.out _; (with_reducible repeat first | apply bN | apply bD | apply bA); refine bR ?_ N0_.out _; (with_reducible repeat first | apply bN | apply bD | apply bA); refine bR ?_ N0_.out _; (with_reducible repeat first | apply bN | apply bD | apply bA); refine bR ?_ N0_.out _; (with_reducible repeat first | apply bN | apply bD | apply bA); refine bR ?_ N0_.out _; (with_reducible repeat first | apply bN | apply bD | apply bA); refine bR ?_ N0_.out _; (with_reducible repeat first | apply bN | apply bD | apply bA); refine bR ?_ N0_.out _; (with_reducible repeat first | apply bN | apply bD | apply bA); refine bR ?_ N0_.out _; (with_reducible repeat first | apply bN | apply bD | apply bA); refine bR ?_ N0_.out _; (with_reducible repeat first | apply bN | apply bD | apply bA); exact BK239.out⟩
               have n2_ : Aside0 (((((((((((w37.setCell ⟨b243, 0, none⟩ (.int .u32 ((rd_T32 t229 t241).f0))).setCell ⟨b243, 1, none⟩ (.int .i32 ((rd_T32 t229 t241).f1))).setCell ⟨b243, 2, none⟩ (.int .i32 ((rd_T32 t229 t241).f2.f0))).setCell ⟨b243, 3, none⟩ (.int .i32 ((rd_T32 t229 t241).f2.f1))).setCell ⟨b243, 4, none⟩ (.int .i32 ((rd_T32 t229 t241).f3))).setCell ⟨b243, 5, none⟩ (.int .i32 ((rd_T32 t229 t241).f4))).setCell ⟨b243, 6, none⟩ (.int .i32 ((rd_T32 t229 t241).f5.f0))).setCell ⟨b243, 7, none⟩ (.int .i32 ((rd_T32 t229 t241).f5.f1))).setCell ⟨b243, 8, none⟩ (.int .i32 ((rd_T32 t229 t241).f6.f0))).setCell ⟨b243, 9, none⟩ (.int .i32 ((rd_T32 t229 t241).f6.f1))).heap[b243]? = some (.cells #[.int .u32 ((rd_T32 t229 t241).f0), .int .i32 ((rd_T32 t229 t241).f1), .int .i32 ((rd_T32 t229 t241).f2.f0), .int .i32 ((rd_T32 t229 t241).f2.f1), .int .i32 ((rd_T32 t229 t241).f3), .int .i32 ((rd_T32 t229 t241).f4), .int .i32 ((rd_T32 t229 t241).f5.f0), .int .i32 ((rd_T32 t229 t241).f5.f1), .int .i32 ((rd_T32 t229 t241).f6.f0), .int .i32 ((rd_T32 t229 t241).f6.f1)] 32 (0, 0))) := ⟨by (with_reducible repeat first | apply bN | apply bD | apply bA); refine bP (cs := #[.int .u32 ((rd_T32 t229 t241).f0), .int .i32 ((rd_T32 t229 t241).f1), .int .i32 ((rd_T32 t229 t241).f2.f0), .int .i32 ((rd_T32 t229 t241).f2.f1), .int .i32 ((rd_T32 t229 t241).f3), .int .i32 ((rd_T32 t229 t241).f4), .int .i32 ((rd_T32 t229 t241).f5.f0), .int .i32 ((rd_T32 t229 t241).f5.f1), .int .i32 ((rd_T32 t229 t241).f6.f0), .int .i32 0]) ?_ 9 _ rfl; (with_reducible repeat first | apply bN | apply bD | apply bA); refine bP (cs := #[.int .u32 ((rd_T32 t229 t241).f0), .int .i32 ((rd_T32 t229 t241).f1), .int .i32 ((rd_T32 t229 t241).f2.f0), .int .i32 ((rd_T32 t229 t241).f2.f1), .int .i32 ((rd_T32 t229 t241).f3), .int .i32 ((rd_T32 t229 t241).f4), .int .i32 ((rd_T32 t229 t241).f5.f0), .int .i32 ((rd_T32 t229 t241).f5.f1), .int .i32 0, .int .i32 0]) ?_ 8 _ rfl; (with_reducible repeat first | apply bN | apply bD | apply bA); refine bP (cs := #[.int .u32 ((rd_T32 t229 t241).f0), .int .i32 ((rd_T32 t229 t241).f1), .int .i32 ((rd_T32 t229 t241).f2.f0), .int .i32 ((rd_T32 t229 t241).f2.f1), .int .i32 ((rd_T32 t229 t241).f3), .int .i32 ((rd_T32 t229 t241).f4), .int .i32 ((rd_T32 t229 t241).f5.f0), .int .i32 0, .int .i32 0, .int .i32 0]) ?_ 7 _ rfl; (with_reducible repeat first | apply bN | apply bD | apply bA); refine bP (cs := #[.int .u32 ((rd_T32 t229 t241).f0), .int .i32 ((rd_T32 t229 t241).f1), .int .i32 ((rd_T32 t229 t241).f2.f0), .int .i32 ((rd_T32 t229 t241).f2.f1), .int .i32 ((rd_T32 t229 t241).f3), .int .i32 ((rd_T32 t229 t241).f4), .int .i32 0, .int .i32 0, .int .i32 0, .int .i32 0]) ?_ 6 _ rfl; (with_reducible repeat first | apply bN | apply bD | apply bA); refine bP (cs := #[.int .u32 ((rd_T32 t229 t241).f0), .int .i32 ((rd_T32 t229 t241).f1), .int .i32 ((rd_T32 t229 t241).f2.f0), .int .i32 ((rd_T32 t229 t241).f2.f1), .int .i32 ((rd_T32 t229 t241).f3), .int .i32 0, .int .i32 0, .int .i32 0, .int .i32 0, .int .i32 0]) ?_ 5 _ rfl; (with_reducible repeat first | apply bN | apply bD | apply bA); refine bP (cs := #[.int .u32 ((rd_T32 t229 t241).f0), .int .i32 ((rd_T32 t229 t241).f1), .int .i32 ((rd_T32 t229 t241).f2.f0), .int .i32 ((rd_T32 t229 t241).f2.f1), .int .i32 0, .int .i32 0, .int .i32 0, .int .i32 0, .int .i32 0, .int .i32 0]) ?_ 4 _ rfl; (with_reducible repeat first | apply bN | apply bD | apply bA); refine bP (cs := #[.int .u32 ((rd_T32 t229 t241).f0), .int .i32 ((rd_T32 t229 t241).f1), .int .i32 ((rd_T32 t229 t241).f2.f0), .int .i32 0, .int .i32 0, .int .i32 0, .int .i32 0, .int .i32 0, .int .i32 0, .int .i32 0]) ?_ 3 _ rfl; (with_reducible repeat first | apply bN | apply bD | apply bA); refine bP (cs := #[.int .u32 ((rd_T32 t229 t241).f0), .int .i32 ((rd_T32 t229 t241).f1), .int .i32 0, .int .i32 0, .int .i32 0, .int .i32 0, .int .i32 0, .int .i32 0, .int .i32 0, .int .i32 0]) ?_ 2 _ rfl; (with_reducible repeat first | apply bN | apply bD | apply bA); refine bP (cs := #[.int .u32 ((rd_T32 t229 t241).f0), .int .i32 0, .int .i32 0, .int .i32 0, .int .i32 0, .int .i32 0, .int .i32 0, .int .i32 0, .int .i32 0, .int .i32 0]) ?_ 1 _ rfl; (with_reducible repeat first | apply bN | apply bD | apply bA); refine bP (cs := #[.int .u32 0, .int .i32 0, .int .i32 0, .int .i32 0, .int .i32 0, .int .i32 0, .int .i32 0, .int .i32 0, .int .i32 0, .int .i32 0]) ?_ 0 _ rfl; (with_reducible repeat first | apply bN | apply bD | apply bA); exact BK243.out⟩
               have n3_ : Aside0 (Below w.heap.size w ((((((((((w37.setCell ⟨b243, 0, none⟩ (.int .u32 ((rd_T32 t229 t241).f0))).setCell ⟨b243, 1, none⟩ (.int .i32 ((rd_T32 t229 t241).f1))).setCell ⟨b243, 2, none⟩ (.int .i32 ((rd_T32 t229 t241).f2.f0))).setCell ⟨b243, 3, none⟩ (.int .i32 ((rd_T32 t229 t241).f2.f1))).setCell ⟨b243, 4, none⟩ (.int .i32 ((rd_T32 t229 t241).f3))).setCell ⟨b243, 5, none⟩ (.int .i32 ((rd_T32 t229 t241).f4))).setCell ⟨b243, 6, none⟩ (.int .i32 ((rd_T32 t229 t241).f5.f0))).setCell ⟨b243, 7, none⟩ (.int .i32 ((rd_T32 t229 t241).f5.f1))).setCell ⟨b243, 8, none⟩ (.int .i32 ((rd_T32 t229 t241).f6.f0))).setCell ⟨b243, 9, none⟩ (.int .i32 ((rd_T32 t229 t241).f6.f1)))) := ⟨by repeat (first | (with_reducible first | exact HB.out | apply lA | apply lN | apply lD | refine lS ?_ GE239.out | refine lS ?_ GE243.out) | exact HB.out)⟩
               (try clear HO_5)
               (try clear BK239)
               (try clear BK243)
               (try clear HB)
               generalize ((((((((((w37.setCell ⟨b243, 0, none⟩ (.int .u32 ((rd_T32 t229 t241).f0))).setCell ⟨b243, 1, none⟩ (.int .i32 ((rd_T32 t229 t241).f1))).setCell ⟨b243, 2, none⟩ (.int .i32 ((rd_T32 t229 t241).f2.f0))).setCell ⟨b243, 3, none⟩ (.int .i32 ((rd_T32 t229 t241).f2.f1))).setCell ⟨b243, 4, none⟩ (.int .i32 ((rd_T32 t229 t241).f3))).setCell ⟨b243, 5, none⟩ (.int .i32 ((rd_T32 t229 t241).f4))).setCell ⟨b243, 6, none⟩ (.int .i32 ((rd_T32 t229 t241).f5.f0))).setCell ⟨b243, 7, none⟩ (.int .i32 ((rd_T32 t229 t241).f5.f1))).setCell ⟨b243, 8, none⟩ (.int .i32 ((rd_T32 t229 t241).f6.f0))).setCell ⟨b243, 9, none⟩ (.int .i32 ((rd_T32 t229 t241).f6.f1))) = w40 at n0_ n1_ n2_ n3_ ⊢
               have HO_5 := n0_
               have BK239 := n1_
               have BK243 := n2_
               have HB := n3_
               clear n0_ n1_ n2_ n3_
               have n0_ := aM (Kd.R_drew HO_5.out)
               have n1_ := aM (bD BK239.out)
               have n2_ := aM (bD BK243.out)
               have n3_ := aM (lD HB.out)
               clear HO_5
               clear BK239
               clear BK243
               clear HB
               have HO_5 := n0_
               have BK239 := n1_
               have BK243 := n2_
               have HB := n3_
               clear n0_ n1_ n2_ n3_
               have p244 : 0 ≤ (x7_2 : Int) := of_decide_eq_true (by first | (with_reducible assumption) | assumption)
               have q244 : x7_2 < (l1.length : Int) := of_decide_eq_true (by first | (with_reducible assumption) | assumption)
               obtain ⟨ad244, e244, hx244_0, hx244_1, hx244_2, hx244_3, hx244_4⟩ := at_T37 HR1.out x7_2 p244 q244
               have hw244_4 := hx244_4
               have hw244_3 := hx244_3
               have hw244_2 := hx244_2
               have hw244_1 := hx244_1
               have hw244_0 := hx244_0
               obtain rfl : ad236 = ad244 := (by injection e244)
               replace hx244_0 := (HB.out.cell (World.block_lt_of_cell? w _ hx244_0)).trans hx244_0
               replace hx244_1 := (HB.out.cell (World.block_lt_of_cell? w _ hx244_1)).trans hx244_1
               replace hx244_2 := (HB.out.cell (World.block_lt_of_cell? w _ hx244_2)).trans hx244_2
               replace hx244_3 := (HB.out.cell (World.block_lt_of_cell? w _ hx244_3)).trans hx244_3
               replace hx244_4 := (HB.out.cell (World.block_lt_of_cell? w _ hx244_4)).trans hx244_4
               replace p244 := eq_true p244
               replace q244 := eq_true q244
               have p246 : 0 ≤ (x7_2 : Int) := of_decide_eq_true (by first | (with_reducible assumption) | assumption)
               have q246 : x7_2 < (l1.length : Int) := of_decide_eq_true (by first | (with_reducible assumption) | assumption)
               obtain ⟨ad246, e246, hx246_0, hx246_1, hx246_2, hx246_3, hx246_4⟩ := at_T37 HR1.out x7_2 p246 q246
               have hw246_4 := hx246_4
               have hw246_3 := hx246_3
               have hw246_2 := hx246_2
               have hw246_1 := hx246_1
               have hw246_0 := hx246_0
               obtain rfl : ad236 = ad246 := (by injection e246)
               replace hx246_0 := (HB.out.cell (World.block_lt_of_cell? w _ hx246_0)).trans hx246_0
               replace hx246_1 := (HB.out.cell (World.block_lt_of_cell? w _ hx246_1)).trans hx246_1
               replace hx246_2 := (HB.out.cell (World.block_lt_of_cell? w _ hx246_2)).trans hx246_2
               replace hx246_3 := (HB.out.cell (World.block_lt_of_cell? w _ hx246_3)).trans hx246_3
               replace hx246_4 := (HB.out.cell (World.block_lt_of_cell? w _ hx246_4)).trans hx246_4
               replace p246 := eq_true p246
               replace q246 := eq_true q246
               have p248 : 0 ≤ (x7_2 : Int) := of_decide_eq_true (by first | (with_reducible assumption) | assumption)
               have q248 : x7_2 < (l1.length : Int) := of_decide_eq_true (by first | (with_reducible assumption) | assumption)
               obtain ⟨ad248, e248, hx248_0, hx248_1, hx248_2, hx248_3, hx248_4⟩ := at_T37 HR1.out x7_2 p248 q248
               have hw248_4 := hx248_4
               have hw248_3 := hx248_3
               have hw248_2 := hx248_2
               have hw248_1 := hx248_1
               have hw248_0 := hx248_0
               obtain rfl : ad236 = ad248 := (by injection e248)
               replace hx248_0 := (HB.out.cell (World.block_lt_of_cell? w _ hx248_0)).trans hx248_0
               replace hx248_1 := (HB.out.cell (World.block_lt_of_cell? w _ hx248_1)).trans hx248_1
               replace hx248_2 := (HB.out.cell (World.block_lt_of_cell? w _ hx248_2)).trans hx248_2
               replace hx248_3 := (HB.out.cell (World.block_lt_of_cell? w _ hx248_3)).trans hx248_3
               replace hx248_4 := (HB.out.cell (World.block_lt_of_cell? w _ hx248_4)).trans hx248_4
               replace p248 := eq_true p248
               replace q248 := eq_true q248
               have p250 : 0 ≤ (x7_2 : Int) := of_decide_eq_true (by first | (with_reducible assumption) | assumption)
               have q250 : x7_2 < (l1.length : Int) := of_decide_eq_true (by first | (with_reducible assumption) | assumption)
               obtain ⟨ad250, e250, hx250_0, hx250_1, hx250_2, hx250_3, hx250_4⟩ := at_T37 HR1.out x7_2 p250 q250
               have hw250_4 := hx250_4
               have hw250_3 := hx250_3
               have hw250_2 := hx250_2
               have hw250_1 := hx250_1
               have hw250_0 := hx250_0
               obtain rfl : ad236 = ad250 := (by injection e250)
               replace hx250_0 := (HB.out.cell (World.block_lt_of_cell? w _ hx250_0)).trans hx250_0
               replace hx250_1 := (HB.out.cell (World.block_lt_of_cell? w _ hx250_1)).trans hx250_1
               replace hx250_2 := (HB.out.cell (World.block_lt_of_cell? w _ hx250_2)).trans hx250_2
               replace hx250_3 := (HB.out.cell (World.block_lt_of_cell? w _ hx250_3)).trans hx250_3
               replace hx250_4 := (HB.out.cell (World.block_lt_of_cell? w _ hx250_4)).trans hx250_4
               replace p250 := eq_true p250
               replace q250 := eq_true q250
               have p252 : 0 ≤ (x7_2 : Int) := of_decide_eq_true (by first | (with_reducible assumption) | assumption)
               have q252 : x7_2 < (l1.length : Int) := of_decide_eq_true (by first | (with_reducible assumption) | assumption)
               obtain ⟨ad252, e252, hx252_0, hx252_1, hx252_2, hx252_3, hx252_4⟩ := at_T37 HR1.out x7_2 p252 q252
               have hw252_4 := hx252_4
               have hw252_3 := hx252_3
               have hw252_2 := hx252_2
               have hw252_1 := hx252_1
               have hw252_0 := hx252_0
               obtain rfl : ad236 = ad252 := (by injection e252)
               replace hx252_0 := (HB.out.cell (World.block_lt_of_cell? w _ hx252_0)).trans hx252_0
               replace hx252_1 := (HB.out.cell (World.block_lt_of_cell? w _ hx252_1)).trans hx252_1
               replace hx252_2 := (HB.out.cell (World.block_lt_of_cell? w _ hx252_2)).trans hx252_2
               replace hx252_3 := (HB.out.cell (World.block_lt_of_cell? w _ hx252_3)).trans hx252_3
               replace hx252_4 := (HB.out.cell (World.block_lt_of_cell? w _ hx252_4)).trans hx252_4
               replace p252 := eq_true p252
               replace q252 := eq_true q252
               have p254 : 0 ≤ (x7_2 : Int) := of_decide_eq_true (by first | (with_reducible assumption) | assumption)
               have q254 : x7_2 < (l1.length : Int) := of_decide_eq_true (by first | (with_reducible assumption) | assumption)
               obtain ⟨ad254, e254, hx254_0, hx254_1, hx254_2, hx254_3, hx254_4⟩ := at_T37 HR1.out x7_2 p254 q254
               have hw254_4 := hx254_4
               have hw254_3 := hx254_3
               have hw254_2 := hx254_2
               have hw254_1 := hx254_1
               have hw254_0 := hx254_0
               obtain rfl : ad236 = ad254 := (by injection e254)
               replace hx254_0 := (HB.out.cell (World.block_lt_of_cell? w _ hx254_0)).trans hx254_0
               replace hx254_1 := (HB.out.cell (World.block_lt_of_cell? w _ hx254_1)).trans hx254_1
               replace hx254_2 := (HB.out.cell (World.block_lt_of_cell? w _ hx254_2)).trans hx254_2
               replace hx254_3 := (HB.out.cell (World.block_lt_of_cell? w _ hx254_3)).trans hx254_3
               replace hx254_4 := (HB.out.cell (World.block_lt_of_cell? w _ hx254_4)).trans hx254_4
               replace p254 := eq_true p254
               replace q254 := eq_true q254
               refine start_ (n := 53) (S := fun w' => w'.cell? ⟨b239, 0, none⟩ = some (.int .u32 ((rd_T32 t229 t237).f0)) ∧ w'.cell? ⟨b239, 1, none⟩ = some (.int .i32 ((rd_T32 t229 t237).f1)) ∧ w'.cell? ⟨b239, 2, none⟩ = some (.int .i32 ((rd_T32 t229 t237).f2.f0)) ∧ w'.cell? ⟨b239, 3, none⟩ = some (.int .i32 ((rd_T32 t229 t237).f2.f1)) ∧ w'.cell? ⟨b239, 4, none⟩ = some (.int .i32 ((rd_T32 t229 t237).f3)) ∧ w'.cell? ⟨b239, 5, none⟩ = some (.int .i32 ((rd_T32 t229 t237).f4)) ∧ w'.cell? ⟨b239, 6, none⟩ = some (.int .i32 ((rd_T32 t229 t237).f5.f0)) ∧ w'.cell? ⟨b239, 7, none⟩ = some (.int .i32 ((rd_T32 t229 t237).f5.f1)) ∧ w'.cell? ⟨b239, 8, none⟩ = some (.int .i32 ((rd_T32 t229 t237).f6.f0)) ∧ w'.cell? ⟨b239, 9, none⟩ = some (.int .i32 ((rd_T32 t229 t237).f6.f1)) ∧ w'.cell? ⟨b243, 0, none⟩ = some (.int .u32 ((rd_T32 t229 t241).f0)) ∧ w'.cell? ⟨b243, 1, none⟩ = some (.int .i32 ((rd_T32 t229 t241).f1)) ∧ w'.cell? ⟨b243, 2, none⟩ = some (.int .i32 ((rd_T32 t229 t241).f2.f0)) ∧ w'.cell? ⟨b243, 3, none⟩ = some (.int .i32 ((rd_T32 t229 t241).f2.f1)) ∧ w'.cell? ⟨b243, 4, none⟩ = some (.int .i32 ((rd_T32 t229 t241).f3)) ∧ w'.cell? ⟨b243, 5, none⟩ = some (.int .i32 ((rd_T32 t229 t241).f4)) ∧ w'.cell? ⟨b243, 6, none⟩ = some (.int .i32 ((rd_T32 t229 t241).f5.f0)) ∧ w'.cell? ⟨b243, 7, none⟩ = some (.int .i32 ((rd_T32 t229 t241).f5.f1)) ∧ w'.cell? ⟨b243, 8, none⟩ = some (.int .i32 ((rd_T32 t229 t241).f6.f0)) ∧ w'.cell? ⟨b243, 9, none⟩ = some (.int .i32 ((rd_T32 t229 t241).f6.f1)) ∧ w'.cell? (ad236.add ((x7_2).toNat * 5)) = some (.int .u32 ((rd_T37 l1 x7_2).f0.f0)) ∧ w'.cell? ⟨(ad236.add ((x7_2).toNat * 5)).block, (ad236.add ((x7_2).toNat * 5)).off + 1, none⟩ = some (.int .u32 ((rd_T37 l1 x7_2).f0.f1)) ∧ w'.cell? ⟨(ad236.add ((x7_2).toNat * 5)).block, (ad236.add ((x7_2).toNat * 5)).off + 2, none⟩ = some (.int .i32 ((rd_T37 l1 x7_2).f1.f0)) ∧ w'.cell? ⟨(ad236.add ((x7_2).toNat * 5)).block, (ad236.add ((x7_2).toNat * 5)).off + 3, none⟩ = some (.int .i32 ((rd_T37 l1 x7_2).f1.f1)) ∧ w'.cell? ⟨(ad236.add ((x7_2).toNat * 5)).block, (ad236.add ((x7_2).toNat * 5)).off + 4, none⟩ = some (.int .i32 ((rd_T37 l1 x7_2).f2)) ∧ w'.cell? (ad236.add ((x7_2).toNat * 5)) = some (.int .u32 ((rd_T37 l1 x7_2).f0.f0)) ∧ w'.cell? ⟨(ad236.add ((x7_2).toNat * 5)).block, (ad236.add ((x7_2).toNat * 5)).off + 1, none⟩ = some (.int .u32 ((rd_T37 l1 x7_2).f0.f1)) ∧ w'.cell? ⟨(ad236.add ((x7_2).toNat * 5)).block, (ad236.add ((x7_2).toNat * 5)).off + 2, none⟩ = some (.int .i32 ((rd_T37 l1 x7_2).f1.f0)) ∧ w'.cell? ⟨(ad236.add ((x7_2).toNat * 5)).block, (ad236.add ((x7_2).toNat * 5)).off + 3, none⟩ = some (.int .i32 ((rd_T37 l1 x7_2).f1.f1)) ∧ w'.cell? ⟨(ad236.add ((x7_2).toNat * 5)).block, (ad236.add ((x7_2).toNat * 5)).off + 4, none⟩ = some (.int .i32 ((rd_T37 l1 x7_2).f2)) ∧ w'.cell? (ad236.add ((x7_2).toNat * 5)) = some (.int .u32 ((rd_T37 l1 x7_2).f0.f0)) ∧ w'.cell? ⟨(ad236.add ((x7_2).toNat * 5)).block, (ad236.add ((x7_2).toNat * 5)).off + 1, none⟩ = some (.int .u32 ((rd_T37 l1 x7_2).f0.f1)) ∧ w'.cell? ⟨(ad236.add ((x7_2).toNat * 5)).block, (ad236.add ((x7_2).toNat * 5)).off + 2, none⟩ = some (.int .i32 ((rd_T37 l1 x7_2).f1.f0)) ∧ w'.cell? ⟨(ad236.add ((x7_2).toNat * 5)).block, (ad236.add ((x7_2).toNat * 5)).off + 3, none⟩ = some (.int .i32 ((rd_T37 l1 x7_2).f1.f1)) ∧ w'.cell? ⟨(ad236.add ((x7_2).toNat * 5)).block, (ad236.add ((x7_2).toNat * 5)).off + 4, none⟩ = some (.int .i32 ((rd_T37 l1 x7_2).f2)) ∧ w'.cell? (ad236.add ((x7_2).toNat * 5)) = some (.int .u32 ((rd_T37 l1 x7_2).f0.f0)) ∧ w'.cell? ⟨(ad236.add ((x7_2).toNat * 5)).block, (ad236.add ((x7_2).toNat * 5)).off + 1, none⟩ = some (.int .u32 ((rd_T37 l1 x7_2).f0.f1)) ∧ w'.cell? ⟨(ad236.add ((x7_2).toNat * 5)).block, (ad236.add ((x7_2).toNat * 5)).off + 2, none⟩ = some (.int .i32 ((rd_T37 l1 x7_2).f1.f0)) ∧ w'.cell? ⟨(ad236.add ((x7_2).toNat * 5)).block, (ad236.add ((x7_2).toNat * 5)).off + 3, none⟩ = some (.int .i32 ((rd_T37 l1 x7_2).f1.f1)) ∧ w'.cell? ⟨(ad236.add ((x7_2).toNat * 5)).block, (ad236.add ((x7_2).toNat * 5)).off + 4, none⟩ = some (.int .i32 ((rd_T37 l1 x7_2).f2)) ∧ w'.cell? (ad236.add ((x7_2).toNat * 5)) = some (.int .u32 ((rd_T37 l1 x7_2).f0.f0)) ∧ w'.cell? ⟨(ad236.add ((x7_2).toNat * 5)).block, (ad236.add ((x7_2).toNat * 5)).off + 1, none⟩ = some (.int .u32 ((rd_T37 l1 x7_2).f0.f1)) ∧ w'.cell? ⟨(ad236.add ((x7_2).toNat * 5)).block, (ad236.add ((x7_2).toNat * 5)).off + 2, none⟩ = some (.int .i32 ((rd_T37 l1 x7_2).f1.f0)) ∧ w'.cell? ⟨(ad236.add ((x7_2).toNat * 5)).block, (ad236.add ((x7_2).toNat * 5)).off + 3, none⟩ = some (.int .i32 ((rd_T37 l1 x7_2).f1.f1)) ∧ w'.cell? ⟨(ad236.add ((x7_2).toNat * 5)).block, (ad236.add ((x7_2).toNat * 5)).off + 4, none⟩ = some (.int .i32 ((rd_T37 l1 x7_2).f2)) ∧ w'.cell? (ad236.add ((x7_2).toNat * 5)) = some (.int .u32 ((rd_T37 l1 x7_2).f0.f0)) ∧ w'.cell? ⟨(ad236.add ((x7_2).toNat * 5)).block, (ad236.add ((x7_2).toNat * 5)).off + 1, none⟩ = some (.int .u32 ((rd_T37 l1 x7_2).f0.f1)) ∧ w'.cell? ⟨(ad236.add ((x7_2).toNat * 5)).block, (ad236.add ((x7_2).toNat * 5)).off + 2, none⟩ = some (.int .i32 ((rd_T37 l1 x7_2).f1.f0)) ∧ w'.cell? ⟨(ad236.add ((x7_2).toNat * 5)).block, (ad236.add ((x7_2).toNat * 5)).off + 3, none⟩ = some (.int .i32 ((rd_T37 l1 x7_2).f1.f1)) ∧ w'.cell? ⟨(ad236.add ((x7_2).toNat * 5)).block, (ad236.add ((x7_2).toNat * 5)).off + 4, none⟩ = some (.int .i32 ((rd_T37 l1 x7_2).f2))) (ds := []) #[F,F,F,F,F,F,F,F,F,F,F,F,F,F,F,F,F,F,F,F,F,F,F,F,F,F,F,F,F,F,F,F,F,F,F,F,F,F,F,F,F,F,F,F,F,F,F,F,F,F,F,F,F] (by kernel_rfl) rfl rfl ⟨(bC BK239.out 0).trans rfl, (bC BK239.out 1).trans rfl, (bC BK239.out 2).trans rfl, (bC BK239.out 3).trans rfl, (bC BK239.out 4).trans rfl, (bC BK239.out 5).trans rfl, (bC BK239.out 6).trans rfl, (bC BK239.out 7).trans rfl, (bC BK239.out 8).trans rfl, (bC BK239.out 9).trans rfl, (bC BK243.out 0).trans rfl, (bC BK243.out 1).trans rfl, (bC BK243.out 2).trans rfl, (bC BK243.out 3).trans rfl, (bC BK243.out 4).trans rfl, (bC BK243.out 5).trans rfl, (bC BK243.out 6).trans rfl, (bC BK243.out 7).trans rfl, (bC BK243.out 8).trans rfl, (bC BK243.out 9).trans rfl, ((HB.out.cell (World.block_lt_of_cell? w _ hw244_0)).trans hw244_0), ((HB.out.cell (World.block_lt_of_cell? w _ hw244_1)).trans hw244_1), ((HB.out.cell (World.block_lt_of_cell? w _ hw244_2)).trans hw244_2), ((HB.out.cell (World.block_lt_of_cell? w _ hw244_3)).trans hw244_3), ((HB.out.cell (World.block_lt_of_cell? w _ hw244_4)).trans hw244_4), ((HB.out.cell (World.block_lt_of_cell? w _ hw246_0)).trans hw246_0), ((HB.out.cell (World.block_lt_of_cell? w _ hw246_1)).trans hw246_1), ((HB.out.cell (World.block_lt_of_cell? w _ hw246_2)).trans hw246_2), ((HB.out.cell (World.block_lt_of_cell? w _ hw246_3)).trans hw246_3), ((HB.out.cell (World.block_lt_of_cell? w _ hw246_4)).trans hw246_4), ((HB.out.cell (World.block_lt_of_cell? w _ hw248_0)).trans hw248_0), ((HB.out.cell (World.block_lt_of_cell? w _ hw248_1)).trans hw248_1), ((HB.out.cell (World.block_lt_of_cell? w _ hw248_2)).trans hw248_2), ((HB.out.cell (World.block_lt_of_cell? w _ hw248_3)).trans hw248_3), ((HB.out.cell (World.block_lt_of_cell? w _ hw248_4)).trans hw248_4), ((HB.out.cell (World.block_lt_of_cell? w _ hw250_0)).trans hw250_0), ((HB.out.cell (World.block_lt_of_cell? w _ hw250_1)).trans hw250_1), ((HB.out.cell (World.block_lt_of_cell? w _ hw250_2)).trans hw250_2), ((HB.out.cell (World.block_lt_of_cell? w _ hw250_3)).trans hw250_3), ((HB.out.cell (World.block_lt_of_cell? w _ hw250_4)).trans hw250_4), ((HB.out.cell (World.block_lt_of_cell? w _ hw252_0)).trans hw252_0), ((HB.out.cell (World.block_lt_of_cell? w _ hw252_1)).trans hw252_1), ((HB.out.cell (World.block_lt_of_cell? w _ hw252_2)).trans hw252_2), ((HB.out.cell (World.block_lt_of_cell? w _ hw252_3)).trans hw252_3), ((HB.out.cell (World.block_lt_of_cell? w _ hw252_4)).trans hw252_4), ((HB.out.cell (World.block_lt_of_cell? w _ hw254_0)).trans hw254_0), ((HB.out.cell (World.block_lt_of_cell? w _ hw254_1)).trans hw254_1), ((HB.out.cell (World.block_lt_of_cell? w _ hw254_2)).trans hw254_2), ((HB.out.cell (World.block_lt_of_cell? w _ hw254_3)).trans hw254_3), ((HB.out.cell (World.block_lt_of_cell? w _ hw254_4)).trans hw254_4)⟩ (fun hHeld => ?_); refine with_tabW billiardlaw18_CorrectMatchesReference.tab9 billiardlaw18_CorrectMatchesReference.bits9 (fun HT_ HW_ => ?_)
               generalize w40.drew = w41 at HO_5 BK239 BK243 HB hx244_0 hx244_1 hx244_2 hx244_3 hx244_4 hx246_0 hx246_1 hx246_2 hx246_3 hx246_4 hx248_0 hx248_1 hx248_2 hx248_3 hx248_4 hx250_0 hx250_1 hx250_2 hx250_3 hx250_4 hx252_0 hx252_1 hx252_2 hx252_3 hx252_4 hx254_0 hx254_1 hx254_2 hx254_3 hx254_4 hHeld ⊢
               refine pure_ (i := 0) (N := some 56) (v := ?_) (a' := ?_) #[T,F,F,F,F,F,F,F,F,F,F,F,F,F,F,F,F,F,F,F,F,F,F,F,F,F,F,F,F,F,F,F,F,F,F,F,F,F,F,F,F,F,F,F,F,F,F,F,F,F,F,F,F] rfl rfl (any_of HT_.out (by kernel_rfl)) (fun _ _ _ h => h) (Or.inl ⟨by rfl, ?_⟩) ?_ ?_
               rotate_left
               ·intro w'
                go_simp
                with_reducible rfl
               rotate_left
               ·simp only [Act.put, sA, sB, sC, i64_w, i32_w]
                rfl
               refine pure_ (i := 1) (N := some 57) (v := ?_) (a' := ?_) #[T,T,F,F,F,F,F,F,F,F,F,F,F,F,F,F,F,F,F,F,F,F,F,F,F,F,F,F,F,F,F,F,F,F,F,F,F,F,F,F,F,F,F,F,F,F,F,F,F,F,F,F,F] rfl rfl (any_of HT_.out (by kernel_rfl)) (fun _ _ _ h => h) (Or.inl ⟨by rfl, ?_⟩) ?_ ?_
               rotate_left
               ·intro w'
                go_simp
                with_reducible rfl
               rotate_left
               ·simp only [Act.put, sA, sB, sC, i64_w, i32_w]
                rfl
               refine pure_ (i := 2) (N := some 58) (v := ?_) (a' := ?_) #[T,T,T,F,F,F,F,F,F,F,F,F,F,F,F,F,F,F,F,F,F,F,F,F,F,F,F,F,F,F,F,F,F,F,F,F,F,F,F,F,F,F,F,F,F,F,F,F,F,F,F,F,F] rfl rfl (any_of HT_.out (by kernel_rfl)) (fun _ _ _ h => h) (Or.inl ⟨by rfl, ?_⟩) ?_ ?_
               rotate_left
               ·intro w'
                go_simp
                with_reducible rfl
               rotate_left
               ·simp only [Act.put, sA, sB, sC, i64_w, i32_w]
                rfl
               refine pure_ (i := 7) (N := some 63) (v := ?_) (a' := ?_) #[T,T,T,F,F,F,F,T,F,F,F,F,F,F,F,F,F,F,F,F,F,F,F,F,F,F,F,F,F,F,F,F,F,F,F,F,F,F,F,F,F,F,F,F,F,F,F,F,F,F,F,F,F] rfl rfl (any_of HT_.out (by kernel_rfl)) (fun _ _ _ h => h) (Or.inl ⟨by rfl, ?_⟩) ?_ ?_
               rotate_left
               ·intro w'
                go_simp
                with_reducible rfl
               rotate_left
               ·simp only [Act.put, sA, sB, sC, i64_w, i32_w]
                rfl
               refine pure_ (i := 8) (N := some 64) (v := ?_) (a' := ?_) #[T,T,T,F,F,F,F,T,T,F,F,F,F,F,F,F,F,F,F,F,F,F,F,F,F,F,F,F,F,F,F,F,F,F,F,F,F,F,F,F,F,F,F,F,F,F,F,F,F,F,F,F,F] rfl rfl (any_of HT_.out (by kernel_rfl)) (fun _ _ _ h => h) (Or.inl ⟨by rfl, ?_⟩) ?_ ?_
               rotate_left
               ·intro w'
                go_simp
                with_reducible rfl
               rotate_left
               ·simp only [Act.put, sA, sB, sC, i64_w, i32_w]
                rfl
               refine pure_ (i := 9) (N := some 65) (v := ?_) (a' := ?_) #[T,T,T,F,F,F,F,T,T,T,F,F,F,F,F,F,F,F,F,F,F,F,F,F,F,F,F,F,F,F,F,F,F,F,F,F,F,F,F,F,F,F,F,F,F,F,F,F,F,F,F,F,F] rfl rfl (any_of HT_.out (by kernel_rfl)) (fun _ _ _ h => h) (Or.inl ⟨by rfl, ?_⟩) ?_ ?_
               rotate_left
               ·intro w'
                go_simp
                with_reducible rfl
               rotate_left
               ·simp only [Act.put, sA, sB, sC, i64_w, i32_w]
                rfl
               refine take_ (i := 3) (N := some 59) (v := ?_) (a' := ?_) #[T,T,T,T,F,F,F,T,T,T,F,F,F,F,F,F,F,F,F,F,F,F,F,F,F,F,F,F,F,F,F,F,F,F,F,F,F,F,F,F,F,F,F,F,F,F,F,F,F,F,F,F,F] rfl rfl (take_ofW HT_.out HW_.out (by kernel_rfl)) (fun _ _ _ h => h) (Or.inl ⟨by rfl, ?_⟩) hHeld ?_ ?_
               rotate_left
               ·rintro w' ⟨s0, s1, s2, s3, s4, s5, s6, s7, s8, s9, s10, s11, s12, s13, s14, s15, s16, s17, s18, s19, s20, s21, s22, s23, s24, s25, s26, s27, s28, s29, s30, s31, s32, s33, s34, s35, s36, s37, s38, s39, s40, s41, s42, s43, s44, s45, s46, s47, s48, s49⟩
                go_simp
                with_reducible rfl
               rotate_left
               ·simp only [Act.put, sA, sB, sC, i64_w, i32_w]
                rfl
               refine take_ (i := 4) (N := some 60) (v := ?_) (a' := ?_) #[T,T,T,T,T,F,F,T,T,T,F,F,F,F,F,F,F,F,F,F,F,F,F,F,F,F,F,F,F,F,F,F,F,F,F,F,F,F,F,F,F,F,F,F,F,F,F,F,F,F,F,F,F] rfl rfl (take_ofW HT_.out HW_.out (by kernel_rfl)) (fun _ _ _ h => h) (Or.inl ⟨by rfl, ?_⟩) hHeld ?_ ?_
               rotate_left
               ·rintro w' ⟨s0, s1, s2, s3, s4, s5, s6, s7, s8, s9, s10, s11, s12, s13, s14, s15, s16, s17, s18, s19, s20, s21, s22, s23, s24, s25, s26, s27, s28, s29, s30, s31, s32, s33, s34, s35, s36, s37, s38, s39, s40, s41, s42, s43, s44, s45, s46, s47, s48, s49⟩
                go_simp
                with_reducible rfl
               rotate_left
               ·simp only [Act.put, sA, sB, sC, i64_w, i32_w]
                rfl
               refine take_ (i := 5) (N := some 61) (v := ?_) (a' := ?_) #[T,T,T,T,T,T,F,T,T,T,F,F,F,F,F,F,F,F,F,F,F,F,F,F,F,F,F,F,F,F,F,F,F,F,F,F,F,F,F,F,F,F,F,F,F,F,F,F,F,F,F,F,F] rfl rfl (take_ofW HT_.out HW_.out (by kernel_rfl)) (fun _ _ _ h => h) (Or.inl ⟨by rfl, ?_⟩) hHeld ?_ ?_
               rotate_left
               ·rintro w' ⟨s0, s1, s2, s3, s4, s5, s6, s7, s8, s9, s10, s11, s12, s13, s14, s15, s16, s17, s18, s19, s20, s21, s22, s23, s24, s25, s26, s27, s28, s29, s30, s31, s32, s33, s34, s35, s36, s37, s38, s39, s40, s41, s42, s43, s44, s45, s46, s47, s48, s49⟩
                go_simp
                with_reducible rfl
               rotate_left
               ·simp only [Act.put, sA, sB, sC, i64_w, i32_w]
                rfl
               refine take_ (i := 10) (N := some 66) (v := ?_) (a' := ?_) #[T,T,T,T,T,T,F,T,T,T,T,F,F,F,F,F,F,F,F,F,F,F,F,F,F,F,F,F,F,F,F,F,F,F,F,F,F,F,F,F,F,F,F,F,F,F,F,F,F,F,F,F,F] rfl rfl (take_ofW HT_.out HW_.out (by kernel_rfl)) (fun _ _ _ h => h) (Or.inl ⟨by rfl, ?_⟩) hHeld ?_ ?_
               rotate_left
               ·rintro w' ⟨s0, s1, s2, s3, s4, s5, s6, s7, s8, s9, s10, s11, s12, s13, s14, s15, s16, s17, s18, s19, s20, s21, s22, s23, s24, s25, s26, s27, s28, s29, s30, s31, s32, s33, s34, s35, s36, s37, s38, s39, s40, s41, s42, s43, s44, s45, s46, s47, s48, s49⟩
                go_simp
                with_reducible rfl
               rotate_left
               ·simp only [Act.put, sA, sB, sC, i64_w, i32_w]
                rfl
               refine take_ (i := 11) (N := some 67) (v := ?_) (a' := ?_) #[T,T,T,T,T,T,F,T,T,T,T,T,F,F,F,F,F,F,F,F,F,F,F,F,F,F,F,F,F,F,F,F,F,F,F,F,F,F,F,F,F,F,F,F,F,F,F,F,F,F,F,F,F] rfl rfl (take_ofW HT_.out HW_.out (by kernel_rfl)) (fun _ _ _ h => h) (Or.inl ⟨by rfl, ?_⟩) hHeld ?_ ?_
               rotate_left
               ·rintro w' ⟨s0, s1, s2, s3, s4, s5, s6, s7, s8, s9, s10, s11, s12, s13, s14, s15, s16, s17, s18, s19, s20, s21, s22, s23, s24, s25, s26, s27, s28, s29, s30, s31, s32, s33, s34, s35, s36, s37, s38, s39, s40, s41, s42, s43, s44, s45, s46, s47, s48, s49⟩
                go_simp
                with_reducible rfl
               rotate_left
               ·simp only [Act.put, sA, sB, sC, i64_w, i32_w]
                rfl
               refine take_ (i := 12) (N := some 68) (v := ?_) (a' := ?_) #[T,T,T,T,T,T,F,T,T,T,T,T,T,F,F,F,F,F,F,F,F,F,F,F,F,F,F,F,F,F,F,F,F,F,F,F,F,F,F,F,F,F,F,F,F,F,F,F,F,F,F,F,F] rfl rfl (take_ofW HT_.out HW_.out (by kernel_rfl)) (fun _ _ _ h => h) (Or.inl ⟨by rfl, ?_⟩) hHeld ?_ ?_
               rotate_left
               ·rintro w' ⟨s0, s1, s2, s3, s4, s5, s6, s7, s8, s9, s10, s11, s12, s13, s14, s15, s16, s17, s18, s19, s20, s21, s22, s23, s24, s25, s26, s27, s28, s29, s30, s31, s32, s33, s34, s35, s36, s37, s38, s39, s40, s41, s42, s43, s44, s45, s46, s47, s48, s49⟩
                go_simp
                with_reducible rfl
               rotate_left
               ·simp only [Act.put, sA, sB, sC, i64_w, i32_w]
                rfl
               refine one_ (i := 6) (N := some 62) #[T,T,T,T,T,T,T,T,T,T,T,T,T,F,F,F,F,F,F,F,F,F,F,F,F,F,F,F,F,F,F,F,F,F,F,F,F,F,F,F,F,F,F,F,F,F,F,F,F,F,F,F,F] rfl rfl (one_of HT_.out (by kernel_rfl)) (by decide) (fun K hK => ?_)
               refine goes_ Try.func10 (by kernel_rfl) rfl #[.agg #[.int .u32 ((rd_T37 l1 x7_2).f0.f0), .int .u32 ((rd_T37 l1 x7_2).f0.f1), .int .i32 ((rd_T37 l1 x7_2).f1.f0), .int .i32 ((rd_T37 l1 x7_2).f1.f1), .int .i32 ((rd_T37 l1 x7_2).f2)], .agg #[.int .u32 ((rd_T32 t229 t237).f0), .int .i32 ((rd_T32 t229 t237).f1), .int .i32 ((rd_T32 t229 t237).f2.f0), .int .i32 ((rd_T32 t229 t237).f2.f1), .int .i32 ((rd_T32 t229 t237).f3), .int .i32 ((rd_T32 t229 t237).f4), .int .i32 ((rd_T32 t229 t237).f5.f0), .int .i32 ((rd_T32 t229 t237).f5.f1), .int .i32 ((rd_T32 t229 t237).f6.f0), .int .i32 ((rd_T32 t229 t237).f6.f1)], .agg #[.int .u32 ((rd_T32 t229 t241).f0), .int .i32 ((rd_T32 t229 t241).f1), .int .i32 ((rd_T32 t229 t241).f2.f0), .int .i32 ((rd_T32 t229 t241).f2.f1), .int .i32 ((rd_T32 t229 t241).f3), .int .i32 ((rd_T32 t229 t241).f4), .int .i32 ((rd_T32 t229 t241).f5.f0), .int .i32 ((rd_T32 t229 t241).f5.f1), .int .i32 ((rd_T32 t229 t241).f6.f0), .int .i32 ((rd_T32 t229 t241).f6.f1)]] (by rfl) rfl rfl (by (try simp only [List.map_toArray, List.map_cons, List.map_nil]); first | done | rfl | (simp only [List.length_drop, List.length_take]; rfl)) ?_
               with_reducible refine (correct_Amount.calls ((rd_T37 l1 x7_2).f0.f0) ((rd_T37 l1 x7_2).f0.f1) ((rd_T37 l1 x7_2).f1.f0) ((rd_T37 l1 x7_2).f1.f1) ((rd_T37 l1 x7_2).f2) ((rd_T32 t229 t237).f0) ((rd_T32 t229 t237).f1) ((rd_T32 t229 t237).f2.f0) ((rd_T32 t229 t237).f2.f1) ((rd_T32 t229 t237).f3) ((rd_T32 t229 t237).f4) ((rd_T32 t229 t237).f5.f0) ((rd_T32 t229 t237).f5.f1) ((rd_T32 t229 t237).f6.f0) ((rd_T32 t229 t237).f6.f1) ((rd_T32 t229 t241).f0) ((rd_T32 t229 t241).f1) ((rd_T32 t229 t241).f2.f0) ((rd_T32 t229 t241).f2.f1) ((rd_T32 t229 t241).f3) ((rd_T32 t229 t241).f4) ((rd_T32 t229 t241).f5.f0) ((rd_T32 t229 t241).f5.f1) ((rd_T32 t229 t241).f6.f0) ((rd_T32 t229 t241).f6.f1) t245 _ A25.out).mono ?_
               rintro e w42 ⟨rfl, hb⟩
               refine ⟨_, rfl, ?_⟩
               have n0_ := aM (Kd.R_below (by (with_reducible repeat (first | apply Kd.R_alloc | apply Kd.R_drewN | apply Kd.R_drew)); exact HO_5.out) hb)
               have n1_ := aM (bB (by (with_reducible repeat first | apply bN | apply bD | apply bA); exact BK239.out) hb)
               have n2_ := aM (bB (by (with_reducible repeat first | apply bN | apply bD | apply bA); exact BK243.out) hb)
               have n3_ := aM (lT (by repeat (first | (with_reducible first | exact HB.out | apply lA | apply lN | apply lD | refine lS ?_ GE239.out | refine lS ?_ GE243.out) | exact HB.out)) hb)
               clear HO_5
               clear BK239
               clear BK243
               clear HB
               have HO_5 := n0_
               have BK239 := n1_
               have BK243 := n2_
               have HB := n3_
               clear n0_ n1_ n2_ n3_
               (try clear hb)
               (try clear hb2)
               (try clear hk)
               (try clear hi)
               refine hK.out _ _ ⟨(bC BK239.out 0).trans rfl, (bC BK239.out 1).trans rfl, (bC BK239.out 2).trans rfl, (bC BK239.out 3).trans rfl, (bC BK239.out 4).trans rfl, (bC BK239.out 5).trans rfl, (bC BK239.out 6).trans rfl, (bC BK239.out 7).trans rfl, (bC BK239.out 8).trans rfl, (bC BK239.out 9).trans rfl, (bC BK243.out 0).trans rfl, (bC BK243.out 1).trans rfl, (bC BK243.out 2).trans rfl, (bC BK243.out 3).trans rfl, (bC BK243.out 4).trans rfl, (bC BK243.out 5).trans rfl, (bC BK243.out 6).trans rfl, (bC BK243.out 7).trans rfl, (bC BK243.out 8).trans rfl, (bC BK243.out 9).trans rfl, ((HB.out.cell (World.block_lt_of_cell? w _ hw244_0)).trans hw244_0), ((HB.out.cell (World.block_lt_of_cell? w _ hw244_1)).trans hw244_1), ((HB.out.cell (World.block_lt_of_cell? w _ hw244_2)).trans hw244_2), ((HB.out.cell (World.block_lt_of_cell? w _ hw244_3)).trans hw244_3), ((HB.out.cell (World.block_lt_of_cell? w _ hw244_4)).trans hw244_4), ((HB.out.cell (World.block_lt_of_cell? w _ hw246_0)).trans hw246_0), ((HB.out.cell (World.block_lt_of_cell? w _ hw246_1)).trans hw246_1), ((HB.out.cell (World.block_lt_of_cell? w _ hw246_2)).trans hw246_2), ((HB.out.cell (World.block_lt_of_cell? w _ hw246_3)).trans hw246_3), ((HB.out.cell (World.block_lt_of_cell? w _ hw246_4)).trans hw246_4), ((HB.out.cell (World.block_lt_of_cell? w _ hw248_0)).trans hw248_0), ((HB.out.cell (World.block_lt_of_cell? w _ hw248_1)).trans hw248_1), ((HB.out.cell (World.block_lt_of_cell? w _ hw248_2)).trans hw248_2), ((HB.out.cell (World.block_lt_of_cell? w _ hw248_3)).trans hw248_3), ((HB.out.cell (World.block_lt_of_cell? w _ hw248_4)).trans hw248_4), ((HB.out.cell (World.block_lt_of_cell? w _ hw250_0)).trans hw250_0), ((HB.out.cell (World.block_lt_of_cell? w _ hw250_1)).trans hw250_1), ((HB.out.cell (World.block_lt_of_cell? w _ hw250_2)).trans hw250_2), ((HB.out.cell (World.block_lt_of_cell? w _ hw250_3)).trans hw250_3), ((HB.out.cell (World.block_lt_of_cell? w _ hw250_4)).trans hw250_4), ((HB.out.cell (World.block_lt_of_cell? w _ hw252_0)).trans hw252_0), ((HB.out.cell (World.block_lt_of_cell? w _ hw252_1)).trans hw252_1), ((HB.out.cell (World.block_lt_of_cell? w _ hw252_2)).trans hw252_2), ((HB.out.cell (World.block_lt_of_cell? w _ hw252_3)).trans hw252_3), ((HB.out.cell (World.block_lt_of_cell? w _ hw252_4)).trans hw252_4), ((HB.out.cell (World.block_lt_of_cell? w _ hw254_0)).trans hw254_0), ((HB.out.cell (World.block_lt_of_cell? w _ hw254_1)).trans hw254_1), ((HB.out.cell (World.block_lt_of_cell? w _ hw254_2)).trans hw254_2), ((HB.out.cell (World.block_lt_of_cell? w _ hw254_3)).trans hw254_3), ((HB.out.cell (World.block_lt_of_cell? w _ hw254_4)).trans hw254_4)⟩ (fun hHeld => ?_)
               clear hK K
               refine norm_ (a' := ?_) ?_ ?_
               rotate_left
               ·show Act.put _ (some 62) _ = _
                simp only [Act.put, sA, sB, sC, i64_w, i32_w]
                rfl
               refine one_ (i := 13) (N := some 69) #[T,T,T,T,T,T,T,T,T,T,T,T,T,T,F,F,F,F,F,F,F,F,F,F,F,F,F,F,F,F,F,F,F,F,F,F,F,F,F,F,F,F,F,F,F,F,F,F,F,F,F,F,F] rfl rfl (one_of HT_.out (by kernel_rfl)) (by decide) (fun K hK => ?_)
               refine goes_ Try.func11 (by kernel_rfl) rfl #[.agg #[.int .u32 ((rd_T37 l1 x7_2).f0.f0), .int .u32 ((rd_T37 l1 x7_2).f0.f1), .int .i32 ((rd_T37 l1 x7_2).f1.f0), .int .i32 ((rd_T37 l1 x7_2).f1.f1), .int .i32 ((rd_T37 l1 x7_2).f2)], .agg #[.int .u32 ((rd_T32 t229 t237).f0), .int .i32 ((rd_T32 t229 t237).f1), .int .i32 ((rd_T32 t229 t237).f2.f0), .int .i32 ((rd_T32 t229 t237).f2.f1), .int .i32 ((rd_T32 t229 t237).f3), .int .i32 ((rd_T32 t229 t237).f4), .int .i32 ((rd_T32 t229 t237).f5.f0), .int .i32 ((rd_T32 t229 t237).f5.f1), .int .i32 ((rd_T32 t229 t237).f6.f0), .int .i32 ((rd_T32 t229 t237).f6.f1)], .agg #[.int .u32 ((rd_T32 t229 t241).f0), .int .i32 ((rd_T32 t229 t241).f1), .int .i32 ((rd_T32 t229 t241).f2.f0), .int .i32 ((rd_T32 t229 t241).f2.f1), .int .i32 ((rd_T32 t229 t241).f3), .int .i32 ((rd_T32 t229 t241).f4), .int .i32 ((rd_T32 t229 t241).f5.f0), .int .i32 ((rd_T32 t229 t241).f5.f1), .int .i32 ((rd_T32 t229 t241).f6.f0), .int .i32 ((rd_T32 t229 t241).f6.f1)]] (by rfl) rfl rfl (by (try simp only [List.map_toArray, List.map_cons, List.map_nil]); first | done | rfl | (simp only [List.length_drop, List.length_take]; rfl)) ?_
               with_reducible refine (billiardref18_Amount.calls ((rd_T37 l1 x7_2).f0.f0) ((rd_T37 l1 x7_2).f0.f1) ((rd_T37 l1 x7_2).f1.f0) ((rd_T37 l1 x7_2).f1.f1) ((rd_T37 l1 x7_2).f2) ((rd_T32 t229 t237).f0) ((rd_T32 t229 t237).f1) ((rd_T32 t229 t237).f2.f0) ((rd_T32 t229 t237).f2.f1) ((rd_T32 t229 t237).f3) ((rd_T32 t229 t237).f4) ((rd_T32 t229 t237).f5.f0) ((rd_T32 t229 t237).f5.f1) ((rd_T32 t229 t237).f6.f0) ((rd_T32 t229 t237).f6.f1) ((rd_T32 t229 t241).f0) ((rd_T32 t229 t241).f1) ((rd_T32 t229 t241).f2.f0) ((rd_T32 t229 t241).f2.f1) ((rd_T32 t229 t241).f3) ((rd_T32 t229 t241).f4) ((rd_T32 t229 t241).f5.f0) ((rd_T32 t229 t241).f5.f1) ((rd_T32 t229 t241).f6.f0) ((rd_T32 t229 t241).f6.f1) t247 _ A26.out).mono ?_
               rintro e w43 ⟨rfl, hb⟩
               refine ⟨_, rfl, ?_⟩
               have n0_ := aM (Kd.R_below (by (with_reducible repeat (first | apply Kd.R_alloc | apply Kd.R_drewN | apply Kd.R_drew)); exact HO_5.out) hb)
               have n1_ := aM (bB (by (with_reducible repeat first | apply bN | apply bD | apply bA); exact BK239.out) hb)
               have n2_ := aM (bB (by (with_reducible repeat first | apply bN | apply bD | apply bA); exact BK243.out) hb)
               have n3_ := aM (lT (by repeat (first | (with_reducible first | exact HB.out | apply lA | apply lN | apply lD | refine lS ?_ GE239.out | refine lS ?_ GE243.out) | exact HB.out)) hb)
               clear HO_5
               clear BK239
               clear BK243
               clear HB
               have HO_5 := n0_
               have BK239 := n1_
               have BK243 := n2_
               have HB := n3_
               clear n0_ n1_ n2_ n3_
               (try clear hb)
               (try clear hb2)
               (try clear hk)
               (try clear hi)
               refine hK.out _ _ ⟨(bC BK239.out 0).trans rfl, (bC BK239.out 1).trans rfl, (bC BK239.out 2).trans rfl, (bC BK239.out 3).trans rfl, (bC BK239.out 4).trans rfl, (bC BK239.out 5).trans rfl, (bC BK239.out 6).trans rfl, (bC BK239.out 7).trans rfl, (bC BK239.out 8).trans rfl, (bC BK239.out 9).trans rfl, (bC BK243.out 0).trans rfl, (bC BK243.out 1).trans rfl, (bC BK243.out 2).trans rfl, (bC BK243.out 3).trans rfl, (bC BK243.out 4).trans rfl, (bC BK243.out 5).trans rfl, (bC BK243.out 6).trans rfl, (bC BK243.out 7).trans rfl, (bC BK243.out 8).trans rfl, (bC BK243.out 9).trans rfl, ((HB.out.cell (World.block_lt_of_cell? w _ hw244_0)).trans hw244_0), ((HB.out.cell (World.block_lt_of_cell? w _ hw244_1)).trans hw244_1), ((HB.out.cell (World.block_lt_of_cell? w _ hw244_2)).trans hw244_2), ((HB.out.cell (World.block_lt_of_cell? w _ hw244_3)).trans hw244_3), ((HB.out.cell (World.block_lt_of_cell? w _ hw244_4)).trans hw244_4), ((HB.out.cell (World.block_lt_of_cell? w _ hw246_0)).trans hw246_0), ((HB.out.cell (World.block_lt_of_cell? w _ hw246_1)).trans hw246_1), ((HB.out.cell (World.block_lt_of_cell? w _ hw246_2)).trans hw246_2), ((HB.out.cell (World.block_lt_of_cell? w _ hw246_3)).trans hw246_3), ((HB.out.cell (World.block_lt_of_cell? w _ hw246_4)).trans hw246_4), ((HB.out.cell (World.block_lt_of_cell? w _ hw248_0)).trans hw248_0), ((HB.out.cell (World.block_lt_of_cell? w _ hw248_1)).trans hw248_1), ((HB.out.cell (World.block_lt_of_cell? w _ hw248_2)).trans hw248_2), ((HB.out.cell (World.block_lt_of_cell? w _ hw248_3)).trans hw248_3), ((HB.out.cell (World.block_lt_of_cell? w _ hw248_4)).trans hw248_4), ((HB.out.cell (World.block_lt_of_cell? w _ hw250_0)).trans hw250_0), ((HB.out.cell (World.block_lt_of_cell? w _ hw250_1)).trans hw250_1), ((HB.out.cell (World.block_lt_of_cell? w _ hw250_2)).trans hw250_2), ((HB.out.cell (World.block_lt_of_cell? w _ hw250_3)).trans hw250_3), ((HB.out.cell (World.block_lt_of_cell? w _ hw250_4)).trans hw250_4), ((HB.out.cell (World.block_lt_of_cell? w _ hw252_0)).trans hw252_0), ((HB.out.cell (World.block_lt_of_cell? w _ hw252_1)).trans hw252_1), ((HB.out.cell (World.block_lt_of_cell? w _ hw252_2)).trans hw252_2), ((HB.out.cell (World.block_lt_of_cell? w _ hw252_3)).trans hw252_3), ((HB.out.cell (World.block_lt_of_cell? w _ hw252_4)).trans hw252_4), ((HB.out.cell (World.block_lt_of_cell? w _ hw254_0)).trans hw254_0), ((HB.out.cell (World.block_lt_of_cell? w _ hw254_1)).trans hw254_1), ((HB.out.cell (World.block_lt_of_cell? w _ hw254_2)).trans hw254_2), ((HB.out.cell (World.block_lt_of_cell? w _ hw254_3)).trans hw254_3), ((HB.out.cell (World.block_lt_of_cell? w _ hw254_4)).trans hw254_4)⟩ (fun hHeld => ?_)
               clear hK K
               refine norm_ (a' := ?_) ?_ ?_
               rotate_left
               ·show Act.put _ (some 69) _ = _
                simp only [Act.put, sA, sB, sC, i64_w, i32_w]
                rfl
               refine pure_ (i := 14) (N := some 70) (v := ?_) (a' := ?_) #[T,T,T,T,T,T,T,T,T,T,T,T,T,T,T,F,F,F,F,F,F,F,F,F,F,F,F,F,F,F,F,F,F,F,F,F,F,F,F,F,F,F,F,F,F,F,F,F,F,F,F,F,F] rfl rfl (any_of HT_.out (by kernel_rfl)) (fun _ _ _ h => h) (Or.inl ⟨by rfl, ?_⟩) ?_ ?_
               rotate_left
               ·intro w'
                go_simp
                with_reducible rfl
               rotate_left
               ·simp only [Act.put, sA, sB, sC, i64_w, i32_w]
                rfl
               refine pure_ (i := 15) (N := some 71) (v := ?_) (a' := ?_) #[T,T,T,T,T,T,T,T,T,T,T,T,T,T,T,T,F,F,F,F,F,F,F,F,F,F,F,F,F,F,F,F,F,F,F,F,F,F,F,F,F,F,F,F,F,F,F,F,F,F,F,F,F] rfl rfl (any_of HT_.out (by kernel_rfl)) (fun _ _ _ h => h) (Or.inl ⟨by rfl, ?_⟩) ?_ ?_
               rotate_left
               ·intro w'
                go_simp
                with_reducible rfl
               rotate_left
               ·simp only [Act.put, sA, sB, sC, i64_w, i32_w]
                rfl
               refine pure_ (i := 16) (N := some 72) (v := ?_) (a' := ?_) #[T,T,T,T,T,T,T,T,T,T,T,T,T,T,T,T,T,F,F,F,F,F,F,F,F,F,F,F,F,F,F,F,F,F,F,F,F,F,F,F,F,F,F,F,F,F,F,F,F,F,F,F,F] rfl rfl (any_of HT_.out (by kernel_rfl)) (fun _ _ _ h => h) (Or.inl ⟨by rfl, ?_⟩) ?_ ?_
               rotate_left
               ·intro w'
                go_simp
                with_reducible rfl
               rotate_left
               ·simp only [Act.put, sA, sB, sC, i64_w, i32_w]
                rfl
               refine pure_ (i := 17) (N := some 73) (v := ?_) (a' := ?_) #[T,T,T,T,T,T,T,T,T,T,T,T,T,T,T,T,T,T,F,F,F,F,F,F,F,F,F,F,F,F,F,F,F,F,F,F,F,F,F,F,F,F,F,F,F,F,F,F,F,F,F,F,F] rfl rfl (any_of HT_.out (by kernel_rfl)) (fun _ _ _ h => h) (Or.inl ⟨by rfl, ?_⟩) ?_ ?_
               rotate_left
               ·intro w'
                go_simp
                with_reducible rfl
               rotate_left
               ·simp only [Act.put, sA, sB, sC, i64_w, i32_w]
                rfl
               refine pure_ (i := 18) (N := some 74) (v := ?_) (a' := ?_) #[T,T,T,T,T,T,T,T,T,T,T,T,T,T,T,T,T,T,T,F,F,F,F,F,F,F,F,F,F,F,F,F,F,F,F,F,F,F,F,F,F,F,F,F,F,F,F,F,F,F,F,F,F] rfl rfl (any_of HT_.out (by kernel_rfl)) (fun _ _ _ h => h) (Or.inl ⟨by rfl, ?_⟩) ?_ ?_
               rotate_left
               ·intro w'
                go_simp
                with_reducible rfl
               rotate_left
               ·simp only [Act.put, sA, sB, sC, i64_w, i32_w]
                rfl
               refine pure_ (i := 23) (N := some 79) (v := ?_) (a' := ?_) #[T,T,T,T,T,T,T,T,T,T,T,T,T,T,T,T,T,T,T,F,F,F,F,T,F,F,F,F,F,F,F,F,F,F,F,F,F,F,F,F,F,F,F,F,F,F,F,F,F,F,F,F,F] rfl rfl (any_of HT_.out (by kernel_rfl)) (fun _ _ _ h => h) (Or.inl ⟨by rfl, ?_⟩) ?_ ?_
               rotate_left
               ·intro w'
                go_simp
                with_reducible rfl
               rotate_left
               ·simp only [Act.put, sA, sB, sC, i64_w, i32_w]
                rfl
               refine pure_ (i := 24) (N := some 80) (v := ?_) (a' := ?_) #[T,T,T,T,T,T,T,T,T,T,T,T,T,T,T,T,T,T,T,F,F,F,F,T,T,F,F,F,F,F,F,F,F,F,F,F,F,F,F,F,F,F,F,F,F,F,F,F,F,F,F,F,F] rfl rfl (any_of HT_.out (by kernel_rfl)) (fun _ _ _ h => h) (Or.inl ⟨by rfl, ?_⟩) ?_ ?_
               rotate_left
               ·intro w'
                go_simp
                with_reducible rfl
               rotate_left
               ·simp only [Act.put, sA, sB, sC, i64_w, i32_w]
                rfl
               refine pure_ (i := 25) (N := some 81) (v := ?_) (a' := ?_) #[T,T,T,T,T,T,T,T,T,T,T,T,T,T,T,T,T,T,T,F,F,F,F,T,T,T,F,F,F,F,F,F,F,F,F,F,F,F,F,F,F,F,F,F,F,F,F,F,F,F,F,F,F] rfl rfl (any_of HT_.out (by kernel_rfl)) (fun _ _ _ h => h) (Or.inl ⟨by rfl, ?_⟩) ?_ ?_
               rotate_left
               ·intro w'
                go_simp
                with_reducible rfl
               rotate_left
               ·simp only [Act.put, sA, sB, sC, i64_w, i32_w]
                rfl
               refine pure_ (i := 29) (N := some 85) (v := ?_) (a' := ?_) #[T,T,T,T,T,T,T,T,T,T,T,T,T,T,T,T,T,T,T,F,F,F,F,T,T,T,F,F,F,T,F,F,F,F,F,F,F,F,F,F,F,F,F,F,F,F,F,F,F,F,F,F,F] rfl rfl (any_of HT_.out (by kernel_rfl)) (fun _ _ _ h => h) (Or.inl ⟨by rfl, ?_⟩) ?_ ?_
               rotate_left
               ·intro w'
                go_simp
                with_reducible rfl
               rotate_left
               ·simp only [Act.put, sA, sB, sC, i64_w, i32_w]
                rfl
               refine take_ (i := 19) (N := some 75) (v := ?_) (a' := ?_) #[T,T,T,T,T,T,T,T,T,T,T,T,T,T,T,T,T,T,T,T,F,F,F,T,T,T,F,F,F,T,F,F,F,F,F,F,F,F,F,F,F,F,F,F,F,F,F,F,F,F,F,F,F] rfl rfl (take_ofW HT_.out HW_.out (by kernel_rfl)) (fun _ _ _ h => h) (Or.inl ⟨by rfl, ?_⟩) hHeld ?_ ?_
               rotate_left
               ·rintro w' ⟨s0, s1, s2, s3, s4, s5, s6, s7, s8, s9, s10, s11, s12, s13, s14, s15, s16, s17, s18, s19, s20, s21, s22, s23, s24, s25, s26, s27, s28, s29, s30, s31, s32, s33, s34, s35, s36, s37, s38, s39, s40, s41, s42, s43, s44, s45, s46, s47, s48, s49⟩
                go_simp
                with_reducible rfl
               rotate_left
               ·simp only [Act.put, sA, sB, sC, i64_w, i32_w]
                rfl
               refine take_ (i := 20) (N := some 76) (v := ?_) (a' := ?_) #[T,T,T,T,T,T,T,T,T,T,T,T,T,T,T,T,T,T,T,T,T,F,F,T,T,T,F,F,F,T,F,F,F,F,F,F,F,F,F,F,F,F,F,F,F,F,F,F,F,F,F,F,F] rfl rfl (take_ofW HT_.out HW_.out (by kernel_rfl)) (fun _ _ _ h => h) (Or.inl ⟨by rfl, ?_⟩) hHeld ?_ ?_
               rotate_left
               ·rintro w' ⟨s0, s1, s2, s3, s4, s5, s6, s7, s8, s9, s10, s11, s12, s13, s14, s15, s16, s17, s18, s19, s20, s21, s22, s23, s24, s25, s26, s27, s28, s29, s30, s31, s32, s33, s34, s35, s36, s37, s38, s39, s40, s41, s42, s43, s44, s45, s46, s47, s48, s49⟩
                go_simp
                with_reducible rfl
               rotate_left
               ·simp only [Act.put, sA, sB, sC, i64_w, i32_w]
                rfl
               refine take_ (i := 21) (N := some 77) (v := ?_) (a' := ?_) #[T,T,T,T,T,T,T,T,T,T,T,T,T,T,T,T,T,T,T,T,T,T,F,T,T,T,F,F,F,T,F,F,F,F,F,F,F,F,F,F,F,F,F,F,F,F,F,F,F,F,F,F,F] rfl rfl (take_ofW HT_.out HW_.out (by kernel_rfl)) (fun _ _ _ h => h) (Or.inl ⟨by rfl, ?_⟩) hHeld ?_ ?_
               rotate_left
               ·rintro w' ⟨s0, s1, s2, s3, s4, s5, s6, s7, s8, s9, s10, s11, s12, s13, s14, s15, s16, s17, s18, s19, s20, s21, s22, s23, s24, s25, s26, s27, s28, s29, s30, s31, s32, s33, s34, s35, s36, s37, s38, s39, s40, s41, s42, s43, s44, s45, s46, s47, s48, s49⟩
                go_simp
                with_reducible rfl
               rotate_left
               ·simp only [Act.put, sA, sB, sC, i64_w, i32_w]
                rfl
               refine take_ (i := 26) (N := some 82) (v := ?_) (a' := ?_) #[T,T,T,T,T,T,T,T,T,T,T,T,T,T,T,T,T,T,T,T,T,T,F,T,T,T,T,F,F,T,F,F,F,F,F,F,F,F,F,F,F,F,F,F,F,F,F,F,F,F,F,F,F] rfl rfl (take_ofW HT_.out HW_.out (by kernel_rfl)) (fun _ _ _ h => h) (Or.inl ⟨by rfl, ?_⟩) hHeld ?_ ?_
               rotate_left
               ·rintro w' ⟨s0, s1, s2, s3, s4, s5, s6, s7, s8, s9, s10, s11, s12, s13, s14, s15, s16, s17, s18, s19, s20, s21, s22, s23, s24, s25, s26, s27, s28, s29, s30, s31, s32, s33, s34, s35, s36, s37, s38, s39, s40, s41, s42, s43, s44, s45, s46, s47, s48, s49⟩
                go_simp
                with_reducible rfl
               rotate_left
               ·simp only [Act.put, sA, sB, sC, i64_w, i32_w]
                rfl
               refine take_ (i := 27) (N := some 83) (v := ?_) (a' := ?_) #[T,T,T,T,T,T,T,T,T,T,T,T,T,T,T,T,T,T,T,T,T,T,F,T,T,T,T,T,F,T,F,F,F,F,F,F,F,F,F,F,F,F,F,F,F,F,F,F,F,F,F,F,F] rfl rfl (take_ofW HT_.out HW_.out (by kernel_rfl)) (fun _ _ _ h => h) (Or.inl ⟨by rfl, ?_⟩) hHeld ?_ ?_
               rotate_left
               ·rintro w' ⟨s0, s1, s2, s3, s4, s5, s6, s7, s8, s9, s10, s11, s12, s13, s14, s15, s16, s17, s18, s19, s20, s21, s22, s23, s24, s25, s26, s27, s28, s29, s30, s31, s32, s33, s34, s35, s36, s37, s38, s39, s40, s41, s42, s43, s44, s45, s46, s47, s48, s49⟩
                go_simp
                with_reducible rfl
               rotate_left
               ·simp only [Act.put, sA, sB, sC, i64_w, i32_w]
                rfl
               refine take_ (i := 28) (N := some 84) (v := ?_) (a' := ?_) #[T,T,T,T,T,T,T,T,T,T,T,T,T,T,T,T,T,T,T,T,T,T,F,T,T,T,T,T,T,T,F,F,F,F,F,F,F,F,F,F,F,F,F,F,F,F,F,F,F,F,F,F,F] rfl rfl (take_ofW HT_.out HW_.out (by kernel_rfl)) (fun _ _ _ h => h) (Or.inl ⟨by rfl, ?_⟩) hHeld ?_ ?_
               rotate_left
               ·rintro w' ⟨s0, s1, s2, s3, s4, s5, s6, s7, s8, s9, s10, s11, s12, s13, s14, s15, s16, s17, s18, s19, s20, s21, s22, s23, s24, s25, s26, s27, s28, s29, s30, s31, s32, s33, s34, s35, s36, s37, s38, s39, s40, s41, s42, s43, s44, s45, s46, s47, s48, s49⟩
                go_simp
                with_reducible rfl
               rotate_left
               ·simp only [Act.put, sA, sB, sC, i64_w, i32_w]
                rfl
               refine take_ (i := 30) (N := some 86) (v := ?_) (a' := ?_) #[T,T,T,T,T,T,T,T,T,T,T,T,T,T,T,T,T,T,T,T,T,T,F,T,T,T,T,T,T,T,T,F,F,F,F,F,F,F,F,F,F,F,F,F,F,F,F,F,F,F,F,F,F] rfl rfl (take_ofW HT_.out HW_.out (by kernel_rfl)) (fun _ _ _ h => h) (Or.inl ⟨by rfl, ?_⟩) hHeld ?_ ?_
               rotate_left
               ·rintro w' ⟨s0, s1, s2, s3, s4, s5, s6, s7, s8, s9, s10, s11, s12, s13, s14, s15, s16, s17, s18, s19, s20, s21, s22, s23, s24, s25, s26, s27, s28, s29, s30, s31, s32, s33, s34, s35, s36, s37, s38, s39, s40, s41, s42, s43, s44, s45, s46, s47, s48, s49⟩
                go_simp
                with_reducible rfl
               rotate_left
               ·simp only [Act.put, sA, sB, sC, i64_w, i32_w]
                rfl
               refine one_ (i := 22) (N := some 78) #[T,T,T,T,T,T,T,T,T,T,T,T,T,T,T,T,T,T,T,T,T,T,T,T,T,T,T,T,T,T,T,F,F,F,F,F,F,F,F,F,F,F,F,F,F,F,F,F,F,F,F,F,F] rfl rfl (one_of HT_.out (by kernel_rfl)) (by decide) (fun K hK => ?_)
               refine goes_ Try.func12 (by kernel_rfl) rfl #[.agg #[.int .u32 ((rd_T37 l1 x7_2).f0.f0), .int .u32 ((rd_T37 l1 x7_2).f0.f1), .int .i32 ((rd_T37 l1 x7_2).f1.f0), .int .i32 ((rd_T37 l1 x7_2).f1.f1), .int .i32 ((rd_T37 l1 x7_2).f2)], .agg #[.int .u32 ((rd_T32 t229 t237).f0), .int .i32 ((rd_T32 t229 t237).f1), .int .i32 ((rd_T32 t229 t237).f2.f0), .int .i32 ((rd_T32 t229 t237).f2.f1), .int .i32 ((rd_T32 t229 t237).f3), .int .i32 ((rd_T32 t229 t237).f4), .int .i32 ((rd_T32 t229 t237).f5.f0), .int .i32 ((rd_T32 t229 t237).f5.f1), .int .i32 ((rd_T32 t229 t237).f6.f0), .int .i32 ((rd_T32 t229 t237).f6.f1)], .agg #[.int .u32 ((rd_T32 t229 t241).f0), .int .i32 ((rd_T32 t229 t241).f1), .int .i32 ((rd_T32 t229 t241).f2.f0), .int .i32 ((rd_T32 t229 t241).f2.f1), .int .i32 ((rd_T32 t229 t241).f3), .int .i32 ((rd_T32 t229 t241).f4), .int .i32 ((rd_T32 t229 t241).f5.f0), .int .i32 ((rd_T32 t229 t241).f5.f1), .int .i32 ((rd_T32 t229 t241).f6.f0), .int .i32 ((rd_T32 t229 t241).f6.f1)], .bool false] (by rfl) rfl rfl (by (try simp only [List.map_toArray, List.map_cons, List.map_nil]); first | done | rfl | (simp only [List.length_drop, List.length_take]; rfl)) ?_
               with_reducible refine (correct_Share.calls ((rd_T37 l1 x7_2).f0.f0) ((rd_T37 l1 x7_2).f0.f1) ((rd_T37 l1 x7_2).f1.f0) ((rd_T37 l1 x7_2).f1.f1) ((rd_T37 l1 x7_2).f2) ((rd_T32 t229 t237).f0) ((rd_T32 t229 t237).f1) ((rd_T32 t229 t237).f2.f0) ((rd_T32 t229 t237).f2.f1) ((rd_T32 t229 t237).f3) ((rd_T32 t229 t237).f4) ((rd_T32 t229 t237).f5.f0) ((rd_T32 t229 t237).f5.f1) ((rd_T32 t229 t237).f6.f0) ((rd_T32 t229 t237).f6.f1) ((rd_T32 t229 t241).f0) ((rd_T32 t229 t241).f1) ((rd_T32 t229 t241).f2.f0) ((rd_T32 t229 t241).f2.f1) ((rd_T32 t229 t241).f3) ((rd_T32 t229 t241).f4) ((rd_T32 t229 t241).f5.f0) ((rd_T32 t229 t241).f5.f1) ((rd_T32 t229 t241).f6.f0) ((rd_T32 t229 t241).f6.f1) false t249 _ A28.out).mono ?_
               rintro e w44 ⟨rfl, hb⟩
               refine ⟨_, rfl, ?_⟩
               have n0_ := aM (Kd.R_below (by (with_reducible repeat (first | apply Kd.R_alloc | apply Kd.R_drewN | apply Kd.R_drew)); exact HO_5.out) hb)
               have n1_ := aM (bB (by (with_reducible repeat first | apply bN | apply bD | apply bA); exact BK239.out) hb)
               have n2_ := aM (bB (by (with_reducible repeat first | apply bN | apply bD | apply bA); exact BK243.out) hb)
               have n3_ := aM (lT (by repeat (first | (with_reducible first | exact HB.out | apply lA | apply lN | apply lD | refine lS ?_ GE239.out | refine lS ?_ GE243.out) | exact HB.out)) hb)
               clear HO_5
               clear BK239
               clear BK243
               clear HB
               have HO_5 := n0_
               have BK239 := n1_
               have BK243 := n2_
               have HB := n3_
               clear n0_ n1_ n2_ n3_
               (try clear hb)
               (try clear hb2)
               (try clear hk)
               (try clear hi)
               refine hK.out _ _ ⟨(bC BK239.out 0).trans rfl, (bC BK239.out 1).trans rfl, (bC BK239.out 2).trans rfl, (bC BK239.out 3).trans rfl, (bC BK239.out 4).trans rfl, (bC BK239.out 5).trans rfl, (bC BK239.out 6).trans rfl, (bC BK239.out 7).trans rfl, (bC BK239.out 8).trans rfl, (bC BK239.out 9).trans rfl, (bC BK243.out 0).trans rfl, (bC BK243.out 1).trans rfl, (bC BK243.out 2).trans rfl, (bC BK243.out 3).trans rfl, (bC BK243.out 4).trans rfl, (bC BK243.out 5).trans rfl, (bC BK243.out 6).trans rfl, (bC BK243.out 7).trans rfl, (bC BK243.out 8).trans rfl, (bC BK243.out 9).trans rfl, ((HB.out.cell (World.block_lt_of_cell? w _ hw244_0)).trans hw244_0), ((HB.out.cell (World.block_lt_of_cell? w _ hw244_1)).trans hw244_1), ((HB.out.cell (World.block_lt_of_cell? w _ hw244_2)).trans hw244_2), ((HB.out.cell (World.block_lt_of_cell? w _ hw244_3)).trans hw244_3), ((HB.out.cell (World.block_lt_of_cell? w _ hw244_4)).trans hw244_4), ((HB.out.cell (World.block_lt_of_cell? w _ hw246_0)).trans hw246_0), ((HB.out.cell (World.block_lt_of_cell? w _ hw246_1)).trans hw246_1), ((HB.out.cell (World.block_lt_of_cell? w _ hw246_2)).trans hw246_2), ((HB.out.cell (World.block_lt_of_cell? w _ hw246_3)).trans hw246_3), ((HB.out.cell (World.block_lt_of_cell? w _ hw246_4)).trans hw246_4), ((HB.out.cell (World.block_lt_of_cell? w _ hw248_0)).trans hw248_0), ((HB.out.cell (World.block_lt_of_cell? w _ hw248_1)).trans hw248_1), ((HB.out.cell (World.block_lt_of_cell? w _ hw248_2)).trans hw248_2), ((HB.out.cell (World.block_lt_of_cell? w _ hw248_3)).trans hw248_3), ((HB.out.cell (World.block_lt_of_cell? w _ hw248_4)).trans hw248_4), ((HB.out.cell (World.block_lt_of_cell? w _ hw250_0)).trans hw250_0), ((HB.out.cell (World.block_lt_of_cell? w _ hw250_1)).trans hw250_1), ((HB.out.cell (World.block_lt_of_cell? w _ hw250_2)).trans hw250_2), ((HB.out.cell (World.block_lt_of_cell? w _ hw250_3)).trans hw250_3), ((HB.out.cell (World.block_lt_of_cell? w _ hw250_4)).trans hw250_4), ((HB.out.cell (World.block_lt_of_cell? w _ hw252_0)).trans hw252_0), ((HB.out.cell (World.block_lt_of_cell? w _ hw252_1)).trans hw252_1), ((HB.out.cell (World.block_lt_of_cell? w _ hw252_2)).trans hw252_2), ((HB.out.cell (World.block_lt_of_cell? w _ hw252_3)).trans hw252_3), ((HB.out.cell (World.block_lt_of_cell? w _ hw252_4)).trans hw252_4), ((HB.out.cell (World.block_lt_of_cell? w _ hw254_0)).trans hw254_0), ((HB.out.cell (World.block_lt_of_cell? w _ hw254_1)).trans hw254_1), ((HB.out.cell (World.block_lt_of_cell? w _ hw254_2)).trans hw254_2), ((HB.out.cell (World.block_lt_of_cell? w _ hw254_3)).trans hw254_3), ((HB.out.cell (World.block_lt_of_cell? w _ hw254_4)).trans hw254_4)⟩ (fun hHeld => ?_)
               clear hK K
               refine norm_ (a' := ?_) ?_ ?_
               rotate_left
               ·show Act.put _ (some 78) _ = _
                simp only [Act.put, sA, sB, sC, i64_w, i32_w]
                rfl
               refine one_ (i := 31) (N := some 87) #[T,T,T,T,T,T,T,T,T,T,T,T,T,T,T,T,T,T,T,T,T,T,T,T,T,T,T,T,T,T,T,T,F,F,F,F,F,F,F,F,F,F,F,F,F,F,F,F,F,F,F,F,F] rfl rfl (one_of HT_.out (by kernel_rfl)) (by decide) (fun K hK => ?_)
               refine goes_ Try.func13 (by kernel_rfl) rfl #[.agg #[.int .u32 ((rd_T37 l1 x7_2).f0.f0), .int .u32 ((rd_T37 l1 x7_2).f0.f1), .int .i32 ((rd_T37 l1 x7_2).f1.f0), .int .i32 ((rd_T37 l1 x7_2).f1.f1), .int .i32 ((rd_T37 l1 x7_2).f2)], .agg #[.int .u32 ((rd_T32 t229 t237).f0), .int .i32 ((rd_T32 t229 t237).f1), .int .i32 ((rd_T32 t229 t237).f2.f0), .int .i32 ((rd_T32 t229 t237).f2.f1), .int .i32 ((rd_T32 t229 t237).f3), .int .i32 ((rd_T32 t229 t237).f4), .int .i32 ((rd_T32 t229 t237).f5.f0), .int .i32 ((rd_T32 t229 t237).f5.f1), .int .i32 ((rd_T32 t229 t237).f6.f0), .int .i32 ((rd_T32 t229 t237).f6.f1)], .agg #[.int .u32 ((rd_T32 t229 t241).f0), .int .i32 ((rd_T32 t229 t241).f1), .int .i32 ((rd_T32 t229 t241).f2.f0), .int .i32 ((rd_T32 t229 t241).f2.f1), .int .i32 ((rd_T32 t229 t241).f3), .int .i32 ((rd_T32 t229 t241).f4), .int .i32 ((rd_T32 t229 t241).f5.f0), .int .i32 ((rd_T32 t229 t241).f5.f1), .int .i32 ((rd_T32 t229 t241).f6.f0), .int .i32 ((rd_T32 t229 t241).f6.f1)], .int .i32 ((rd_T32 t229 t237).f3)] (by rfl) rfl rfl (by (try simp only [List.map_toArray, List.map_cons, List.map_nil]); first | done | rfl | (simp only [List.length_drop, List.length_take]; rfl)) ?_
               with_reducible refine (billiardref18_Share.calls ((rd_T37 l1 x7_2).f0.f0) ((rd_T37 l1 x7_2).f0.f1) ((rd_T37 l1 x7_2).f1.f0) ((rd_T37 l1 x7_2).f1.f1) ((rd_T37 l1 x7_2).f2) ((rd_T32 t229 t237).f0) ((rd_T32 t229 t237).f1) ((rd_T32 t229 t237).f2.f0) ((rd_T32 t229 t237).f2.f1) ((rd_T32 t229 t237).f3) ((rd_T32 t229 t237).f4) ((rd_T32 t229 t237).f5.f0) ((rd_T32 t229 t237).f5.f1) ((rd_T32 t229 t237).f6.f0) ((rd_T32 t229 t237).f6.f1) ((rd_T32 t229 t241).f0) ((rd_T32 t229 t241).f1) ((rd_T32 t229 t241).f2.f0) ((rd_T32 t229 t241).f2.f1) ((rd_T32 t229 t241).f3) ((rd_T32 t229 t241).f4) ((rd_T32 t229 t241).f5.f0) ((rd_T32 t229 t241).f5.f1) ((rd_T32 t229 t241).f6.f0) ((rd_T32 t229 t241).f6.f1) ((rd_T32 t229 t237).f3) t251 _ A29.out).mono ?_
               rintro e w45 ⟨rfl, hb⟩
               refine ⟨_, rfl, ?_⟩
               have n0_ := aM (Kd.R_below (by (with_reducible repeat (first | apply Kd.R_alloc | apply Kd.R_drewN | apply Kd.R_drew)); exact HO_5.out) hb)
               have n1_ := aM (bB (by (with_reducible repeat first | apply bN | apply bD | apply bA); exact BK239.out) hb)
               have n2_ := aM (bB (by (with_reducible repeat first | apply bN | apply bD | apply bA); exact BK243.out) hb)
               have n3_ := aM (lT (by repeat (first | (with_reducible first | exact HB.out | apply lA | apply lN | apply lD | refine lS ?_ GE239.out | refine lS ?_ GE243.out) | exact HB.out)) hb)
               clear HO_5
               clear BK239
               clear BK243
               clear HB
               have HO_5 := n0_
               have BK239 := n1_
               have BK243 := n2_
               have HB := n3_
               clear n0_ n1_ n2_ n3_
               (try clear hb)
               (try clear hb2)
               (try clear hk)
               (try clear hi)
               refine hK.out _ _ ⟨(bC BK239.out 0).trans rfl, (bC BK239.out 1).trans rfl, (bC BK239.out 2).trans rfl, (bC BK239.out 3).trans rfl, (bC BK239.out 4).trans rfl, (bC BK239.out 5).trans rfl, (bC BK239.out 6).trans rfl, (bC BK239.out 7).trans rfl, (bC BK239.out 8).trans rfl, (bC BK239.out 9).trans rfl, (bC BK243.out 0).trans rfl, (bC BK243.out 1).trans rfl, (bC BK243.out 2).trans rfl, (bC BK243.out 3).trans rfl, (bC BK243.out 4).trans rfl, (bC BK243.out 5).trans rfl, (bC BK243.out 6).trans rfl, (bC BK243.out 7).trans rfl, (bC BK243.out 8).trans rfl, (bC BK243.out 9).trans rfl, ((HB.out.cell (World.block_lt_of_cell? w _ hw244_0)).trans hw244_0), ((HB.out.cell (World.block_lt_of_cell? w _ hw244_1)).trans hw244_1), ((HB.out.cell (World.block_lt_of_cell? w _ hw244_2)).trans hw244_2), ((HB.out.cell (World.block_lt_of_cell? w _ hw244_3)).trans hw244_3), ((HB.out.cell (World.block_lt_of_cell? w _ hw244_4)).trans hw244_4), ((HB.out.cell (World.block_lt_of_cell? w _ hw246_0)).trans hw246_0), ((HB.out.cell (World.block_lt_of_cell? w _ hw246_1)).trans hw246_1), ((HB.out.cell (World.block_lt_of_cell? w _ hw246_2)).trans hw246_2), ((HB.out.cell (World.block_lt_of_cell? w _ hw246_3)).trans hw246_3), ((HB.out.cell (World.block_lt_of_cell? w _ hw246_4)).trans hw246_4), ((HB.out.cell (World.block_lt_of_cell? w _ hw248_0)).trans hw248_0), ((HB.out.cell (World.block_lt_of_cell? w _ hw248_1)).trans hw248_1), ((HB.out.cell (World.block_lt_of_cell? w _ hw248_2)).trans hw248_2), ((HB.out.cell (World.block_lt_of_cell? w _ hw248_3)).trans hw248_3), ((HB.out.cell (World.block_lt_of_cell? w _ hw248_4)).trans hw248_4), ((HB.out.cell (World.block_lt_of_cell? w _ hw250_0)).trans hw250_0), ((HB.out.cell (World.block_lt_of_cell? w _ hw250_1)).trans hw250_1), ((HB.out.cell (World.block_lt_of_cell? w _ hw250_2)).trans hw250_2), ((HB.out.cell (World.block_lt_of_cell? w _ hw250_3)).trans hw250_3), ((HB.out.cell (World.block_lt_of_cell? w _ hw250_4)).trans hw250_4), ((HB.out.cell (World.block_lt_of_cell? w _ hw252_0)).trans hw252_0), ((HB.out.cell (World.block_lt_of_cell? w _ hw252_1)).trans hw252_1), ((HB.out.cell (World.block_lt_of_cell? w _ hw252_2)).trans hw252_2), ((HB.out.cell (World.block_lt_of_cell? w _ hw252_3)).trans hw252_3), ((HB.out.cell (World.block_lt_of_cell? w _ hw252_4)).trans hw252_4), ((HB.out.cell (World.block_lt_of_cell? w _ hw254_0)).trans hw254_0), ((HB.out.cell (World.block_lt_of_cell? w _ hw254_1)).trans hw254_1), ((HB.out.cell (World.block_lt_of_cell? w _ hw254_2)).trans hw254_2), ((HB.out.cell (World.block_lt_of_cell? w _ hw254_3)).trans hw254_3), ((HB.out.cell (World.block_lt_of_cell? w _ hw254_4)).trans hw254_4)⟩ (fun hHeld => ?_)
               clear hK K
               refine norm_ (a' := ?_) ?_ ?_
               rotate_left
               ·show Act.put _ (some 87) _ = _
                simp only [Act.put, sA, sB, sC, i64_w, i32_w]
                rfl
               refine pure_ (i := 32) (N := some 88) (v := ?_) (a' := ?_) #[T,T,T,T,T,T,T,T,T,T,T,T,T,T,T,T,T,T,T,T,T,T,T,T,T,T,T,T,T,T,T,T,T,F,F,F,F,F,F,F,F,F,F,F,F,F,F,F,F,F,F,F,F] rfl rfl (any_of HT_.out (by kernel_rfl)) (fun _ _ _ h => h) (Or.inl ⟨by rfl, ?_⟩) ?_ ?_
               rotate_left
               ·intro w'
                go_simp
                with_reducible rfl
               rotate_left
               ·simp only [Act.put, sA, sB, sC, i64_w, i32_w]
                rfl
               refine pure_ (i := 33) (N := some 89) (v := ?_) (a' := ?_) #[T,T,T,T,T,T,T,T,T,T,T,T,T,T,T,T,T,T,T,T,T,T,T,T,T,T,T,T,T,T,T,T,T,T,F,F,F,F,F,F,F,F,F,F,F,F,F,F,F,F,F,F,F] rfl rfl (any_of HT_.out (by kernel_rfl)) (fun _ _ _ h => h) (Or.inl ⟨by rfl, ?_⟩) ?_ ?_
               rotate_left
               ·intro w'
                go_simp
                with_reducible rfl
               rotate_left
               ·simp only [Act.put, sA, sB, sC, i64_w, i32_w]
                rfl
               refine pure_ (i := 34) (N := some 90) (v := ?_) (a' := ?_) #[T,T,T,T,T,T,T,T,T,T,T,T,T,T,T,T,T,T,T,T,T,T,T,T,T,T,T,T,T,T,T,T,T,T,T,F,F,F,F,F,F,F,F,F,F,F,F,F,F,F,F,F,F] rfl rfl (any_of HT_.out (by kernel_rfl)) (fun _ _ _ h => h) (Or.inl ⟨by rfl, ?_⟩) ?_ ?_
               rotate_left
               ·intro w'
                go_simp
                with_reducible rfl
               rotate_left
               ·simp only [Act.put, sA, sB, sC, i64_w, i32_w]
                rfl
               refine pure_ (i := 35) (N := some 91) (v := ?_) (a' := ?_) #[T,T,T,T,T,T,T,T,T,T,T,T,T,T,T,T,T,T,T,T,T,T,T,T,T,T,T,T,T,T,T,T,T,T,T,T,F,F,F,F,F,F,F,F,F,F,F,F,F,F,F,F,F] rfl rfl (any_of HT_.out (by kernel_rfl)) (fun _ _ _ h => h) (Or.inl ⟨by rfl, ?_⟩) ?_ ?_
               rotate_left
               ·intro w'
                go_simp
                with_reducible rfl
               rotate_left
               ·simp only [Act.put, sA, sB, sC, i64_w, i32_w]
                rfl
               refine pure_ (i := 36) (N := some 92) (v := ?_) (a' := ?_) #[T,T,T,T,T,T,T,T,T,T,T,T,T,T,T,T,T,T,T,T,T,T,T,T,T,T,T,T,T,T,T,T,T,T,T,T,T,F,F,F,F,F,F,F,F,F,F,F,F,F,F,F,F] rfl rfl (any_of HT_.out (by kernel_rfl)) (fun _ _ _ h => h) (Or.inl ⟨by rfl, ?_⟩) ?_ ?_
               rotate_left
               ·intro w'
                go_simp
                with_reducible rfl
               rotate_left
               ·simp only [Act.put, sA, sB, sC, i64_w, i32_w]
                rfl
               refine pure_ (i := 37) (N := some 93) (v := ?_) (a' := ?_) #[T,T,T,T,T,T,T,T,T,T,T,T,T,T,T,T,T,T,T,T,T,T,T,T,T,T,T,T,T,T,T,T,T,T,T,T,T,T,F,F,F,F,F,F,F,F,F,F,F,F,F,F,F] rfl rfl (any_of HT_.out (by kernel_rfl)) (fun _ _ _ h => h) (Or.inl ⟨by rfl, ?_⟩) ?_ ?_
               rotate_left
               ·intro w'
                go_simp
                with_reducible rfl
               rotate_left
               ·simp only [Act.put, sA, sB, sC, i64_w, i32_w]
                rfl
               refine pure_ (i := 42) (N := some 98) (v := ?_) (a' := ?_) #[T,T,T,T,T,T,T,T,T,T,T,T,T,T,T,T,T,T,T,T,T,T,T,T,T,T,T,T,T,T,T,T,T,T,T,T,T,T,F,F,F,F,T,F,F,F,F,F,F,F,F,F,F] rfl rfl (any_of HT_.out (by kernel_rfl)) (fun _ _ _ h => h) (Or.inl ⟨by rfl, ?_⟩) ?_ ?_
               rotate_left
               ·intro w'
                go_simp
                with_reducible rfl
               rotate_left
               ·simp only [Act.put, sA, sB, sC, i64_w, i32_w]
                rfl
               refine pure_ (i := 43) (N := some 99) (v := ?_) (a' := ?_) #[T,T,T,T,T,T,T,T,T,T,T,T,T,T,T,T,T,T,T,T,T,T,T,T,T,T,T,T,T,T,T,T,T,T,T,T,T,T,F,F,F,F,T,T,F,F,F,F,F,F,F,F,F] rfl rfl (any_of HT_.out (by kernel_rfl)) (fun _ _ _ h => h) (Or.inl ⟨by rfl, ?_⟩) ?_ ?_
               rotate_left
               ·intro w'
                go_simp
                with_reducible rfl
               rotate_left
               ·simp only [Act.put, sA, sB, sC, i64_w, i32_w]
                rfl
               refine pure_ (i := 44) (N := some 100) (v := ?_) (a' := ?_) #[T,T,T,T,T,T,T,T,T,T,T,T,T,T,T,T,T,T,T,T,T,T,T,T,T,T,T,T,T,T,T,T,T,T,T,T,T,T,F,F,F,F,T,T,T,F,F,F,F,F,F,F,F] rfl rfl (any_of HT_.out (by kernel_rfl)) (fun _ _ _ h => h) (Or.inl ⟨by rfl, ?_⟩) ?_ ?_
               rotate_left
               ·intro w'
                go_simp
                with_reducible rfl
               rotate_left
               ·simp only [Act.put, sA, sB, sC, i64_w, i32_w]
                rfl
               refine pure_ (i := 48) (N := some 104) (v := ?_) (a' := ?_) #[T,T,T,T,T,T,T,T,T,T,T,T,T,T,T,T,T,T,T,T,T,T,T,T,T,T,T,T,T,T,T,T,T,T,T,T,T,T,F,F,F,F,T,T,T,F,F,F,T,F,F,F,F] rfl rfl (any_of HT_.out (by kernel_rfl)) (fun _ _ _ h => h) (Or.inl ⟨by rfl, ?_⟩) ?_ ?_
               rotate_left
               ·intro w'
                go_simp
                with_reducible rfl
               rotate_left
               ·simp only [Act.put, sA, sB, sC, i64_w, i32_w]
                rfl
               refine take_ (i := 38) (N := some 94) (v := ?_) (a' := ?_) #[T,T,T,T,T,T,T,T,T,T,T,T,T,T,T,T,T,T,T,T,T,T,T,T,T,T,T,T,T,T,T,T,T,T,T,T,T,T,T,F,F,F,T,T,T,F,F,F,T,F,F,F,F] rfl rfl (take_ofW HT_.out HW_.out (by kernel_rfl)) (fun _ _ _ h => h) (Or.inl ⟨by rfl, ?_⟩) hHeld ?_ ?_
               rotate_left
               ·rintro w' ⟨s0, s1, s2, s3, s4, s5, s6, s7, s8, s9, s10, s11, s12, s13, s14, s15, s16, s17, s18, s19, s20, s21, s22, s23, s24, s25, s26, s27, s28, s29, s30, s31, s32, s33, s34, s35, s36, s37, s38, s39, s40, s41, s42, s43, s44, s45, s46, s47, s48, s49⟩
                go_simp
                with_reducible rfl
               rotate_left
               ·simp only [Act.put, sA, sB, sC, i64_w, i32_w]
                rfl
               refine take_ (i := 39) (N := some 95) (v := ?_) (a' := ?_) #[T,T,T,T,T,T,T,T,T,T,T,T,T,T,T,T,T,T,T,T,T,T,T,T,T,T,T,T,T,T,T,T,T,T,T,T,T,T,T,T,F,F,T,T,T,F,F,F,T,F,F,F,F] rfl rfl (take_ofW HT_.out HW_.out (by kernel_rfl)) (fun _ _ _ h => h) (Or.inl ⟨by rfl, ?_⟩) hHeld ?_ ?_
               rotate_left
               ·rintro w' ⟨s0, s1, s2, s3, s4, s5, s6, s7, s8, s9, s10, s11, s12, s13, s14, s15, s16, s17, s18, s19, s20, s21, s22, s23, s24, s25, s26, s27, s28, s29, s30, s31, s32, s33, s34, s35, s36, s37, s38, s39, s40, s41, s42, s43, s44, s45, s46, s47, s48, s49⟩
                go_simp
                with_reducible rfl
               rotate_left
               ·simp only [Act.put, sA, sB, sC, i64_w, i32_w]
                rfl
               refine take_ (i := 40) (N := some 96) (v := ?_) (a' := ?_) #[T,T,T,T,T,T,T,T,T,T,T,T,T,T,T,T,T,T,T,T,T,T,T,T,T,T,T,T,T,T,T,T,T,T,T,T,T,T,T,T,T,F,T,T,T,F,F,F,T,F,F,F,F] rfl rfl (take_ofW HT_.out HW_.out (by kernel_rfl)) (fun _ _ _ h => h) (Or.inl ⟨by rfl, ?_⟩) hHeld ?_ ?_
               rotate_left
               ·rintro w' ⟨s0, s1, s2, s3, s4, s5, s6, s7, s8, s9, s10, s11, s12, s13, s14, s15, s16, s17, s18, s19, s20, s21, s22, s23, s24, s25, s26, s27, s28, s29, s30, s31, s32, s33, s34, s35, s36, s37, s38, s39, s40, s41, s42, s43, s44, s45, s46, s47, s48, s49⟩
                go_simp
                with_reducible rfl
               rotate_left
               ·simp only [Act.put, sA, sB, sC, i64_w, i32_w]
                rfl
               refine take_ (i := 45) (N := some 101) (v := ?_) (a' := ?_) #[T,T,T,T,T,T,T,T,T,T,T,T,T,T,T,T,T,T,T,T,T,T,T,T,T,T,T,T,T,T,T,T,T,T,T,T,T,T,T,T,T,F,T,T,T,T,F,F,T,F,F,F,F] rfl rfl (take_ofW HT_.out HW_.out (by kernel_rfl)) (fun _ _ _ h => h) (Or.inl ⟨by rfl, ?_⟩) hHeld ?_ ?_
               rotate_left
               ·rintro w' ⟨s0, s1, s2, s3, s4, s5, s6, s7, s8, s9, s10, s11, s12, s13, s14, s15, s16, s17, s18, s19, s20, s21, s22, s23, s24, s25, s26, s27, s28, s29, s30, s31, s32, s33, s34, s35, s36, s37, s38, s39, s40, s41, s42, s43, s44, s45, s46, s47, s48, s49⟩
                go_simp
                with_reducible rfl
               rotate_left
               ·simp only [Act.put, sA, sB, sC, i64_w, i32_w]
                rfl
               refine take_ (i := 46) (N := some 102) (v := ?_) (a' := ?_) #[T,T,T,T,T,T,T,T,T,T,T,T,T,T,T,T,T,T,T,T,T,T,T,T,T,T,T,T,T,T,T,T,T,T,T,T,T,T,T,T,T,F,T,T,T,T,T,F,T,F,F,F,F] rfl rfl (take_ofW HT_.out HW_.out (by kernel_rfl)) (fun _ _ _ h => h) (Or.inl ⟨by rfl, ?_⟩) hHeld ?_ ?_
               rotate_left
               ·rintro w' ⟨s0, s1, s2, s3, s4, s5, s6, s7, s8, s9, s10, s11, s12, s13, s14, s15, s16, s17, s18, s19, s20, s21, s22, s23, s24, s25, s26, s27, s28, s29, s30, s31, s32, s33, s34, s35, s36, s37, s38, s39, s40, s41, s42, s43, s44, s45, s46, s47, s48, s49⟩
                go_simp
                with_reducible rfl
               rotate_left
               ·simp only [Act.put, sA, sB, sC, i64_w, i32_w]
                rfl
               refine take_ (i := 47) (N := some 103) (v := ?_) (a' := ?_) #[T,T,T,T,T,T,T,T,T,T,T,T,T,T,T,T,T,T,T,T,T,T,T,T,T,T,T,T,T,T,T,T,T,T,T,T,T,T,T,T,T,F,T,T,T,T,T,T,T,F,F,F,F] rfl rfl (take_ofW HT_.out HW_.out (by kernel_rfl)) (fun _ _ _ h => h) (Or.inl ⟨by rfl, ?_⟩) hHeld ?_ ?_
               rotate_left
               ·rintro w' ⟨s0, s1, s2, s3, s4, s5, s6, s7, s8, s9, s10, s11, s12, s13, s14, s15, s16, s17, s18, s19, s20, s21, s22, s23, s24, s25, s26, s27, s28, s29, s30, s31, s32, s33, s34, s35, s36, s37, s38, s39, s40, s41, s42, s43, s44, s45, s46, s47, s48, s49⟩
                go_simp
                with_reducible rfl
               rotate_left
               ·simp only [Act.put, sA, sB, sC, i64_w, i32_w]
                rfl
               refine take_ (i := 49) (N := some 105) (v := ?_) (a' := ?_) #[T,T,T,T,T,T,T,T,T,T,T,T,T,T,T,T,T,T,T,T,T,T,T,T,T,T,T,T,T,T,T,T,T,T,T,T,T,T,T,T,T,F,T,T,T,T,T,T,T,T,F,F,F] rfl rfl (take_ofW HT_.out HW_.out (by kernel_rfl)) (fun _ _ _ h => h) (Or.inl ⟨by rfl, ?_⟩) hHeld ?_ ?_
               rotate_left
               ·rintro w' ⟨s0, s1, s2, s3, s4, s5, s6, s7, s8, s9, s10, s11, s12, s13, s14, s15, s16, s17, s18, s19, s20, s21, s22, s23, s24, s25, s26, s27, s28, s29, s30, s31, s32, s33, s34, s35, s36, s37, s38, s39, s40, s41, s42, s43, s44, s45, s46, s47, s48, s49⟩
                go_simp
                with_reducible rfl
               rotate_left
               ·simp only [Act.put, sA, sB, sC, i64_w, i32_w]
                rfl
               refine one_ (i := 41) (N := some 97) #[T,T,T,T,T,T,T,T,T,T,T,T,T,T,T,T,T,T,T,T,T,T,T,T,T,T,T,T,T,T,T,T,T,T,T,T,T,T,T,T,T,T,T,T,T,T,T,T,T,T,F,F,F] rfl rfl (one_of HT_.out (by kernel_rfl)) (by decide) (fun K hK => ?_)
               refine goes_ Try.func12 (by kernel_rfl) rfl #[.agg #[.int .u32 ((rd_T37 l1 x7_2).f0.f0), .int .u32 ((rd_T37 l1 x7_2).f0.f1), .int .i32 ((rd_T37 l1 x7_2).f1.f0), .int .i32 ((rd_T37 l1 x7_2).f1.f1), .int .i32 ((rd_T37 l1 x7_2).f2)], .agg #[.int .u32 ((rd_T32 t229 t237).f0), .int .i32 ((rd_T32 t229 t237).f1), .int .i32 ((rd_T32 t229 t237).f2.f0), .int .i32 ((rd_T32 t229 t237).f2.f1), .int .i32 ((rd_T32 t229 t237).f3), .int .i32 ((rd_T32 t229 t237).f4), .int .i32 ((rd_T32 t229 t237).f5.f0), .int .i32 ((rd_T32 t229 t237).f5.f1), .int .i32 ((rd_T32 t229 t237).f6.f0), .int .i32 ((rd_T32 t229 t237).f6.f1)], .agg #[.int .u32 ((rd_T32 t229 t241).f0), .int .i32 ((rd_T32 t229 t241).f1), .int .i32 ((rd_T32 t229 t241).f2.f0), .int .i32 ((rd_T32 t229 t241).f2.f1), .int .i32 ((rd_T32 t229 t241).f3), .int .i32 ((rd_T32 t229 t241).f4), .int .i32 ((rd_T32 t229 t241).f5.f0), .int .i32 ((rd_T32 t229 t241).f5.f1), .int .i32 ((rd_T32 t229 t241).f6.f0), .int .i32 ((rd_T32 t229 t241).f6.f1)], .bool true] (by rfl) rfl rfl (by (try simp only [List.map_toArray, List.map_cons, List.map_nil]); first | done | rfl | (simp only [List.length_drop, List.length_take]; rfl)) ?_
               with_reducible refine (correct_Share.calls ((rd_T37 l1 x7_2).f0.f0) ((rd_T37 l1 x7_2).f0.f1) ((rd_T37 l1 x7_2).f1.f0) ((rd_T37 l1 x7_2).f1.f1) ((rd_T37 l1 x7_2).f2) ((rd_T32 t229 t237).f0) ((rd_T32 t229 t237).f1) ((rd_T32 t229 t237).f2.f0) ((rd_T32 t229 t237).f2.f1) ((rd_T32 t229 t237).f3) ((rd_T32 t229 t237).f4) ((rd_T32 t229 t237).f5.f0) ((rd_T32 t229 t237).f5.f1) ((rd_T32 t229 t237).f6.f0) ((rd_T32 t229 t237).f6.f1) ((rd_T32 t229 t241).f0) ((rd_T32 t229 t241).f1) ((rd_T32 t229 t241).f2.f0) ((rd_T32 t229 t241).f2.f1) ((rd_T32 t229 t241).f3) ((rd_T32 t229 t241).f4) ((rd_T32 t229 t241).f5.f0) ((rd_T32 t229 t241).f5.f1) ((rd_T32 t229 t241).f6.f0) ((rd_T32 t229 t241).f6.f1) true t253 _ A31.out).mono ?_
               rintro e w46 ⟨rfl, hb⟩
               refine ⟨_, rfl, ?_⟩
               have n0_ := aM (Kd.R_below (by (with_reducible repeat (first | apply Kd.R_alloc | apply Kd.R_drewN | apply Kd.R_drew)); exact HO_5.out) hb)
               have n1_ := aM (bB (by (with_reducible repeat first | apply bN | apply bD | apply bA); exact BK239.out) hb)
               have n2_ := aM (bB (by (with_reducible repeat first | apply bN | apply bD | apply bA); exact BK243.out) hb)
               have n3_ := aM (lT (by repeat (first | (with_reducible first | exact HB.out | apply lA | apply lN | apply lD | refine lS ?_ GE239.out | refine lS ?_ GE243.out) | exact HB.out)) hb)
               clear HO_5
               clear BK239
               clear BK243
               clear HB
               have HO_5 := n0_
               have BK239 := n1_
               have BK243 := n2_
               have HB := n3_
               clear n0_ n1_ n2_ n3_
               (try clear hb)
               (try clear hb2)
               (try clear hk)
               (try clear hi)
               refine hK.out _ _ ⟨(bC BK239.out 0).trans rfl, (bC BK239.out 1).trans rfl, (bC BK239.out 2).trans rfl, (bC BK239.out 3).trans rfl, (bC BK239.out 4).trans rfl, (bC BK239.out 5).trans rfl, (bC BK239.out 6).trans rfl, (bC BK239.out 7).trans rfl, (bC BK239.out 8).trans rfl, (bC BK239.out 9).trans rfl, (bC BK243.out 0).trans rfl, (bC BK243.out 1).trans rfl, (bC BK243.out 2).trans rfl, (bC BK243.out 3).trans rfl, (bC BK243.out 4).trans rfl, (bC BK243.out 5).trans rfl, (bC BK243.out 6).trans rfl, (bC BK243.out 7).trans rfl, (bC BK243.out 8).trans rfl, (bC BK243.out 9).trans rfl, ((HB.out.cell (World.block_lt_of_cell? w _ hw244_0)).trans hw244_0), ((HB.out.cell (World.block_lt_of_cell? w _ hw244_1)).trans hw244_1), ((HB.out.cell (World.block_lt_of_cell? w _ hw244_2)).trans hw244_2), ((HB.out.cell (World.block_lt_of_cell? w _ hw244_3)).trans hw244_3), ((HB.out.cell (World.block_lt_of_cell? w _ hw244_4)).trans hw244_4), ((HB.out.cell (World.block_lt_of_cell? w _ hw246_0)).trans hw246_0), ((HB.out.cell (World.block_lt_of_cell? w _ hw246_1)).trans hw246_1), ((HB.out.cell (World.block_lt_of_cell? w _ hw246_2)).trans hw246_2), ((HB.out.cell (World.block_lt_of_cell? w _ hw246_3)).trans hw246_3), ((HB.out.cell (World.block_lt_of_cell? w _ hw246_4)).trans hw246_4), ((HB.out.cell (World.block_lt_of_cell? w _ hw248_0)).trans hw248_0), ((HB.out.cell (World.block_lt_of_cell? w _ hw248_1)).trans hw248_1), ((HB.out.cell (World.block_lt_of_cell? w _ hw248_2)).trans hw248_2), ((HB.out.cell (World.block_lt_of_cell? w _ hw248_3)).trans hw248_3), ((HB.out.cell (World.block_lt_of_cell? w _ hw248_4)).trans hw248_4), ((HB.out.cell (World.block_lt_of_cell? w _ hw250_0)).trans hw250_0), ((HB.out.cell (World.block_lt_of_cell? w _ hw250_1)).trans hw250_1), ((HB.out.cell (World.block_lt_of_cell? w _ hw250_2)).trans hw250_2), ((HB.out.cell (World.block_lt_of_cell? w _ hw250_3)).trans hw250_3), ((HB.out.cell (World.block_lt_of_cell? w _ hw250_4)).trans hw250_4), ((HB.out.cell (World.block_lt_of_cell? w _ hw252_0)).trans hw252_0), ((HB.out.cell (World.block_lt_of_cell? w _ hw252_1)).trans hw252_1), ((HB.out.cell (World.block_lt_of_cell? w _ hw252_2)).trans hw252_2), ((HB.out.cell (World.block_lt_of_cell? w _ hw252_3)).trans hw252_3), ((HB.out.cell (World.block_lt_of_cell? w _ hw252_4)).trans hw252_4), ((HB.out.cell (World.block_lt_of_cell? w _ hw254_0)).trans hw254_0), ((HB.out.cell (World.block_lt_of_cell? w _ hw254_1)).trans hw254_1), ((HB.out.cell (World.block_lt_of_cell? w _ hw254_2)).trans hw254_2), ((HB.out.cell (World.block_lt_of_cell? w _ hw254_3)).trans hw254_3), ((HB.out.cell (World.block_lt_of_cell? w _ hw254_4)).trans hw254_4)⟩ (fun hHeld => ?_)
               clear hK K
               refine norm_ (a' := ?_) ?_ ?_
               rotate_left
               ·show Act.put _ (some 97) _ = _
                simp only [Act.put, sA, sB, sC, i64_w, i32_w]
                rfl
               refine one_ (i := 50) (N := some 106) #[T,T,T,T,T,T,T,T,T,T,T,T,T,T,T,T,T,T,T,T,T,T,T,T,T,T,T,T,T,T,T,T,T,T,T,T,T,T,T,T,T,T,T,T,T,T,T,T,T,T,T,F,F] rfl rfl (one_of HT_.out (by kernel_rfl)) (by decide) (fun K hK => ?_)
               refine goes_ Try.func13 (by kernel_rfl) rfl #[.agg #[.int .u32 ((rd_T37 l1 x7_2).f0.f0), .int .u32 ((rd_T37 l1 x7_2).f0.f1), .int .i32 ((rd_T37 l1 x7_2).f1.f0), .int .i32 ((rd_T37 l1 x7_2).f1.f1), .int .i32 ((rd_T37 l1 x7_2).f2)], .agg #[.int .u32 ((rd_T32 t229 t237).f0), .int .i32 ((rd_T32 t229 t237).f1), .int .i32 ((rd_T32 t229 t237).f2.f0), .int .i32 ((rd_T32 t229 t237).f2.f1), .int .i32 ((rd_T32 t229 t237).f3), .int .i32 ((rd_T32 t229 t237).f4), .int .i32 ((rd_T32 t229 t237).f5.f0), .int .i32 ((rd_T32 t229 t237).f5.f1), .int .i32 ((rd_T32 t229 t237).f6.f0), .int .i32 ((rd_T32 t229 t237).f6.f1)], .agg #[.int .u32 ((rd_T32 t229 t241).f0), .int .i32 ((rd_T32 t229 t241).f1), .int .i32 ((rd_T32 t229 t241).f2.f0), .int .i32 ((rd_T32 t229 t241).f2.f1), .int .i32 ((rd_T32 t229 t241).f3), .int .i32 ((rd_T32 t229 t241).f4), .int .i32 ((rd_T32 t229 t241).f5.f0), .int .i32 ((rd_T32 t229 t241).f5.f1), .int .i32 ((rd_T32 t229 t241).f6.f0), .int .i32 ((rd_T32 t229 t241).f6.f1)], .int .i32 ((rd_T32 t229 t241).f3)] (by rfl) rfl rfl (by (try simp only [List.map_toArray, List.map_cons, List.map_nil]); first | done | rfl | (simp only [List.length_drop, List.length_take]; rfl)) ?_
               with_reducible refine (billiardref18_Share.calls ((rd_T37 l1 x7_2).f0.f0) ((rd_T37 l1 x7_2).f0.f1) ((rd_T37 l1 x7_2).f1.f0) ((rd_T37 l1 x7_2).f1.f1) ((rd_T37 l1 x7_2).f2) ((rd_T32 t229 t237).f0) ((rd_T32 t229 t237).f1) ((rd_T32 t229 t237).f2.f0) ((rd_T32 t229 t237).f2.f1) ((rd_T32 t229 t237).f3) ((rd_T32 t229 t237).f4) ((rd_T32 t229 t237).f5.f0) ((rd_T32 t229 t237).f5.f1) ((rd_T32 t229 t237).f6.f0) ((rd_T32 t229 t237).f6.f1) ((rd_T32 t229 t241).f0) ((rd_T32 t229 t241).f1) ((rd_T32 t229 t241).f2.f0) ((rd_T32 t229 t241).f2.f1) ((rd_T32 t229 t241).f3) ((rd_T32 t229 t241).f4) ((rd_T32 t229 t241).f5.f0) ((rd_T32 t229 t241).f5.f1) ((rd_T32 t229 t241).f6.f0) ((rd_T32 t229 t241).f6.f1) ((rd_T32 t229 t241).f3) t255 _ A32.out).mono ?_
               rintro e w47 ⟨rfl, hb⟩
               refine ⟨_, rfl, ?_⟩
               have n0_ := aM (Kd.R_below (by (with_reducible repeat (first | apply Kd.R_alloc | apply Kd.R_drewN | apply Kd.R_drew)); exact HO_5.out) hb)
               have n1_ := aM (bB (by (with_reducible repeat first | apply bN | apply bD | apply bA); exact BK239.out) hb)
               have n2_ := aM (bB (by (with_reducible repeat first | apply bN | apply bD | apply bA); exact BK243.out) hb)
               have n3_ := aM (lT (by repeat (first | (with_reducible first | exact HB.out | apply lA | apply lN | apply lD | refine lS ?_ GE239.out | refine lS ?_ GE243.out) | exact HB.out)) hb)
               clear HO_5
               clear BK239
               clear BK243
               clear HB
               have HO_5 := n0_
               have BK239 := n1_
               have BK243 := n2_
               have HB := n3_
               clear n0_ n1_ n2_ n3_
               (try clear hb)
               (try clear hb2)
               (try clear hk)
               (try clear hi)
               refine hK.out _ _ ⟨(bC BK239.out 0).trans rfl, (bC BK239.out 1).trans rfl, (bC BK239.out 2).trans rfl, (bC BK239.out 3).trans rfl, (bC BK239.out 4).trans rfl, (bC BK239.out 5).trans rfl, (bC BK239.out 6).trans rfl, (bC BK239.out 7).trans rfl, (bC BK239.out 8).trans rfl, (bC BK239.out 9).trans rfl, (bC BK243.out 0).trans rfl, (bC BK243.out 1).trans rfl, (bC BK243.out 2).trans rfl, (bC BK243.out 3).trans rfl, (bC BK243.out 4).trans rfl, (bC BK243.out 5).trans rfl, (bC BK243.out 6).trans rfl, (bC BK243.out 7).trans rfl, (bC BK243.out 8).trans rfl, (bC BK243.out 9).trans rfl, ((HB.out.cell (World.block_lt_of_cell? w _ hw244_0)).trans hw244_0), ((HB.out.cell (World.block_lt_of_cell? w _ hw244_1)).trans hw244_1), ((HB.out.cell (World.block_lt_of_cell? w _ hw244_2)).trans hw244_2), ((HB.out.cell (World.block_lt_of_cell? w _ hw244_3)).trans hw244_3), ((HB.out.cell (World.block_lt_of_cell? w _ hw244_4)).trans hw244_4), ((HB.out.cell (World.block_lt_of_cell? w _ hw246_0)).trans hw246_0), ((HB.out.cell (World.block_lt_of_cell? w _ hw246_1)).trans hw246_1), ((HB.out.cell (World.block_lt_of_cell? w _ hw246_2)).trans hw246_2), ((HB.out.cell (World.block_lt_of_cell? w _ hw246_3)).trans hw246_3), ((HB.out.cell (World.block_lt_of_cell? w _ hw246_4)).trans hw246_4), ((HB.out.cell (World.block_lt_of_cell? w _ hw248_0)).trans hw248_0), ((HB.out.cell (World.block_lt_of_cell? w _ hw248_1)).trans hw248_1), ((HB.out.cell (World.block_lt_of_cell? w _ hw248_2)).trans hw248_2), ((HB.out.cell (World.block_lt_of_cell? w _ hw248_3)).trans hw248_3), ((HB.out.cell (World.block_lt_of_cell? w _ hw248_4)).trans hw248_4), ((HB.out.cell (World.block_lt_of_cell? w _ hw250_0)).trans hw250_0), ((HB.out.cell (World.block_lt_of_cell? w _ hw250_1)).trans hw250_1), ((HB.out.cell (World.block_lt_of_cell? w _ hw250_2)).trans hw250_2), ((HB.out.cell (World.block_lt_of_cell? w _ hw250_3)).trans hw250_3), ((HB.out.cell (World.block_lt_of_cell? w _ hw250_4)).trans hw250_4), ((HB.out.cell (World.block_lt_of_cell? w _ hw252_0)).trans hw252_0), ((HB.out.cell (World.block_lt_of_cell? w _ hw252_1)).trans hw252_1), ((HB.out.cell (World.block_lt_of_cell? w _ hw252_2)).trans hw252_2), ((HB.out.cell (World.block_lt_of_cell? w _ hw252_3)).trans hw252_3), ((HB.out.cell (World.block_lt_of_cell? w _ hw252_4)).trans hw252_4), ((HB.out.cell (World.block_lt_of_cell? w _ hw254_0)).trans hw254_0), ((HB.out.cell (World.block_lt_of_cell? w _ hw254_1)).trans hw254_1), ((HB.out.cell (World.block_lt_of_cell? w _ hw254_2)).trans hw254_2), ((HB.out.cell (World.block_lt_of_cell? w _ hw254_3)).trans hw254_3), ((HB.out.cell (World.block_lt_of_cell? w _ hw254_4)).trans hw254_4)⟩ (fun hHeld => ?_)
               clear hK K
               refine norm_ (a' := ?_) ?_ ?_
               rotate_left
               ·show Act.put _ (some 106) _ = _
                simp only [Act.put, sA, sB, sC, i64_w, i32_w]
                rfl
               refine pure_ (i := 51) (N := some 107) (v := ?_) (a' := ?_) #[T,T,T,T,T,T,T,T,T,T,T,T,T,T,T,T,T,T,T,T,T,T,T,T,T,T,T,T,T,T,T,T,T,T,T,T,T,T,T,T,T,T,T,T,T,T,T,T,T,T,T,T,F] rfl rfl (any_of HT_.out (by kernel_rfl)) (fun _ _ _ h => h) (Or.inl ⟨by rfl, ?_⟩) ?_ ?_
               rotate_left
               ·intro w'
                go_simp
                with_reducible rfl
               rotate_left
               ·simp only [Act.put, sA, sB, sC, i64_w, i32_w]
                rfl
               refine pure_ (i := 52) (N := some 108) (v := ?_) (a' := ?_) #[T,T,T,T,T,T,T,T,T,T,T,T,T,T,T,T,T,T,T,T,T,T,T,T,T,T,T,T,T,T,T,T,T,T,T,T,T,T,T,T,T,T,T,T,T,T,T,T,T,T,T,T,T] rfl rfl (any_of HT_.out (by kernel_rfl)) (fun _ _ _ h => h) (Or.inl ⟨by rfl, ?_⟩) ?_ ?_
               rotate_left
               ·intro w'
                go_simp
                with_reducible rfl
               rotate_left
               ·simp only [Act.put, sA, sB, sC, i64_w, i32_w]
                rfl
               refine done_ (done_of HT_.out (by kernel_rfl)) ?_
               try go_wp2
               go_roundg k2
               case measure => have := HJ3.out; have := HK2.out; omega
               case rel => exact ⟨(wrap64 (x7_2 + 1)), (by first | rfl | (simp; done) | (simp [*]; done)), H', ⟨by have := HJ3.out; have := HK2.out; omega⟩, ⟨by (with_reducible repeat (first | apply Kd.R_alloc | apply Kd.R_drewN | apply Kd.R_drew)); exact Kd.R_mono HO_5.out (fun _ hk => trivial)⟩, ⟨by repeat (first | (with_reducible first | exact HB.out | apply lA | apply lN | apply lD | refine lS ?_ GE239.out | refine lS ?_ GE243.out) | exact HB.out)⟩⟩
              ·rw [if_neg c33] at H
               have c33b0 : (t253 == t255) = false := beq_eq_false_iff_ne.mpr c33
               have c33b1 : (t253 != t255) = true := bne_iff_ne.mpr c33
               exact absurd ((Option.some.inj H).trans HR.out) (by decide)
             ·rw [if_neg c30] at H
              have c30b0 : (t249 == t251) = false := beq_eq_false_iff_ne.mpr c30
              have c30b1 : (t249 != t251) = true := bne_iff_ne.mpr c30
              exact absurd ((Option.some.inj H).trans HR.out) (by decide)
            ·rw [if_neg c27] at H
             have c27b0 : (t245 == t247) = false := beq_eq_false_iff_ne.mpr c27
             have c27b1 : (t245 != t247) = true := bne_iff_ne.mpr c27
             exact absurd ((Option.some.inj H).trans HR.out) (by decide)
           ·rw [if_neg c24] at H
            exact absurd H (by simp)
          ·rw [if_neg c23] at H
           exact absurd H (by simp)
         ·rw [if_neg c21] at H
          exact absurd H (by simp)
        ·rw [if_neg c20] at H
         exact absurd H (by simp)
       ·rw [if_neg c18] at H
        exact absurd H (by simp)
      ·rw [if_neg c17] at H
       have c17b0 : decide (x7_2 < (l1.length : Int)) = false := decide_eq_false c17
       clear c17
       replace H := Option.bind_eq_some_iff.mp H
       obtain ⟨t256, A480, H⟩ := H
       try dsimp only at H
       have A48 := aM A480
       clear A480
       replace H := Option.bind_eq_some_iff.mp H
       obtain ⟨t259, A490, H⟩ := H
       try dsimp only at H
       have A49 := aM A490
       clear A490
       replace H := Option.bind_eq_some_iff.mp H
       obtain ⟨t262, A500, H⟩ := H
       try dsimp only at H
       have A50 := aM A500
       clear A500
       replace H := Option.bind_eq_some_iff.mp H
       obtain ⟨t265, A510, H⟩ := H
       try dsimp only at H
       have A51 := aM A510
       clear A510
       obtain rfl := Option.some.inj H
       obtain ⟨Ao52, co52, eo52⟩ := Kd.R_slice HO_5.out
       subst eo52
       go_wp2_with (first | ((with_reducible refine gate_callee (f := 16) rfl ?_); refine goesL_ (some 111) rfl rfl Try.func16 (by kernel_rfl) rfl #[.slice Ao52 t229.length co52, .slice A1 l1.length c1] rfl (by (try simp only [List.map_toArray, List.map_cons, List.map_nil]); first | done | rfl | (simp only [List.length_drop, List.length_take]; rfl)) ?_; (with_reducible refine (correct_Shifts.calls _ _ t229 _ _ l1 t256 _ ?side1 ?side2 ?side3 ?side4 A48.out).mono ?_); (case side1 => repeat (first | exact (Kd.R_reads' HO_5.out).2.2 | (with_reducible refine Kd.C_alloc ?_ _) | (with_reducible refine Kd.C_drewN ?_ _) | (with_reducible refine Kd.C_drew ?_))); (case side2 => exact (Kd.R_reads' HO_5.out).2.1); (case side3 => repeat (first | exact (Kd.C_below HR1.out HB.out) | (with_reducible refine Kd.C_alloc ?_ _) | (with_reducible refine Kd.C_drewN ?_ _) | (with_reducible refine Kd.C_drew ?_))); (case side4 => exact HC1.out); rintro e w53 ⟨v257, rfl, ho0, hb⟩; refine ⟨_, rfl, ?_⟩; have n0_ := aM (Kd.R_below (by (with_reducible repeat (first | apply Kd.R_alloc | apply Kd.R_drewN | apply Kd.R_drew)); exact HO_5.out) hb); have n1_ := aM (Kd.R_lower ho0 (lZ (by repeat (first | (with_reducible first | exact HB.out | apply lA | apply lN | apply lD) | exact HB.out)))); have n2_ := aM (lT (by repeat (first | (with_reducible first | exact HB.out | apply lA | apply lN | apply lD) | exact HB.out)) hb); clear HO_5; clear HB; have HO_5 := n0_; have HO258 := n1_; have HB := n2_; clear n0_ n1_ n2_; (try clear hb); (try clear hb2); (try clear hk); (try clear hi); (try clear ho0); obtain ⟨Ao54, co54, eo54⟩ := Kd.R_slice HO258.out; subst eo54) | ((with_reducible refine gate_callee (f := 15) rfl ?_); refine goesL_ (some 112) rfl rfl Try.func15 (by kernel_rfl) rfl #[.slice Ao54 t256.length co54] rfl (by (try simp only [List.map_toArray, List.map_cons, List.map_nil]); first | done | rfl | (simp only [List.length_drop, List.length_take]; rfl)) ?_; (with_reducible refine (billiardlaw18_shifts.calls k2 _ _ t256 t259 _ ?side1 ?side2 A49.out).mono ?_); (case side1 => repeat (first | exact (Kd.R_reads' HO258.out).2.2 | (with_reducible refine Kd.C_alloc ?_ _) | (with_reducible refine Kd.C_drewN ?_ _) | (with_reducible refine Kd.C_drew ?_))); (case side2 => exact (Kd.R_reads' HO258.out).2.1); rintro e w55 ⟨v260, rfl, ho0, hb⟩; refine ⟨_, rfl, ?_⟩; have n0_ := aM (Kd.R_below (by (with_reducible repeat (first | apply Kd.R_alloc | apply Kd.R_drewN | apply Kd.R_drew)); exact HO_5.out) hb); have n1_ := aM (Kd.R_below (by (with_reducible repeat (first | apply Kd.R_alloc | apply Kd.R_drewN | apply Kd.R_drew)); exact HO258.out) hb); have n2_ := aM (Kd.R_lower ho0 (lZ (by repeat (first | (with_reducible first | exact HB.out | apply lA | apply lN | apply lD) | exact HB.out)))); have n3_ := aM (lT (by repeat (first | (with_reducible first | exact HB.out | apply lA | apply lN | apply lD) | exact HB.out)) hb); clear HO_5; clear HO258; clear HB; have HO_5 := n0_; have HO258 := n1_; have HO261 := n2_; have HB := n3_; clear n0_ n1_ n2_ n3_; (try clear hb); (try clear hb2); (try clear hk); (try clear hi); (try clear ho0)) | ((with_reducible refine gate_callee (f := 17) rfl ?_); refine goesL_ (some 115) rfl rfl Try.func17 (by kernel_rfl) rfl #[.slice Ao52 t229.length co52, .slice A1 l1.length c1] rfl (by (try simp only [List.map_toArray, List.map_cons, List.map_nil]); first | done | rfl | (simp only [List.length_drop, List.length_take]; rfl)) ?_; (with_reducible refine (billiardref18_Shifts.calls k2 _ _ t229 _ _ l1 t262 _ ?side1 ?side2 ?side3 ?side4 A50.out).mono ?_); (case side1 => repeat (first | exact (Kd.R_reads' HO_5.out).2.2 | (with_reducible refine Kd.C_alloc ?_ _) | (with_reducible refine Kd.C_drewN ?_ _) | (with_reducible refine Kd.C_drew ?_))); (case side2 => exact (Kd.R_reads' HO_5.out).2.1); (case side3 => repeat (first | exact (Kd.C_below HR1.out HB.out) | (with_reducible refine Kd.C_alloc ?_ _) | (with_reducible refine Kd.C_drewN ?_ _) | (with_reducible refine Kd.C_drew ?_))); (case side4 => exact HC1.out); rintro e w56 ⟨v263, rfl, ho0, hb⟩; refine ⟨_, rfl, ?_⟩; have n0_ := aM (Kd.R_below (by (with_reducible repeat (first | apply Kd.R_alloc | apply Kd.R_drewN | apply Kd.R_drew)); exact HO_5.out) hb); have n1_ := aM (Kd.R_below (by (with_reducible repeat (first | apply Kd.R_alloc | apply Kd.R_drewN | apply Kd.R_drew)); exact HO258.out) hb); have n2_ := aM (Kd.R_elder' (by (with_reducible repeat (first | apply Kd.R_alloc | apply Kd.R_drewN | apply Kd.R_drew)); exact HO261.out) (Kd.R_base ho0) hb); have n3_ := aM (Kd.R_lower (Kd.R_new' ho0 (Kd.R_lt (by (with_reducible repeat (first | apply Kd.R_alloc | apply Kd.R_drewN | apply Kd.R_drew)); exact HO261.out))) (lZ (by repeat (first | (with_reducible first | exact HB.out | apply lA | apply lN | apply lD) | exact HB.out)))); have n4_ := aM (lT (by repeat (first | (with_reducible first | exact HB.out | apply lA | apply lN | apply lD) | exact HB.out)) hb); clear HO_5; clear HO258; clear HO261; clear HB; have HO_5 := n0_; have HO258 := n1_; have HO261 := n2_; have HO264 := n3_; have HB := n4_; clear n0_ n1_ n2_ n3_ n4_; (try clear hb); (try clear hb2); (try clear hk); (try clear hi); (try clear ho0); obtain ⟨Ao57, co57, eo57⟩ := Kd.R_slice HO261.out; subst eo57; obtain ⟨Ao58, co58, eo58⟩ := Kd.R_slice HO264.out; subst eo58) | ((with_reducible refine gate_callee (f := 14) rfl ?_); refine goesL_ (some 116) rfl rfl Try.func14 (by kernel_rfl) rfl #[.slice Ao57 t259.length co57, .slice Ao58 t262.length co58] rfl (by (try simp only [List.map_toArray, List.map_cons, List.map_nil]); first | done | rfl | (simp only [List.length_drop, List.length_take]; rfl)) ?_; (with_reducible refine (billiardref18_Same.calls k2 _ _ t259 _ _ t262 t265 _ ?side1 ?side2 ?side3 ?side4 A51.out).mono ?_); (case side1 => repeat (first | exact (Kd.R_reads' HO261.out).2.2 | (with_reducible refine Kd.C_alloc ?_ _) | (with_reducible refine Kd.C_drewN ?_ _) | (with_reducible refine Kd.C_drew ?_))); (case side2 => exact (Kd.R_reads' HO261.out).2.1); (case side3 => repeat (first | exact (Kd.R_reads' HO264.out).2.2 | (with_reducible refine Kd.C_alloc ?_ _) | (with_reducible refine Kd.C_drewN ?_ _) | (with_reducible refine Kd.C_drew ?_))); (case side4 => exact (Kd.R_reads' HO264.out).2.1); rintro e w' ⟨rfl, ⟨nd, rfl⟩⟩; refine ⟨_, rfl, ?_⟩))
       go_ret
       exact ⟨by first | rfl | (simp [errW_none, errW_some] <;> rfl) | (simp [*, errW_none, errW_some] <;> rfl), by repeat (first | (with_reducible first | exact HB.out | apply lA | apply lN | apply lD) | exact HB.out)⟩

/-- THE ONE PURE STATEMENT of billiardlaw18_CorrectMatchesReference: yours. -/
def billiardlaw18_CorrectMatchesReference.Pure : Prop := ∀ (l0 : List (S32)) (l1 : List (S37)), (∀ x ∈ l0, Flat.WFB x) → (∀ x ∈ l1, Flat.WFC x) → ∃ k, billiardlaw18_CorrectMatchesReference.f k l0 l1 = some true
theorem billiardlaw18_CorrectMatchesReference.walk (P : billiardlaw18_CorrectMatchesReference.Pure) (a0 : Option Addr) (cap0 : Nat) (l0 : List (S32)) (a1 : Option Addr) (cap1 : Nat) (l1 : List (S37)) (w : World) (w0 : Kd.C k32 w a0 l0.length l0) (c0 : l0.length ≤ cap0) (m0 : ∀ x ∈ l0, Flat.WFB x) (w1 : Kd.C k37 w a1 l1.length l1) (c1 : l1.length ≤ cap1) (m1 : ∀ x ∈ l1, Flat.WFC x) :
  Calls Try.prog 3 #[.slice a0 l0.length cap0, .slice a1 l1.length cap1] w fun e w' => e = .returned (.bool true) ∧ Below w.heap.size w w' := by
 obtain ⟨k, h⟩ := P l0 l1 m0 m1
 refine (billiardlaw18_CorrectMatchesReference.calls k _ _ l0 _ _ l1 true w w0 c0 w1 c1 h rfl).mono ?_
 rintro e w' ⟨rfl, hd⟩
 exact ⟨rfl, hd⟩

end Go.Proofs.Ytplmeknmeobanaa.Q
