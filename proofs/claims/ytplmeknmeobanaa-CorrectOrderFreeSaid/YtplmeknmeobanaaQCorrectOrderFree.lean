-- PRINTED by print.py (a twelfth state) out of the translation. Not trusted: Lean checks it.
import Derived.Test.YtplmeknmeobanaaQ0
import Derived.Test.YtplmeknmeobanaaQE2
import Derived.Test.YtplmeknmeobanaaQbilliardlaw18
import Derived.Test.YtplmeknmeobanaaQbilliardref11
import Derived.Test.YtplmeknmeobanaaQbilliardref18
import Derived.Test.YtplmeknmeobanaaQcorrect
import Derived.Test.YtplmeknmeobanaaMslice
namespace Go.Proofs.Ytplmeknmeobanaa.Q
open Go.RowKit Go.Proofs.YtplmeknmeobanaaW.PrintWords Go.Proofs.YtplmeknmeobanaaW.PrintLast Go.Proofs.YtplmeknmeobanaaW.PrintMore
open Go.Proofs.YtplmeknmeobanaaW.PrintWords renaming below_alloc → lA, pw_below_drewN → lN, below_drew1 → lD, below_step → lT, below_size → lZ, Aside0.mk → aM
open List renaming setIfInBounds_toArray → sA, set_cons_zero → sB, set_cons_succ → sC
open Bool renaming true → T, false → F
attribute [local go_sem] max2_int min2_int max_two min_two max_three min_three max_four min_four   -- for this text's walks alone
set_option linter.unusedVariables false
set_option linter.unusedSimpArgs false

attribute [local go_sem high] eqA48
/-! ### billiardlaw18_CorrectOrderFree: function 4 -/
-- IMPORT Derived.Test.YtplmeknmeobanaaMslice
mutual
def billiardlaw18_CorrectOrderFree.j0 : Nat → List (S37) → Int → List (S32) → Bool → Option (Bool)
 | 0, _, _, _, _ => none
 | k + 1, x1, x2, x7, x31 => if x31 = true then ((billiardlaw18_awake.f k).bind fun t272 => (some t272)) else (if (wrap64 ((x1.length : Int) + 1)) = 0 then (none) else ((correct_Shifts.f x7 x1).bind fun t273 => ((some (([] : List (S37)) : List (S37))).bind fun y276 => (if 0 ≤ (Int.tmod (wrap64 (x2)) (wrap64 ((x1.length : Int) + 1))) then (if (Int.tmod (wrap64 (x2)) (wrap64 ((x1.length : Int) + 1))) ≤ (x1.length : Int) then ((some (x1.drop ((Int.tmod (wrap64 (x2)) (wrap64 ((x1.length : Int) + 1))) : Int).toNat : List (S37))).bind fun y279 => (if y276.length + y279.length < 7036874417766 then ((some (y276 ++ y279 : List (S37))).bind fun y283 => ((some (x1.take ((Int.tmod (wrap64 (x2)) (wrap64 ((x1.length : Int) + 1))) : Int).toNat : List (S37))).bind fun y286 => (if y283.length + y286.length < 7036874417766 then ((correct_Shifts.f x7 (y283 ++ y286)).bind fun t293 => ((correct_Shifts.f x7 (x1.take ((Int.tmod (wrap64 (x2)) (wrap64 ((x1.length : Int) + 1))) : Int).toNat)).bind fun t300 => ((correct_Shifts.f x7 (x1.drop ((Int.tmod (wrap64 (x2)) (wrap64 ((x1.length : Int) + 1))) : Int).toNat)).bind fun t307 => (if (t273.length : Int) = (x7.length : Int) then (if (t300.length : Int) = (x7.length : Int) then (if (t307.length : Int) = (x7.length : Int) then ((billiardlaw18_shifts.f k t273).bind fun t310 => ((billiardlaw18_shifts.f k t293).bind fun t313 => ((billiardref18_Same.f k t310 t313).bind fun t316 => (billiardlaw18_CorrectOrderFree.j1 k x7 t273 t300 t307 (!t316))))) else (billiardlaw18_CorrectOrderFree.j1 k x7 t273 t300 t307 true)) else (billiardlaw18_CorrectOrderFree.j1 k x7 t273 t300 t307 true)) else (billiardlaw18_CorrectOrderFree.j1 k x7 t273 t300 t307 true))))) else (none)))) else (none))) else (none)) else (none)))))
def billiardlaw18_CorrectOrderFree.j1 : Nat → List (S32) → List (S48) → List (S48) → List (S48) → Bool → Option (Bool)
 | 0, _, _, _, _, _ => none
 | k + 1, x7, x10, x12, x13, x89 => if x89 = true then (some false) else (billiardlaw18_CorrectOrderFree.l0 k x7 x10 x12 x13 0)
def billiardlaw18_CorrectOrderFree.l0 : Nat → List (S32) → List (S48) → List (S48) → List (S48) → Int → Option (Bool)
 | 0, _, _, _, _, _ => none
 | k + 1, x7, x10, x12, x13, x14 => if x14 < (x7.length : Int) then (if 0 ≤ x14 then (if x14 < (x10.length : Int) then (if x14 < (x12.length : Int) then (if x14 < (x13.length : Int) then (if ((rd_T48 x10 x14).f0) = (wrap64 (((rd_T48 x12 x14).f0) + ((rd_T48 x13 x14).f0))) then (if ((rd_T48 x10 x14).f1) = (wrap64 (((rd_T48 x12 x14).f1) + ((rd_T48 x13 x14).f1))) then (if ((rd_T32 x7 x14).f3) = 0 then (if (!(((rd_T48 x10 x14).f0) == 0) || (!(((rd_T48 x10 x14).f1) == 0))) = true then (some false) else (billiardlaw18_CorrectOrderFree.l0 k x7 x10 x12 x13 (wrap64 (x14 + 1)))) else (billiardlaw18_CorrectOrderFree.l0 k x7 x10 x12 x13 (wrap64 (x14 + 1)))) else (some false)) else (some false)) else (none)) else (none)) else (none)) else (none)) else (some true)
end
def billiardlaw18_CorrectOrderFree.f (k : Nat) (l0 : List (S32)) (l1 : List (S37)) (a2 : Int) : Option (Bool) := (billiardref11_View.f k l0).bind fun bt266 => ((billiardlaw18_awake.f k).bind fun t270 => (if t270 = true then (if bt266.2 = true then ((billiardref18_Right.f k bt266.1 l1).bind fun t271 => (billiardlaw18_CorrectOrderFree.j0 k l1 a2 bt266.1 (!t271))) else (billiardlaw18_CorrectOrderFree.j0 k l1 a2 bt266.1 true)) else (billiardlaw18_CorrectOrderFree.j0 k l1 a2 bt266.1 true)))
theorem billiardlaw18_CorrectOrderFree.mono_l : ∀ k, (∀ y0 y1 y2 y3, LeO (billiardlaw18_CorrectOrderFree.j0 k y0 y1 y2 y3) (billiardlaw18_CorrectOrderFree.j0 (k + 1) y0 y1 y2 y3)) ∧ (∀ y0 y1 y2 y3 y4, LeO (billiardlaw18_CorrectOrderFree.j1 k y0 y1 y2 y3 y4) (billiardlaw18_CorrectOrderFree.j1 (k + 1) y0 y1 y2 y3 y4)) ∧ (∀ y0 y1 y2 y3 y4, LeO (billiardlaw18_CorrectOrderFree.l0 k y0 y1 y2 y3 y4) (billiardlaw18_CorrectOrderFree.l0 (k + 1) y0 y1 y2 y3 y4))
 | 0 => ⟨fun _ _ _ _ r h => by simp [billiardlaw18_CorrectOrderFree.j0] at h, fun _ _ _ _ _ r h => by simp [billiardlaw18_CorrectOrderFree.j1] at h, fun _ _ _ _ _ r h => by simp [billiardlaw18_CorrectOrderFree.l0] at h⟩
 | k + 1 => by
  obtain ⟨ih0, ih1, ih2⟩ := billiardlaw18_CorrectOrderFree.mono_l k
  refine ⟨?_, ?_, ?_⟩
  ·intro y0 y1 y2 y3
   unfold billiardlaw18_CorrectOrderFree.j0
   repeat' first
   | (with_reducible exact ih0 _ _ _ _)
   | (with_reducible exact ih1 _ _ _ _ _)
   | (with_reducible exact ih2 _ _ _ _ _)
   | (with_reducible exact billiardlaw18_awake.mono _)
   | (with_reducible exact billiardlaw18_shifts.mono _ _)
   | (with_reducible exact billiardref11_View.mono _ _)
   | (with_reducible exact billiardref18_Right.mono _ _ _)
   | (with_reducible exact billiardref18_Same.mono _ _ _)
   | (with_reducible exact LeO.refl _)
   | (with_reducible exact LeO.none _)
   | (with_reducible refine LeO.ite ?_ ?_)
   | (with_reducible refine LeO.bind ?_ (fun _ => ?_))
   | exact ih0 _ _ _ _
   | exact ih1 _ _ _ _ _
   | exact ih2 _ _ _ _ _
   | exact billiardlaw18_awake.mono _
   | exact billiardlaw18_shifts.mono _ _
   | exact billiardref11_View.mono _ _
   | exact billiardref18_Right.mono _ _ _
   | exact billiardref18_Same.mono _ _ _
   | exact LeO.none _
   | refine LeO.ite ?_ ?_
   | refine LeO.bind ?_ (fun _ => ?_)
  ·intro y0 y1 y2 y3 y4
   unfold billiardlaw18_CorrectOrderFree.j1
   repeat' first
   | (with_reducible exact ih0 _ _ _ _)
   | (with_reducible exact ih1 _ _ _ _ _)
   | (with_reducible exact ih2 _ _ _ _ _)
   | (with_reducible exact billiardlaw18_awake.mono _)
   | (with_reducible exact billiardlaw18_shifts.mono _ _)
   | (with_reducible exact billiardref11_View.mono _ _)
   | (with_reducible exact billiardref18_Right.mono _ _ _)
   | (with_reducible exact billiardref18_Same.mono _ _ _)
   | (with_reducible exact LeO.refl _)
   | (with_reducible exact LeO.none _)
   | (with_reducible refine LeO.ite ?_ ?_)
   | (with_reducible refine LeO.bind ?_ (fun _ => ?_))
   | exact ih0 _ _ _ _
   | exact ih1 _ _ _ _ _
   | exact ih2 _ _ _ _ _
   | exact billiardlaw18_awake.mono _
   | exact billiardlaw18_shifts.mono _ _
   | exact billiardref11_View.mono _ _
   | exact billiardref18_Right.mono _ _ _
   | exact billiardref18_Same.mono _ _ _
   | exact LeO.none _
   | refine LeO.ite ?_ ?_
   | refine LeO.bind ?_ (fun _ => ?_)
  ·intro y0 y1 y2 y3 y4
   unfold billiardlaw18_CorrectOrderFree.l0
   repeat' first
   | (with_reducible exact ih0 _ _ _ _)
   | (with_reducible exact ih1 _ _ _ _ _)
   | (with_reducible exact ih2 _ _ _ _ _)
   | (with_reducible exact billiardlaw18_awake.mono _)
   | (with_reducible exact billiardlaw18_shifts.mono _ _)
   | (with_reducible exact billiardref11_View.mono _ _)
   | (with_reducible exact billiardref18_Right.mono _ _ _)
   | (with_reducible exact billiardref18_Same.mono _ _ _)
   | (with_reducible exact LeO.refl _)
   | (with_reducible exact LeO.none _)
   | (with_reducible refine LeO.ite ?_ ?_)
   | (with_reducible refine LeO.bind ?_ (fun _ => ?_))
   | exact ih0 _ _ _ _
   | exact ih1 _ _ _ _ _
   | exact ih2 _ _ _ _ _
   | exact billiardlaw18_awake.mono _
   | exact billiardlaw18_shifts.mono _ _
   | exact billiardref11_View.mono _ _
   | exact billiardref18_Right.mono _ _ _
   | exact billiardref18_Same.mono _ _ _
   | exact LeO.none _
   | refine LeO.ite ?_ ?_
   | refine LeO.bind ?_ (fun _ => ?_)
theorem billiardlaw18_CorrectOrderFree.mono : ∀ a0 a1 a2 k, LeO (billiardlaw18_CorrectOrderFree.f k a0 a1 a2) (billiardlaw18_CorrectOrderFree.f (k + 1) a0 a1 a2) := by
 intro a0 a1 a2 k
 obtain ⟨ih0, ih1, ih2⟩ := billiardlaw18_CorrectOrderFree.mono_l k
 unfold billiardlaw18_CorrectOrderFree.f
 repeat' first
   | (with_reducible exact ih0 _ _ _ _)
   | (with_reducible exact ih1 _ _ _ _ _)
   | (with_reducible exact ih2 _ _ _ _ _)
   | (with_reducible exact billiardlaw18_awake.mono _)
   | (with_reducible exact billiardlaw18_shifts.mono _ _)
   | (with_reducible exact billiardref11_View.mono _ _)
   | (with_reducible exact billiardref18_Right.mono _ _ _)
   | (with_reducible exact billiardref18_Same.mono _ _ _)
   | (with_reducible exact LeO.refl _)
   | (with_reducible exact LeO.none _)
   | (with_reducible refine LeO.ite ?_ ?_)
   | (with_reducible refine LeO.bind ?_ (fun _ => ?_))
   | exact ih0 _ _ _ _
   | exact ih1 _ _ _ _ _
   | exact ih2 _ _ _ _ _
   | exact billiardlaw18_awake.mono _
   | exact billiardlaw18_shifts.mono _ _
   | exact billiardref11_View.mono _ _
   | exact billiardref18_Right.mono _ _ _
   | exact billiardref18_Same.mono _ _ _
   | exact LeO.none _
   | refine LeO.ite ?_ ?_
   | refine LeO.bind ?_ (fun _ => ?_)
def billiardlaw18_CorrectOrderFree.T6 : Bool × List (List Nat × List Nat) := (true, [([], []), ([], []), ([], []), ([], []), ([2, 3], [2, 3]), ([1, 4], [1, 4]), ([], []), ([], []), ([6, 7], [6, 7]), ([5, 8, 5], [5, 8]), ([0, 9, 9], [0, 9]), ([10, 10, 0, 1, 2, 3, 4, 5, 6, 7, 8, 9, 10], [10])])
def billiardlaw18_CorrectOrderFree.B6 : List Nat := [0, 0, 0, 0, 12, 30, 0, 0, 192, 510, 1023, 2047]
theorem billiardlaw18_CorrectOrderFree.tab6 : rtab .any (opsOf Try.f4 6) = billiardlaw18_CorrectOrderFree.T6 := by kernel_rfl
theorem billiardlaw18_CorrectOrderFree.bits6 : waitsOk billiardlaw18_CorrectOrderFree.T6.2 billiardlaw18_CorrectOrderFree.B6 = true := by kernel_rfl
def billiardlaw18_CorrectOrderFree.T14 : Bool × List (List Nat × List Nat) := (true, [([], []), ([], []), ([0, 1], [0, 1]), ([2], [2]), ([3], [3]), ([], []), ([], []), ([5, 6], [5, 6]), ([7], [7]), ([8], [8]), ([], []), ([], []), ([10, 11], [10, 11]), ([12], [12]), ([13], [13]), ([9, 14], [9, 14]), ([4, 15], [4, 15]), ([16], [16]), ([17], [17]), ([17], [17]), ([18, 19, 17], [17, 18, 19]), ([20, 17], [17, 20]), ([21, 17], [17, 21]), ([17], [17]), ([17], [17]), ([23, 24, 17], [17, 23, 24]), ([25, 17], [17, 25]), ([26, 17], [17, 26]), ([17], [17]), ([17], [17]), ([28, 29, 17], [17, 28, 29]), ([30, 17], [17, 30]), ([31, 17], [17, 31]), ([27, 32, 17], [17, 27, 32]), ([22, 33, 17], [17, 22, 33]), ([17, 34], [17, 34]), ([35, 17], [35]), ([36], [36]), ([36], [36]), ([37, 38, 36], [36, 37, 38]), ([39, 36], [36, 39]), ([40, 36], [36, 40]), ([41, 36], [36, 41]), ([42, 36, 36], [36, 42]), ([43], [43]), ([43], [43]), ([44, 45, 43], [43, 44, 45]), ([46, 43], [43, 46]), ([43], [43]), ([47, 48, 43], [43, 47, 48]), ([43, 49, 36], [36, 43, 49]), ([36, 50], [36, 50])])
def billiardlaw18_CorrectOrderFree.B14 : List Nat := [0, 0, 3, 7, 15, 0, 0, 96, 224, 480, 0, 0, 3072, 7168, 15360, 32736, 65535, 131071, 262143, 262143, 1048575, 2097151, 4194303, 262143, 262143, 25427967, 58982399, 126091263, 262143, 262143, 805568511, 1879310335, 4026793983, 8581808127, 17179869183, 34359738367, 68719476735, 137438953471, 137438953471, 549755813887, 1099511627775, 2199023255551, 4398046511103, 8796093022207, 17592186044415, 17592186044415, 70368744177663, 140737488355327, 17592186044415, 562949953421311, 1125899906842623, 2251799813685247]
theorem billiardlaw18_CorrectOrderFree.tab14 : rtab .any (opsOf Try.f4 14) = billiardlaw18_CorrectOrderFree.T14 := by kernel_rfl
theorem billiardlaw18_CorrectOrderFree.bits14 : waitsOk billiardlaw18_CorrectOrderFree.T14.2 billiardlaw18_CorrectOrderFree.B14 = true := by kernel_rfl
theorem billiardlaw18_CorrectOrderFree.j1.dead {k : Nat} {p0 : List (S32)} {p1 : List (S48)} {p2 : List (S48)} {p3 : List (S48)} {r : Bool} (h : billiardlaw18_CorrectOrderFree.j1 k p0 p1 p2 p3 true = some r) (hr : r = true) : False := by
 cases k with
 | zero => simp only [billiardlaw18_CorrectOrderFree.j1] at h; cases h
 | succ k =>
  have e : billiardlaw18_CorrectOrderFree.j1 (k + 1) p0 p1 p2 p3 true = some false := by simp only [billiardlaw18_CorrectOrderFree.j1]; rfl
  rw [e, hr] at h; cases h
set_option maxHeartbeats 8000000 in
set_option maxRecDepth 100000 in
theorem billiardlaw18_CorrectOrderFree.calls (k : Nat) (A0 : Option Addr) (c0 : Nat) (l0 : List (S32)) (A1 : Option Addr) (c1 : Nat) (l1 : List (S37)) (a2 : Int) (r : Bool) (w : World) (hr0 : Kd.C k32 w A0 l0.length l0) (hc0 : l0.length ≤ c0) (hr1 : Kd.C k37 w A1 l1.length l1) (hc1 : l1.length ≤ c1) (h : billiardlaw18_CorrectOrderFree.f k l0 l1 a2 = some r) (hr : r = true) :
  Calls Try.prog 4 #[.slice A0 l0.length c0, .slice A1 l1.length c1, .int .u8 a2] w fun e w' => e = .returned (.bool r) ∧ Below w.heap.size w w' := by
 have HR := aM hr
 clear hr
 have hu48 := Try.underlying48
 have HR0 := aM hr0
 have HC0 := aM hc0
 clear hr0 hc0
 have HR1 := aM hr1
 have HC1 := aM hc1
 clear hr1 hc1
 have HB := aM (Below.refl w.heap.size w)
 have H : ((billiardref11_View.f k l0).bind fun bt266 => ((billiardlaw18_awake.f k).bind fun t270 => (if t270 = true then (if bt266.2 = true then ((billiardref18_Right.f k bt266.1 l1).bind fun t271 => (billiardlaw18_CorrectOrderFree.j0 k l1 a2 bt266.1 (!t271))) else (billiardlaw18_CorrectOrderFree.j0 k l1 a2 bt266.1 true)) else (billiardlaw18_CorrectOrderFree.j0 k l1 a2 bt266.1 true)))) = some r := h
 clear h
 replace H := Option.bind_eq_some_iff.mp H
 obtain ⟨⟨t266, t267⟩, A40, H⟩ := H
 replace H : ((billiardlaw18_awake.f k).bind fun t270 => (if t270 = true then (if t267 = true then ((billiardref18_Right.f k t266 l1).bind fun t271 => (billiardlaw18_CorrectOrderFree.j0 k l1 a2 t266 (!t271))) else (billiardlaw18_CorrectOrderFree.j0 k l1 a2 t266 true)) else (billiardlaw18_CorrectOrderFree.j0 k l1 a2 t266 true))) = some r := H
 have A4 := aM A40
 clear A40
 have HC5 := aM H
 clear H
 go_enter Try.func4, Try.ntmps4
 go_upto_region 2 with (first | ((with_reducible refine gate_callee (f := 6) rfl ?_); refine goesL_ (some 17) rfl rfl Try.func6 (by kernel_rfl) rfl #[.slice A0 l0.length c0] rfl (by (try simp only [List.map_toArray, List.map_cons, List.map_nil]); first | done | rfl | (simp only [List.length_drop, List.length_take]; rfl)) ?_; (with_reducible refine (billiardref11_View.calls k _ _ l0 t266 t267 _ ?side1 ?side2 A4.out).mono ?_); (case side1 => repeat (first | exact HR0.out | (with_reducible refine Kd.C_alloc ?_ _) | (with_reducible refine Kd.C_drewN ?_ _) | (with_reducible refine Kd.C_drew ?_))); (case side2 => exact HC0.out); rintro e w6 ⟨v268, rfl, ho0, hb⟩; refine ⟨_, rfl, ?_⟩; have n0_ := aM (Kd.R_lower ho0 (lZ (by repeat (first | (with_reducible first | exact HB.out | apply lA | apply lN | apply lD) | exact HB.out)))); have n1_ := aM (lT (by repeat (first | (with_reducible first | exact HB.out | apply lA | apply lN | apply lD) | exact HB.out)) hb); clear HB; have HO269 := n0_; have HB := n1_; clear n0_ n1_; (try clear hb); (try clear hb2); (try clear hk); (try clear hi); (try clear ho0)))
 (try simp only [Act.put, sA, sB, sC])
 go_cut [31] (fun v31 wc => ∃ (kq : Nat) (x31_4 : Bool), v31 = .bool x31_4 ∧ Aside0 (billiardlaw18_CorrectOrderFree.j0 kq l1 a2 t266 x31_4 = some r) ∧ Aside0 (kq ≤ k) ∧ Aside0 (Kd.R k32 32 wc w.heap.size (fun _ => True) v268 t266) ∧ Aside0 (Below w.heap.size w wc))
 case first =>
  have H := HC5.out
  clear HC5
  replace H := Option.bind_eq_some_iff.mp H
  obtain ⟨t270, A70, H⟩ := H
  replace H : (if t270 = true then (if t267 = true then ((billiardref18_Right.f k t266 l1).bind fun t271 => (billiardlaw18_CorrectOrderFree.j0 k l1 a2 t266 (!t271))) else (billiardlaw18_CorrectOrderFree.j0 k l1 a2 t266 true)) else (billiardlaw18_CorrectOrderFree.j0 k l1 a2 t266 true)) = some r := H
  have A7 := aM A70
  clear A70
  by_cases c8 : t270 = true
  ·subst c8
   have H1 : (if t267 = true then ((billiardref18_Right.f k t266 l1).bind fun t271 => (billiardlaw18_CorrectOrderFree.j0 k l1 a2 t266 (!t271))) else (billiardlaw18_CorrectOrderFree.j0 k l1 a2 t266 true)) = some r := by rw [if_pos rfl] at H; exact H
   clear H
   have H := H1
   clear H1
   by_cases c9 : t267 = true
   ·subst c9
    have H1 : ((billiardref18_Right.f k t266 l1).bind fun t271 => (billiardlaw18_CorrectOrderFree.j0 k l1 a2 t266 (!t271))) = some r := by rw [if_pos rfl] at H; exact H
    clear H
    have H := H1
    clear H1
    replace H := Option.bind_eq_some_iff.mp H
    obtain ⟨t271, A100, H⟩ := H
    replace H : (billiardlaw18_CorrectOrderFree.j0 k l1 a2 t266 (!t271)) = some r := H
    have A10 := aM A100
    clear A100
    have H' := aM H
    clear H
    go_wp2_with (first | ((with_reducible refine gate_callee (f := 7) rfl ?_); refine goesL_ (some 20) rfl rfl Try.func7 (by kernel_rfl) rfl #[] rfl (by (try simp only [List.map_toArray, List.map_cons, List.map_nil]); first | done | rfl | (simp only [List.length_drop, List.length_take]; rfl)) ?_; (with_reducible refine (billiardlaw18_awake.calls k  true _ A7.out).mono ?_); rintro e w11 ⟨rfl, hb⟩; refine ⟨_, rfl, ?_⟩; have n0_ := aM (Kd.R_below (by (with_reducible repeat (first | apply Kd.R_alloc | apply Kd.R_drewN | apply Kd.R_drew)); exact HO269.out) hb); have n1_ := aM (lT (by repeat (first | (with_reducible first | exact HB.out | apply lA | apply lN | apply lD) | exact HB.out)) hb); clear HO269; clear HB; have HO269 := n0_; have HB := n1_; clear n0_ n1_; (try clear hb); (try clear hb2); (try clear hk); (try clear hi); obtain ⟨Ao12, co12, eo12⟩ := Kd.R_slice HO269.out; subst eo12) | (go_at_call 8; (with_reducible refine (billiardref18_Right.calls k _ _ t266 _ _ l1 t271 _ ?side1 ?side2 ?side3 ?side4 A10.out).mono ?_); (case side1 => repeat (first | exact (Kd.R_reads' HO269.out).2.2 | (with_reducible refine Kd.C_alloc ?_ _) | (with_reducible refine Kd.C_drewN ?_ _) | (with_reducible refine Kd.C_drew ?_))); (case side2 => exact (Kd.R_reads' HO269.out).2.1); (case side3 => repeat (first | exact (Kd.C_below HR1.out HB.out) | (with_reducible refine Kd.C_alloc ?_ _) | (with_reducible refine Kd.C_drewN ?_ _) | (with_reducible refine Kd.C_drew ?_))); (case side4 => exact HC1.out); rintro e w13 ⟨rfl, hb⟩; have n0_ := aM (Kd.R_below (by (with_reducible repeat (first | apply Kd.R_alloc | apply Kd.R_drewN | apply Kd.R_drew)); exact HO269.out) hb); have n1_ := aM (lT (by repeat (first | (with_reducible first | exact HB.out | apply lA | apply lN | apply lD) | exact HB.out)) hb); clear HO269; clear HB; have HO269 := n0_; have HB := n1_; clear n0_ n1_; (try clear hb); (try clear hb2); (try clear hk); (try clear hi)))
    go_meet
    case rel => exact ⟨_, (!t271), (by first | rfl | (simp; done) | (simp [*]; done)), H', ⟨by first | omega | exact Nat.le_refl _⟩, ⟨by (with_reducible repeat (first | apply Kd.R_alloc | apply Kd.R_drewN | apply Kd.R_drew)); exact HO269.out⟩, ⟨by repeat (first | (with_reducible first | exact HB.out | apply lA | apply lN | apply lD) | exact HB.out)⟩⟩
   ·replace c9 := Bool.eq_false_iff.mpr c9
    subst c9
    have H1 : (billiardlaw18_CorrectOrderFree.j0 k l1 a2 t266 true) = some r := by rw [if_neg (show ¬ (false = true) by decide)] at H; exact H
    clear H
    have H := H1
    clear H1
    have H' := aM H
    clear H
    go_wp2_with (first | ((with_reducible refine gate_callee (f := 7) rfl ?_); refine goesL_ (some 20) rfl rfl Try.func7 (by kernel_rfl) rfl #[] rfl (by (try simp only [List.map_toArray, List.map_cons, List.map_nil]); first | done | rfl | (simp only [List.length_drop, List.length_take]; rfl)) ?_; (with_reducible refine (billiardlaw18_awake.calls k  true _ A7.out).mono ?_); rintro e w14 ⟨rfl, hb⟩; refine ⟨_, rfl, ?_⟩; have n0_ := aM (Kd.R_below (by (with_reducible repeat (first | apply Kd.R_alloc | apply Kd.R_drewN | apply Kd.R_drew)); exact HO269.out) hb); have n1_ := aM (lT (by repeat (first | (with_reducible first | exact HB.out | apply lA | apply lN | apply lD) | exact HB.out)) hb); clear HO269; clear HB; have HO269 := n0_; have HB := n1_; clear n0_ n1_; (try clear hb); (try clear hb2); (try clear hk); (try clear hi)))
    go_meet
    case rel => exact ⟨_, (true), (by first | rfl | (simp; done) | (simp [*]; done)), H', ⟨by first | omega | exact Nat.le_refl _⟩, ⟨by (with_reducible repeat (first | apply Kd.R_alloc | apply Kd.R_drewN | apply Kd.R_drew)); exact HO269.out⟩, ⟨by repeat (first | (with_reducible first | exact HB.out | apply lA | apply lN | apply lD) | exact HB.out)⟩⟩
  ·replace c8 := Bool.eq_false_iff.mpr c8
   subst c8
   exact absurd (billiardlaw18_awake.only A7.out) (by decide)
 case rest =>
  clear HC5
  try clear c1
  try clear p2
  try clear c4
  try clear c6
  try clear c7
  try clear c8
  try clear c9
  obtain ⟨kq, x31_4, rfl, HA, HJ4, HO_7, HB⟩ := hcut
  cases kq with
  | zero => exact absurd HA.out (by simp [billiardlaw18_CorrectOrderFree.j0])
  | succ kj4 =>
   have H := HA.out
   clear HA
   simp only [billiardlaw18_CorrectOrderFree.j0] at H
   by_cases c15 : x31_4 = true
   ·subst c15
    have H1 : ((billiardlaw18_awake.f kj4).bind fun t272 => (some t272)) = some r := by rw [if_pos rfl] at H; exact H
    clear H
    have H := H1
    clear H1
    replace H := Option.bind_eq_some_iff.mp H
    obtain ⟨t272, A160, H⟩ := H
    replace H : (some t272) = some r := H
    have A16 := aM A160
    clear A160
    obtain rfl := Option.some.inj H
    go_wp2_with (first | ((with_reducible refine gate_callee (f := 7) rfl ?_); refine goesL_ (some 32) rfl rfl Try.func7 (by kernel_rfl) rfl #[] rfl (by (try simp only [List.map_toArray, List.map_cons, List.map_nil]); first | done | rfl | (simp only [List.length_drop, List.length_take]; rfl)) ?_; (with_reducible refine (billiardlaw18_awake.calls kj4  t272 _ A16.out).mono ?_); rintro e w17 ⟨rfl, hb⟩; refine ⟨_, rfl, ?_⟩; have n0_ := aM (Kd.R_below (by (with_reducible repeat (first | apply Kd.R_alloc | apply Kd.R_drewN | apply Kd.R_drew)); exact HO_7.out) hb); have n1_ := aM (lT (by repeat (first | (with_reducible first | exact HB.out | apply lA | apply lN | apply lD) | exact HB.out)) hb); clear HO_7; clear HB; have HO_7 := n0_; have HB := n1_; clear n0_ n1_; (try clear hb); (try clear hb2); (try clear hk); (try clear hi)))
    go_ret
    exact ⟨by first | rfl | (simp [errW_none, errW_some] <;> rfl) | (simp [*, errW_none, errW_some] <;> rfl), by repeat (first | (with_reducible first | exact HB.out | apply lA | apply lN | apply lD) | exact HB.out)⟩
   ·replace c15 := Bool.eq_false_iff.mpr c15
    subst c15
    have H1 : (if (wrap64 ((l1.length : Int) + 1)) = 0 then (none) else ((correct_Shifts.f t266 l1).bind fun t273 => ((some (([] : List (S37)) : List (S37))).bind fun y276 => (if 0 ≤ (Int.tmod (wrap64 (a2)) (wrap64 ((l1.length : Int) + 1))) then (if (Int.tmod (wrap64 (a2)) (wrap64 ((l1.length : Int) + 1))) ≤ (l1.length : Int) then ((some (l1.drop ((Int.tmod (wrap64 (a2)) (wrap64 ((l1.length : Int) + 1))) : Int).toNat : List (S37))).bind fun y279 => (if y276.length + y279.length < 7036874417766 then ((some (y276 ++ y279 : List (S37))).bind fun y283 => ((some (l1.take ((Int.tmod (wrap64 (a2)) (wrap64 ((l1.length : Int) + 1))) : Int).toNat : List (S37))).bind fun y286 => (if y283.length + y286.length < 7036874417766 then ((correct_Shifts.f t266 (y283 ++ y286)).bind fun t293 => ((correct_Shifts.f t266 (l1.take ((Int.tmod (wrap64 (a2)) (wrap64 ((l1.length : Int) + 1))) : Int).toNat)).bind fun t300 => ((correct_Shifts.f t266 (l1.drop ((Int.tmod (wrap64 (a2)) (wrap64 ((l1.length : Int) + 1))) : Int).toNat)).bind fun t307 => (if (t273.length : Int) = (t266.length : Int) then (if (t300.length : Int) = (t266.length : Int) then (if (t307.length : Int) = (t266.length : Int) then ((billiardlaw18_shifts.f kj4 t273).bind fun t310 => ((billiardlaw18_shifts.f kj4 t293).bind fun t313 => ((billiardref18_Same.f kj4 t310 t313).bind fun t316 => (billiardlaw18_CorrectOrderFree.j1 kj4 t266 t273 t300 t307 (!t316))))) else (billiardlaw18_CorrectOrderFree.j1 kj4 t266 t273 t300 t307 true)) else (billiardlaw18_CorrectOrderFree.j1 kj4 t266 t273 t300 t307 true)) else (billiardlaw18_CorrectOrderFree.j1 kj4 t266 t273 t300 t307 true))))) else (none)))) else (none))) else (none)) else (none))))) = some r := by rw [if_neg (show ¬ (false = true) by decide)] at H; exact H
    clear H
    have H := H1
    clear H1
    by_cases c18 : (wrap64 ((l1.length : Int) + 1)) = 0
    ·rw [if_pos c18] at H
     exact absurd H (by simp)
    ·rw [if_neg c18] at H
     have c18b0 : ((wrap64 ((l1.length : Int) + 1)) == 0) = false := beq_eq_false_iff_ne.mpr c18
     have c18b1 : ((wrap64 ((l1.length : Int) + 1)) != 0) = true := bne_iff_ne.mpr c18
     replace H := Option.bind_eq_some_iff.mp H
     obtain ⟨t273, A190, H⟩ := H
     replace H : ((some (([] : List (S37)) : List (S37))).bind fun y276 => (if 0 ≤ (Int.tmod (wrap64 (a2)) (wrap64 ((l1.length : Int) + 1))) then (if (Int.tmod (wrap64 (a2)) (wrap64 ((l1.length : Int) + 1))) ≤ (l1.length : Int) then ((some (l1.drop ((Int.tmod (wrap64 (a2)) (wrap64 ((l1.length : Int) + 1))) : Int).toNat : List (S37))).bind fun y279 => (if y276.length + y279.length < 7036874417766 then ((some (y276 ++ y279 : List (S37))).bind fun y283 => ((some (l1.take ((Int.tmod (wrap64 (a2)) (wrap64 ((l1.length : Int) + 1))) : Int).toNat : List (S37))).bind fun y286 => (if y283.length + y286.length < 7036874417766 then ((correct_Shifts.f t266 (y283 ++ y286)).bind fun t293 => ((correct_Shifts.f t266 (l1.take ((Int.tmod (wrap64 (a2)) (wrap64 ((l1.length : Int) + 1))) : Int).toNat)).bind fun t300 => ((correct_Shifts.f t266 (l1.drop ((Int.tmod (wrap64 (a2)) (wrap64 ((l1.length : Int) + 1))) : Int).toNat)).bind fun t307 => (if (t273.length : Int) = (t266.length : Int) then (if (t300.length : Int) = (t266.length : Int) then (if (t307.length : Int) = (t266.length : Int) then ((billiardlaw18_shifts.f kj4 t273).bind fun t310 => ((billiardlaw18_shifts.f kj4 t293).bind fun t313 => ((billiardref18_Same.f kj4 t310 t313).bind fun t316 => (billiardlaw18_CorrectOrderFree.j1 kj4 t266 t273 t300 t307 (!t316))))) else (billiardlaw18_CorrectOrderFree.j1 kj4 t266 t273 t300 t307 true)) else (billiardlaw18_CorrectOrderFree.j1 kj4 t266 t273 t300 t307 true)) else (billiardlaw18_CorrectOrderFree.j1 kj4 t266 t273 t300 t307 true))))) else (none)))) else (none))) else (none)) else (none))) = some r := H
     have A19 := aM A190
     clear A190
     obtain ⟨y276, hy276⟩ : ∃ y_ : List (S37), y_ = (([] : List (S37))) := ⟨_, rfl⟩
     replace H : (if 0 ≤ (Int.tmod (wrap64 (a2)) (wrap64 ((l1.length : Int) + 1))) then (if (Int.tmod (wrap64 (a2)) (wrap64 ((l1.length : Int) + 1))) ≤ (l1.length : Int) then ((some (l1.drop ((Int.tmod (wrap64 (a2)) (wrap64 ((l1.length : Int) + 1))) : Int).toNat : List (S37))).bind fun y279 => (if y276.length + y279.length < 7036874417766 then ((some (y276 ++ y279 : List (S37))).bind fun y283 => ((some (l1.take ((Int.tmod (wrap64 (a2)) (wrap64 ((l1.length : Int) + 1))) : Int).toNat : List (S37))).bind fun y286 => (if y283.length + y286.length < 7036874417766 then ((correct_Shifts.f t266 (y283 ++ y286)).bind fun t293 => ((correct_Shifts.f t266 (l1.take ((Int.tmod (wrap64 (a2)) (wrap64 ((l1.length : Int) + 1))) : Int).toNat)).bind fun t300 => ((correct_Shifts.f t266 (l1.drop ((Int.tmod (wrap64 (a2)) (wrap64 ((l1.length : Int) + 1))) : Int).toNat)).bind fun t307 => (if (t273.length : Int) = (t266.length : Int) then (if (t300.length : Int) = (t266.length : Int) then (if (t307.length : Int) = (t266.length : Int) then ((billiardlaw18_shifts.f kj4 t273).bind fun t310 => ((billiardlaw18_shifts.f kj4 t293).bind fun t313 => ((billiardref18_Same.f kj4 t310 t313).bind fun t316 => (billiardlaw18_CorrectOrderFree.j1 kj4 t266 t273 t300 t307 (!t316))))) else (billiardlaw18_CorrectOrderFree.j1 kj4 t266 t273 t300 t307 true)) else (billiardlaw18_CorrectOrderFree.j1 kj4 t266 t273 t300 t307 true)) else (billiardlaw18_CorrectOrderFree.j1 kj4 t266 t273 t300 t307 true))))) else (none)))) else (none))) else (none)) else (none)) = some r := by first | (rw [hy276]; with_reducible exact H) | (have H2_ := (Option.bind_some _ _).symm.trans H; rw [hy276]; with_reducible exact H2_) | (have H2_ := (Option.bind_some _ _).symm.trans H; with_reducible exact H2_) | with_reducible exact H | (rw [hy276]; exact H) | exact H
     have Ny276 := aM hy276
     clear hy276
     obtain ⟨ji20, hji20⟩ : ∃ j_ : Int, (Int.tmod (wrap64 (a2)) (wrap64 ((l1.length : Int) + 1))) = j_ := ⟨_, rfl⟩
     replace H : (if 0 ≤ (ji20) then (if (ji20) ≤ (l1.length : Int) then ((some (l1.drop ((ji20) : Int).toNat : List (S37))).bind fun y279 => (if y276.length + y279.length < 7036874417766 then ((some (y276 ++ y279 : List (S37))).bind fun y283 => ((some (l1.take ((ji20) : Int).toNat : List (S37))).bind fun y286 => (if y283.length + y286.length < 7036874417766 then ((correct_Shifts.f t266 (y283 ++ y286)).bind fun t293 => ((correct_Shifts.f t266 (l1.take ((ji20) : Int).toNat)).bind fun t300 => ((correct_Shifts.f t266 (l1.drop ((ji20) : Int).toNat)).bind fun t307 => (if (t273.length : Int) = (t266.length : Int) then (if (t300.length : Int) = (t266.length : Int) then (if (t307.length : Int) = (t266.length : Int) then ((billiardlaw18_shifts.f kj4 t273).bind fun t310 => ((billiardlaw18_shifts.f kj4 t293).bind fun t313 => ((billiardref18_Same.f kj4 t310 t313).bind fun t316 => (billiardlaw18_CorrectOrderFree.j1 kj4 t266 t273 t300 t307 (!t316))))) else (billiardlaw18_CorrectOrderFree.j1 kj4 t266 t273 t300 t307 true)) else (billiardlaw18_CorrectOrderFree.j1 kj4 t266 t273 t300 t307 true)) else (billiardlaw18_CorrectOrderFree.j1 kj4 t266 t273 t300 t307 true))))) else (none)))) else (none))) else (none)) else (none)) = some r := by first | (rw [hji20] at H; exact H) | (simp only [hji20] at H ⊢; exact H)
     (try rw [hji20] at A19)
     by_cases c21 : 0 ≤ (ji20)
     ·rw [if_pos c21] at H
      have c21b0 := eq_true c21
      have c21b1 : decide (0 ≤ (ji20)) = true := decide_eq_true c21
      clear c21
      by_cases c22 : (ji20) ≤ (l1.length : Int)
      ·rw [if_pos c22] at H
       have c22b0 := eq_true c22
       have c22b1 : decide ((ji20) ≤ (l1.length : Int)) = true := decide_eq_true c22
       clear c22
       obtain ⟨y279, hy279⟩ : ∃ y_ : List (S37), y_ = (l1.drop ((ji20) : Int).toNat) := ⟨_, rfl⟩
       replace H : (if y276.length + y279.length < 7036874417766 then ((some (y276 ++ y279 : List (S37))).bind fun y283 => ((some (l1.take ((ji20) : Int).toNat : List (S37))).bind fun y286 => (if y283.length + y286.length < 7036874417766 then ((correct_Shifts.f t266 (y283 ++ y286)).bind fun t293 => ((correct_Shifts.f t266 (l1.take ((ji20) : Int).toNat)).bind fun t300 => ((correct_Shifts.f t266 (l1.drop ((ji20) : Int).toNat)).bind fun t307 => (if (t273.length : Int) = (t266.length : Int) then (if (t300.length : Int) = (t266.length : Int) then (if (t307.length : Int) = (t266.length : Int) then ((billiardlaw18_shifts.f kj4 t273).bind fun t310 => ((billiardlaw18_shifts.f kj4 t293).bind fun t313 => ((billiardref18_Same.f kj4 t310 t313).bind fun t316 => (billiardlaw18_CorrectOrderFree.j1 kj4 t266 t273 t300 t307 (!t316))))) else (billiardlaw18_CorrectOrderFree.j1 kj4 t266 t273 t300 t307 true)) else (billiardlaw18_CorrectOrderFree.j1 kj4 t266 t273 t300 t307 true)) else (billiardlaw18_CorrectOrderFree.j1 kj4 t266 t273 t300 t307 true))))) else (none)))) else (none)) = some r := by first | (rw [hy279]; with_reducible exact H) | (have H2_ := (Option.bind_some _ _).symm.trans H; rw [hy279]; with_reducible exact H2_) | (have H2_ := (Option.bind_some _ _).symm.trans H; with_reducible exact H2_) | with_reducible exact H | (rw [hy279]; exact H) | exact H
       have Ny279 := aM hy279
       clear hy279
       by_cases c23 : y276.length + y279.length < 7036874417766
       ·rw [if_pos c23] at H
        have LMc23 := aM c23
        clear c23
        obtain ⟨y283, hy283⟩ : ∃ y_ : List (S37), y_ = (y276 ++ y279) := ⟨_, rfl⟩
        replace H : ((some (l1.take ((ji20) : Int).toNat : List (S37))).bind fun y286 => (if y283.length + y286.length < 7036874417766 then ((correct_Shifts.f t266 (y283 ++ y286)).bind fun t293 => ((correct_Shifts.f t266 (l1.take ((ji20) : Int).toNat)).bind fun t300 => ((correct_Shifts.f t266 (l1.drop ((ji20) : Int).toNat)).bind fun t307 => (if (t273.length : Int) = (t266.length : Int) then (if (t300.length : Int) = (t266.length : Int) then (if (t307.length : Int) = (t266.length : Int) then ((billiardlaw18_shifts.f kj4 t273).bind fun t310 => ((billiardlaw18_shifts.f kj4 t293).bind fun t313 => ((billiardref18_Same.f kj4 t310 t313).bind fun t316 => (billiardlaw18_CorrectOrderFree.j1 kj4 t266 t273 t300 t307 (!t316))))) else (billiardlaw18_CorrectOrderFree.j1 kj4 t266 t273 t300 t307 true)) else (billiardlaw18_CorrectOrderFree.j1 kj4 t266 t273 t300 t307 true)) else (billiardlaw18_CorrectOrderFree.j1 kj4 t266 t273 t300 t307 true))))) else (none))) = some r := by first | (rw [hy283]; with_reducible exact H) | (have H2_ := (Option.bind_some _ _).symm.trans H; rw [hy283]; with_reducible exact H2_) | (have H2_ := (Option.bind_some _ _).symm.trans H; with_reducible exact H2_) | with_reducible exact H | (rw [hy283]; exact H) | exact H
        have Ny283 := aM hy283
        clear hy283
        have c24b0 := eq_true (of_decide_eq_true (by first | (with_reducible assumption) | assumption) : 0 ≤ (ji20))
        have c25b0 := eq_true (of_decide_eq_true (by first | (with_reducible assumption) | assumption) : (ji20) ≤ (l1.length : Int))
        obtain ⟨y286, hy286⟩ : ∃ y_ : List (S37), y_ = (l1.take ((ji20) : Int).toNat) := ⟨_, rfl⟩
        replace H : (if y283.length + y286.length < 7036874417766 then ((correct_Shifts.f t266 (y283 ++ y286)).bind fun t293 => ((correct_Shifts.f t266 (l1.take ((ji20) : Int).toNat)).bind fun t300 => ((correct_Shifts.f t266 (l1.drop ((ji20) : Int).toNat)).bind fun t307 => (if (t273.length : Int) = (t266.length : Int) then (if (t300.length : Int) = (t266.length : Int) then (if (t307.length : Int) = (t266.length : Int) then ((billiardlaw18_shifts.f kj4 t273).bind fun t310 => ((billiardlaw18_shifts.f kj4 t293).bind fun t313 => ((billiardref18_Same.f kj4 t310 t313).bind fun t316 => (billiardlaw18_CorrectOrderFree.j1 kj4 t266 t273 t300 t307 (!t316))))) else (billiardlaw18_CorrectOrderFree.j1 kj4 t266 t273 t300 t307 true)) else (billiardlaw18_CorrectOrderFree.j1 kj4 t266 t273 t300 t307 true)) else (billiardlaw18_CorrectOrderFree.j1 kj4 t266 t273 t300 t307 true))))) else (none)) = some r := by first | (rw [hy286]; with_reducible exact H) | (have H2_ := (Option.bind_some _ _).symm.trans H; rw [hy286]; with_reducible exact H2_) | (have H2_ := (Option.bind_some _ _).symm.trans H; with_reducible exact H2_) | with_reducible exact H | (rw [hy286]; exact H) | exact H
        have Ny286 := aM hy286
        clear hy286
        by_cases c26 : y283.length + y286.length < 7036874417766
        ·rw [if_pos c26] at H
         have LMc26 := aM c26
         clear c26
         obtain ⟨y290, hy290⟩ : ∃ y_ : List (S37), y_ = (y283 ++ y286) := ⟨_, rfl⟩
         replace H : ((correct_Shifts.f t266 y290).bind fun t293 => ((correct_Shifts.f t266 (l1.take ((ji20) : Int).toNat)).bind fun t300 => ((correct_Shifts.f t266 (l1.drop ((ji20) : Int).toNat)).bind fun t307 => (if (t273.length : Int) = (t266.length : Int) then (if (t300.length : Int) = (t266.length : Int) then (if (t307.length : Int) = (t266.length : Int) then ((billiardlaw18_shifts.f kj4 t273).bind fun t310 => ((billiardlaw18_shifts.f kj4 t293).bind fun t313 => ((billiardref18_Same.f kj4 t310 t313).bind fun t316 => (billiardlaw18_CorrectOrderFree.j1 kj4 t266 t273 t300 t307 (!t316))))) else (billiardlaw18_CorrectOrderFree.j1 kj4 t266 t273 t300 t307 true)) else (billiardlaw18_CorrectOrderFree.j1 kj4 t266 t273 t300 t307 true)) else (billiardlaw18_CorrectOrderFree.j1 kj4 t266 t273 t300 t307 true))))) = some r := by first | (rw [hy290]; with_reducible exact H) | (have H2_ := (Option.bind_some _ _).symm.trans H; rw [hy290]; with_reducible exact H2_) | (have H2_ := (Option.bind_some _ _).symm.trans H; with_reducible exact H2_) | with_reducible exact H | (rw [hy290]; exact H) | exact H
         have Ny290 := aM hy290
         clear hy290
         replace H := Option.bind_eq_some_iff.mp H
         obtain ⟨t293, A270, H⟩ := H
         replace H : ((correct_Shifts.f t266 (l1.take ((ji20) : Int).toNat)).bind fun t300 => ((correct_Shifts.f t266 (l1.drop ((ji20) : Int).toNat)).bind fun t307 => (if (t273.length : Int) = (t266.length : Int) then (if (t300.length : Int) = (t266.length : Int) then (if (t307.length : Int) = (t266.length : Int) then ((billiardlaw18_shifts.f kj4 t273).bind fun t310 => ((billiardlaw18_shifts.f kj4 t293).bind fun t313 => ((billiardref18_Same.f kj4 t310 t313).bind fun t316 => (billiardlaw18_CorrectOrderFree.j1 kj4 t266 t273 t300 t307 (!t316))))) else (billiardlaw18_CorrectOrderFree.j1 kj4 t266 t273 t300 t307 true)) else (billiardlaw18_CorrectOrderFree.j1 kj4 t266 t273 t300 t307 true)) else (billiardlaw18_CorrectOrderFree.j1 kj4 t266 t273 t300 t307 true)))) = some r := H
         have A27 := aM A270
         clear A270
         have c28b0 := eq_true (of_decide_eq_true (by first | (with_reducible assumption) | assumption) : 0 ≤ (ji20))
         have c29b0 := eq_true (of_decide_eq_true (by first | (with_reducible assumption) | assumption) : (ji20) ≤ (l1.length : Int))
         obtain ⟨y296, hy296⟩ : ∃ y_ : List (S37), y_ = (l1.take ((ji20) : Int).toNat) := ⟨_, rfl⟩
         replace H : ((correct_Shifts.f t266 y296).bind fun t300 => ((correct_Shifts.f t266 (l1.drop ((ji20) : Int).toNat)).bind fun t307 => (if (t273.length : Int) = (t266.length : Int) then (if (t300.length : Int) = (t266.length : Int) then (if (t307.length : Int) = (t266.length : Int) then ((billiardlaw18_shifts.f kj4 t273).bind fun t310 => ((billiardlaw18_shifts.f kj4 t293).bind fun t313 => ((billiardref18_Same.f kj4 t310 t313).bind fun t316 => (billiardlaw18_CorrectOrderFree.j1 kj4 t266 t273 t300 t307 (!t316))))) else (billiardlaw18_CorrectOrderFree.j1 kj4 t266 t273 t300 t307 true)) else (billiardlaw18_CorrectOrderFree.j1 kj4 t266 t273 t300 t307 true)) else (billiardlaw18_CorrectOrderFree.j1 kj4 t266 t273 t300 t307 true)))) = some r := by first | (rw [hy296]; with_reducible exact H) | (have H2_ := (Option.bind_some _ _).symm.trans H; rw [hy296]; with_reducible exact H2_) | (have H2_ := (Option.bind_some _ _).symm.trans H; with_reducible exact H2_) | with_reducible exact H | (rw [hy296]; exact H) | exact H
         have Ny296 := aM hy296
         clear hy296
         replace H := Option.bind_eq_some_iff.mp H
         obtain ⟨t300, A300, H⟩ := H
         replace H : ((correct_Shifts.f t266 (l1.drop ((ji20) : Int).toNat)).bind fun t307 => (if (t273.length : Int) = (t266.length : Int) then (if (t300.length : Int) = (t266.length : Int) then (if (t307.length : Int) = (t266.length : Int) then ((billiardlaw18_shifts.f kj4 t273).bind fun t310 => ((billiardlaw18_shifts.f kj4 t293).bind fun t313 => ((billiardref18_Same.f kj4 t310 t313).bind fun t316 => (billiardlaw18_CorrectOrderFree.j1 kj4 t266 t273 t300 t307 (!t316))))) else (billiardlaw18_CorrectOrderFree.j1 kj4 t266 t273 t300 t307 true)) else (billiardlaw18_CorrectOrderFree.j1 kj4 t266 t273 t300 t307 true)) else (billiardlaw18_CorrectOrderFree.j1 kj4 t266 t273 t300 t307 true))) = some r := H
         have A30 := aM A300
         clear A300
         have c31b0 := eq_true (of_decide_eq_true (by first | (with_reducible assumption) | assumption) : 0 ≤ (ji20))
         have c32b0 := eq_true (of_decide_eq_true (by first | (with_reducible assumption) | assumption) : (ji20) ≤ (l1.length : Int))
         obtain ⟨y303, hy303⟩ : ∃ y_ : List (S37), y_ = (l1.drop ((ji20) : Int).toNat) := ⟨_, rfl⟩
         replace H : ((correct_Shifts.f t266 y303).bind fun t307 => (if (t273.length : Int) = (t266.length : Int) then (if (t300.length : Int) = (t266.length : Int) then (if (t307.length : Int) = (t266.length : Int) then ((billiardlaw18_shifts.f kj4 t273).bind fun t310 => ((billiardlaw18_shifts.f kj4 t293).bind fun t313 => ((billiardref18_Same.f kj4 t310 t313).bind fun t316 => (billiardlaw18_CorrectOrderFree.j1 kj4 t266 t273 t300 t307 (!t316))))) else (billiardlaw18_CorrectOrderFree.j1 kj4 t266 t273 t300 t307 true)) else (billiardlaw18_CorrectOrderFree.j1 kj4 t266 t273 t300 t307 true)) else (billiardlaw18_CorrectOrderFree.j1 kj4 t266 t273 t300 t307 true))) = some r := by first | (rw [hy303]; with_reducible exact H) | (have H2_ := (Option.bind_some _ _).symm.trans H; rw [hy303]; with_reducible exact H2_) | (have H2_ := (Option.bind_some _ _).symm.trans H; with_reducible exact H2_) | with_reducible exact H | (rw [hy303]; exact H) | exact H
         have Ny303 := aM hy303
         clear hy303
         replace H := Option.bind_eq_some_iff.mp H
         obtain ⟨t307, A330, H⟩ := H
         replace H : (if (t273.length : Int) = (t266.length : Int) then (if (t300.length : Int) = (t266.length : Int) then (if (t307.length : Int) = (t266.length : Int) then ((billiardlaw18_shifts.f kj4 t273).bind fun t310 => ((billiardlaw18_shifts.f kj4 t293).bind fun t313 => ((billiardref18_Same.f kj4 t310 t313).bind fun t316 => (billiardlaw18_CorrectOrderFree.j1 kj4 t266 t273 t300 t307 (!t316))))) else (billiardlaw18_CorrectOrderFree.j1 kj4 t266 t273 t300 t307 true)) else (billiardlaw18_CorrectOrderFree.j1 kj4 t266 t273 t300 t307 true)) else (billiardlaw18_CorrectOrderFree.j1 kj4 t266 t273 t300 t307 true)) = some r := H
         have A33 := aM A330
         clear A330
         have HC34 := aM H
         clear H
         obtain ⟨Ao35, co35, eo35⟩ := Kd.R_slice HO_7.out
         subst eo35
         try go_wp2_with (first | ((with_reducible refine gate_callee (f := 16) rfl ?_); refine goesL_ (some 41) rfl rfl Try.func16 (by kernel_rfl) rfl #[.slice Ao35 t266.length co35, .slice A1 l1.length c1] rfl (by (try simp only [List.map_toArray, List.map_cons, List.map_nil]); first | done | rfl | (simp only [List.length_drop, List.length_take]; rfl)) ?_; (with_reducible refine (correct_Shifts.calls _ _ t266 _ _ l1 t273 _ ?side1 ?side2 ?side3 ?side4 A19.out).mono ?_); (case side1 => repeat (first | exact (Kd.R_reads' HO_7.out).2.2 | (with_reducible refine Kd.C_alloc ?_ _) | (with_reducible refine Kd.C_drewN ?_ _) | (with_reducible refine Kd.C_drew ?_))); (case side2 => exact (Kd.R_reads' HO_7.out).2.1); (case side3 => repeat (first | exact (Kd.C_below HR1.out HB.out) | (with_reducible refine Kd.C_alloc ?_ _) | (with_reducible refine Kd.C_drewN ?_ _) | (with_reducible refine Kd.C_drew ?_))); (case side4 => exact HC1.out); rintro e w36 ⟨v274, rfl, ho0, hb⟩; refine ⟨_, rfl, ?_⟩; have n0_ := aM (Kd.R_below (by (with_reducible repeat (first | apply Kd.R_alloc | apply Kd.R_drewN | apply Kd.R_drew)); exact HO_7.out) hb); have n1_ := aM (Kd.R_lower ho0 (lZ (by repeat (first | (with_reducible first | exact HB.out | apply lA | apply lN | apply lD) | exact HB.out)))); have n2_ := aM (lT (by repeat (first | (with_reducible first | exact HB.out | apply lA | apply lN | apply lD) | exact HB.out)) hb); clear HO_7; clear HB; have HO_7 := n0_; have HO275 := n1_; have HB := n2_; clear n0_ n1_ n2_; (try clear hb); (try clear hb2); (try clear hk); (try clear hi); (try clear ho0)))
         have n0_ := aM (Kd.R_drew HO_7.out)
         have n1_ := aM (Kd.R_drew HO275.out)
         have n2_ := aM (lD HB.out)
         clear HO_7
         clear HO275
         clear HB
         have HO_7 := n0_
         have HO275 := n1_
         have HB := n2_
         clear n0_ n1_ n2_
         have q38 : ((ji20) : Int) ≤ ((l1.length : Int) : Int) := of_decide_eq_true (by first | (with_reducible assumption) | assumption)
         obtain ⟨i038, hi038, _, hsz38, _⟩ := info_parts info37
         have hroom38 : l1.length ≤ c1 := HC1.out
         have hC38 : Kd.C k37 _ A1 l1.length l1 := HR1.out
         have q038 : (0 : Int) ≤ ((ji20) : Int) := of_decide_eq_true (by first | (with_reducible assumption) | assumption)
         have hcut38 := cut_from (P := Try.prog) 23 37 .i64 Try.underlying23 hi038 5 hsz38 A1 l1.length c1 (ji20) q038 q38
         have hr38 := Kd.C_drop (m := ((ji20) : Int).toNat) (c := c1) hC38 (by omega) hroom38
         obtain ⟨A38, hA38⟩ : ∃ A_, A_ = (if c1 = ((ji20) : Int).toNat then A1 else (A1 : Option Addr).map (·.add (((ji20) : Int).toNat * 5))) := ⟨_, rfl⟩
         obtain ⟨c38, hc38⟩ : ∃ c_, c_ = c1 - ((ji20) : Int).toNat := ⟨_, rfl⟩
         have hy38 : y279.length = l1.length - ((ji20) : Int).toNat := (by rw [Ny279.out, List.length_drop] <;> omega)
         rw [show (l1).drop ((ji20) : Int).toNat = y279 from Ny279.out.symm] at hr38
         replace hr38 : Kd.C k37 _ A38 y279.length y279 := (by rw [hA38]; exact hr38)
         rw [← hy38, ← hA38, ← hc38] at hcut38
         have HR282 := aM hr38
         have HC282 := aM (show y279.length ≤ c38 from by rw [hy38, hc38]; exact Nat.sub_le_sub_right hroom38 _)
         clear hr38 hC38 hroom38 hi038 hsz38 hc38
         have KY38 := aM hy38
         have KA38 := aM hA38
         clear hy38 hA38
         replace q38 := eq_true q38
         have q39 : ((ji20) : Int) ≤ ((l1.length : Int) : Int) := of_decide_eq_true (by first | (with_reducible assumption) | assumption)
         obtain ⟨i039, hi039, _, hsz39, _⟩ := info_parts info37
         have hroom39 : l1.length ≤ c1 := HC1.out
         have hC39 : Kd.C k37 _ A1 l1.length l1 := HR1.out
         have hcut39 := cut_to (P := Try.prog) 23 37 .i64 Try.underlying23 hi039 A1 l1.length c1 (ji20) (of_decide_eq_true (by first | (with_reducible assumption) | assumption)) q39 hroom39
         have hr39 := Kd.C_take (m := ((ji20) : Int).toNat) hC39 (by omega)
         have hy39 : y286.length = ((ji20) : Int).toNat := (by rw [Ny286.out, List.length_take]; omega)
         rw [← Ny286.out] at hr39
         rw [← hy39] at hcut39
         have HR289 := aM hr39
         have HC289 := aM (show y286.length ≤ c1 from by omega)
         clear hr39 hC39 hroom39 hi039 hsz39
         have KY39 := aM hy39
         clear hy39
         replace q39 := eq_true q39
         refine start_ (n := 12) (S := fun w' => True) (ds := []) #[F,F,F,F,F,F,F,F,F,F,F,F] (by kernel_rfl) rfl rfl trivial (fun hHeld => ?_); refine with_tabW billiardlaw18_CorrectOrderFree.tab6 billiardlaw18_CorrectOrderFree.bits6 (fun HT_ HW_ => ?_)
         generalize w36.drew = w37 at HO_7 HO275 HB HR282 HR289 hHeld ⊢
         refine pure_ (i := 0) (N := some 42) (v := ?_) (a' := ?_) #[T,F,F,F,F,F,F,F,F,F,F,F] rfl rfl (any_of HT_.out (by kernel_rfl)) (fun _ _ _ h => h) (Or.inl ⟨by rfl, ?_⟩) ?_ ?_
         rotate_left
         ·intro w'
          go_simp
          with_reducible rfl
         rotate_left
         ·simp only [Act.put, sA, sB, sC, i64_w, i32_w]
          rfl
         refine pure_ (i := 2) (N := some 44) (v := ?_) (a' := ?_) #[T,F,T,F,F,F,F,F,F,F,F,F] rfl rfl (any_of HT_.out (by kernel_rfl)) (fun _ _ _ h => h) (Or.inl ⟨by rfl, ?_⟩) ?_ ?_
         rotate_left
         ·intro w'
          go_simp
          with_reducible rfl
         rotate_left
         ·simp only [Act.put, sA, sB, sC, i64_w, i32_w]
          rfl
         refine pure_ (i := 3) (N := some 45) (v := ?_) (a' := ?_) #[T,F,T,T,F,F,F,F,F,F,F,F] rfl rfl (any_of HT_.out (by kernel_rfl)) (fun _ _ _ h => h) (Or.inl ⟨by rfl, ?_⟩) ?_ ?_
         rotate_left
         ·intro w'
          go_simp
          with_reducible rfl
         rotate_left
         ·simp only [Act.put, sA, sB, sC, i64_w, i32_w]
          rfl
         refine pure_ (i := 4) (N := some 46) (v := ?_) (a' := ?_) #[T,F,T,T,T,F,F,F,F,F,F,F] rfl rfl (any_of HT_.out (by kernel_rfl)) (fun _ _ _ h => h) (Or.inl ⟨by rfl, ?_⟩) ?_ ?_
         rotate_left
         ·intro w'
          go_simp
          with_reducible rfl
         rotate_left
         ·simp only [Act.put, sA, sB, sC, i64_w, i32_w]
          rfl
         refine pure_ (i := 6) (N := some 48) (v := ?_) (a' := ?_) #[T,F,T,T,T,F,T,F,F,F,F,F] rfl rfl (any_of HT_.out (by kernel_rfl)) (fun _ _ _ h => h) (Or.inl ⟨by rfl, ?_⟩) ?_ ?_
         rotate_left
         ·intro w'
          go_simp
          with_reducible rfl
         rotate_left
         ·simp only [Act.put, sA, sB, sC, i64_w, i32_w]
          rfl
         refine pure_ (i := 7) (N := some 49) (v := ?_) (a' := ?_) #[T,F,T,T,T,F,T,T,F,F,F,F] rfl rfl (any_of HT_.out (by kernel_rfl)) (fun _ _ _ h => h) (Or.inl ⟨by rfl, ?_⟩) ?_ ?_
         rotate_left
         ·intro w'
          go_simp
          with_reducible rfl
         rotate_left
         ·simp only [Act.put, sA, sB, sC, i64_w, i32_w]
          rfl
         refine pure_ (i := 8) (N := some 50) (v := ?_) (a' := ?_) #[T,F,T,T,T,F,T,T,T,F,F,F] rfl rfl (any_of HT_.out (by kernel_rfl)) (fun _ _ _ h => h) (Or.inl ⟨by rfl, ?_⟩) ?_ ?_
         rotate_left
         ·intro w'
          go_simp
          with_reducible rfl
         rotate_left
         ·simp only [Act.put, sA, sB, sC, i64_w, i32_w]
          rfl
         refine one_ (i := 1) (N := some 43) #[T,T,T,T,T,F,T,T,T,F,F,F] rfl rfl (one_of HT_.out (by kernel_rfl)) (by decide) (fun K hK => ?_)
         refine Kd.R_lit_step k37 _ 37 ?hg (N := 43) ?hd (xs := ([] : List (S37))) (inner := []) (ok := fun _ => True) (okp := fun _ => True) ?hr ?hp (fun _ hk => hk) trivial (Below.refl _ _) (Nat.le_refl _) (by simp) ?_; (case hd => rfl); (case hg => rfl); (case hr => first | (go_simp; done) | (go_simp; rfl)); (case hp => exact (Reps.none _ _))
         intro v277 w40 ho41 hb hg_ hnew_
         clear hg_ hnew_
         (first | rw [← Ny276.out] at ho41 | (simp only [Int.reduceToNat] at ho41; rw [← Ny276.out] at ho41))
         have n0_ := aM (Kd.R_below (by (with_reducible repeat (first | apply Kd.R_alloc | apply Kd.R_drewN | apply Kd.R_drew)); exact HO_7.out) hb)
         have n1_ := aM (Kd.R_below (by (with_reducible repeat (first | apply Kd.R_alloc | apply Kd.R_drewN | apply Kd.R_drew)); exact HO275.out) hb)
         have n2_ := aM (Kd.R_lower ho41 (lZ (by repeat (first | (with_reducible first | exact HB.out | apply lA | apply lN | apply lD) | exact HB.out))))
         have n3_ := aM (lT (by repeat (first | (with_reducible first | exact HB.out | apply lA | apply lN | apply lD) | exact HB.out)) hb)
         clear HO_7
         clear HO275
         clear HB
         have HO_7 := n0_
         have HO275 := n1_
         have HO278 := n2_
         have HB := n3_
         clear n0_ n1_ n2_ n3_
         clear hb ho41
         refine hK.out _ _ trivial (fun hHeld => ?_)
         clear hK K
         refine norm_ (a' := ?_) ?_ ?_
         rotate_left
         ·show Act.put _ (some 43) _ = _
          simp only [Act.put, sA, sB, sC, i64_w, i32_w]
          rfl
         refine one_ (i := 5) (N := some 47) #[T,T,T,T,T,T,T,T,T,F,F,F] rfl rfl (one_of HT_.out (by kernel_rfl)) (by decide) (fun K hK => ?_)
         refine Kd.R_append_rows_step k37 (w0 := w) w.heap.size (by rfl) (.tmp 43) (.tmp 46) 23 37 (.agg #[(.int .u32 0), (.int .u32 0), (.int .i32 0), (.int .i32 0), (.int .i32 0)]) 20 rfl Try.underlying23 info37 rfl (by decide) (by omega) v277 y276 y279 _ _ _ (fun _ => True) (fun _ => False) rfl rfl ?aO ?aR (fun _ _ h => h) (fun _ h => h.elim) ?aF ?aB ?aS ?aL ?_
         (case aR => repeat (first | exact (Kd.C_below HR282.out HB.out) | (with_reducible refine Kd.C_alloc ?_ _) | (with_reducible refine Kd.C_drewN ?_ _) | (with_reducible refine Kd.C_drew ?_)))
         (case aB => exact (by repeat (first | (with_reducible first | exact HB.out | apply lA | apply lN | apply lD) | exact HB.out)))
         (case aF => exact (fun _ _ => trivial))
         (case aO => exact (by (with_reducible repeat (first | apply Kd.R_alloc | apply Kd.R_drewN | apply Kd.R_drew)); exact HO278.out))
         (case aS => exact (lZ (by repeat (first | (with_reducible first | exact HB.out | apply lA | apply lN | apply lD) | exact HB.out))))
         (case aL => have := LMc23.out; omega)
         intro v284 w42 ho hb hg hat
         rw [← Ny283.out] at ho
         have n0_ := aM (Kd.R_over' (by (with_reducible repeat (first | apply Kd.R_alloc | apply Kd.R_drewN | apply Kd.R_drew)); exact HO_7.out) (Kd.R_typed (by (with_reducible repeat (first | apply Kd.R_alloc | apply Kd.R_drewN | apply Kd.R_drew)); exact HO278.out)) (by decide) hg)
         have n1_ := aM (Kd.R_over' (by (with_reducible repeat (first | apply Kd.R_alloc | apply Kd.R_drewN | apply Kd.R_drew)); exact HO275.out) (Kd.R_typed (by (with_reducible repeat (first | apply Kd.R_alloc | apply Kd.R_drewN | apply Kd.R_drew)); exact HO278.out)) (by decide) hg)
         have n2_ := aM (hb)
         have n3_ := aM (ho)
         clear HO_7
         clear HO275
         clear HB
         clear HO278
         have HO_7 := n0_
         have HO275 := n1_
         have HB := n2_
         have HO285 := n3_
         clear n0_ n1_ n2_ n3_
         clear ho hb hg hat
         refine hK.out _ _ trivial (fun hHeld => ?_)
         clear hK K
         refine norm_ (a' := ?_) ?_ ?_
         rotate_left
         ·show Act.put _ (some 47) _ = _
          simp only [Act.put, sA, sB, sC, i64_w, i32_w]
          rfl
         refine one_ (i := 9) (N := some 51) #[T,T,T,T,T,T,T,T,T,T,F,F] rfl rfl (one_of HT_.out (by kernel_rfl)) (by decide) (fun K hK => ?_)
         refine Kd.R_append_rows_step k37 (w0 := w) w.heap.size (by rfl) (.tmp 47) (.tmp 50) 23 37 (.agg #[(.int .u32 0), (.int .u32 0), (.int .i32 0), (.int .i32 0), (.int .i32 0)]) 20 rfl Try.underlying23 info37 rfl (by decide) (by omega) v284 y283 y286 _ _ _ (fun _ => True) (fun _ => False) rfl rfl ?aO ?aR (fun _ _ h => h) (fun _ h => h.elim) ?aF ?aB ?aS ?aL ?_
         (case aR => repeat (first | exact (Kd.C_below HR289.out HB.out) | (with_reducible refine Kd.C_alloc ?_ _) | (with_reducible refine Kd.C_drewN ?_ _) | (with_reducible refine Kd.C_drew ?_)))
         (case aB => exact (by repeat (first | (with_reducible first | exact HB.out | apply lA | apply lN | apply lD) | exact HB.out)))
         (case aF => exact (fun _ _ => trivial))
         (case aO => exact (by (with_reducible repeat (first | apply Kd.R_alloc | apply Kd.R_drewN | apply Kd.R_drew)); exact HO285.out))
         (case aS => exact (lZ (by repeat (first | (with_reducible first | exact HB.out | apply lA | apply lN | apply lD) | exact HB.out))))
         (case aL => have := LMc26.out; omega)
         intro v291 w43 ho hb hg hat
         rw [← Ny290.out] at ho
         have n0_ := aM (Kd.R_over' (by (with_reducible repeat (first | apply Kd.R_alloc | apply Kd.R_drewN | apply Kd.R_drew)); exact HO_7.out) (Kd.R_typed (by (with_reducible repeat (first | apply Kd.R_alloc | apply Kd.R_drewN | apply Kd.R_drew)); exact HO285.out)) (by decide) hg)
         have n1_ := aM (Kd.R_over' (by (with_reducible repeat (first | apply Kd.R_alloc | apply Kd.R_drewN | apply Kd.R_drew)); exact HO275.out) (Kd.R_typed (by (with_reducible repeat (first | apply Kd.R_alloc | apply Kd.R_drewN | apply Kd.R_drew)); exact HO285.out)) (by decide) hg)
         have n2_ := aM (hb)
         have n3_ := aM (ho)
         clear HO_7
         clear HO275
         clear HB
         clear HO285
         have HO_7 := n0_
         have HO275 := n1_
         have HB := n2_
         have HO292 := n3_
         clear n0_ n1_ n2_ n3_
         clear ho hb hg hat
         obtain ⟨Ao44, co44, eo44⟩ := Kd.R_slice HO292.out
         (first | subst eo44 | (injection eo44 with f1_ f2_ f3_; have f4_ := f1_.symm; have f5_ := f3_.symm; clear f1_ f2_ f3_; subst f4_; subst f5_))
         refine hK.out _ _ trivial (fun hHeld => ?_)
         clear hK K
         refine norm_ (a' := ?_) ?_ ?_
         rotate_left
         ·show Act.put _ (some 51) _ = _
          simp only [Act.put, sA, sB, sC, i64_w, i32_w]
          rfl
         refine one_ (i := 10) (N := some 52) #[T,T,T,T,T,T,T,T,T,T,T,F] rfl rfl (one_of HT_.out (by kernel_rfl)) (by decide) (fun K hK => ?_)
         refine goes_ Try.func16 (by kernel_rfl) rfl #[.slice Ao35 t266.length co35, .slice Ao44 y290.length co44] (by rfl) rfl rfl (by (try simp only [List.map_toArray, List.map_cons, List.map_nil]); first | done | rfl | (simp only [List.length_drop, List.length_take]; rfl)) ?_
         with_reducible refine (correct_Shifts.calls _ _ t266 _ _ y290 t293 _ ?side1 ?side2 ?side3 ?side4 A27.out).mono ?_
         (case side1 => repeat (first | exact (Kd.R_reads' HO_7.out).2.2 | (with_reducible refine Kd.C_alloc ?_ _) | (with_reducible refine Kd.C_drewN ?_ _) | (with_reducible refine Kd.C_drew ?_)))
         (case side2 => exact (Kd.R_reads' HO_7.out).2.1)
         (case side3 => repeat (first | exact (Kd.R_reads' HO292.out).2.2 | (with_reducible refine Kd.C_alloc ?_ _) | (with_reducible refine Kd.C_drewN ?_ _) | (with_reducible refine Kd.C_drew ?_)))
         (case side4 => exact (Kd.R_reads' HO292.out).2.1)
         rintro e w45 ⟨v294, rfl, ho0, hb⟩
         refine ⟨_, rfl, ?_⟩
         have n0_ := aM (Kd.R_below (by (with_reducible repeat (first | apply Kd.R_alloc | apply Kd.R_drewN | apply Kd.R_drew)); exact HO_7.out) hb)
         have n1_ := aM (Kd.R_elder' (by (with_reducible repeat (first | apply Kd.R_alloc | apply Kd.R_drewN | apply Kd.R_drew)); exact HO275.out) (Kd.R_base ho0) hb)
         have n2_ := aM (Kd.R_below (by (with_reducible repeat (first | apply Kd.R_alloc | apply Kd.R_drewN | apply Kd.R_drew)); exact HO292.out) hb)
         have n3_ := aM (Kd.R_lower (Kd.R_new' ho0 (Kd.R_lt (by (with_reducible repeat (first | apply Kd.R_alloc | apply Kd.R_drewN | apply Kd.R_drew)); exact HO275.out))) (lZ (by repeat (first | (with_reducible first | exact HB.out | apply lA | apply lN | apply lD) | exact HB.out))))
         have n4_ := aM (lT (by repeat (first | (with_reducible first | exact HB.out | apply lA | apply lN | apply lD) | exact HB.out)) hb)
         clear HO_7
         clear HO275
         clear HO292
         clear HB
         have HO_7 := n0_
         have HO275 := n1_
         have HO292 := n2_
         have HO295 := n3_
         have HB := n4_
         clear n0_ n1_ n2_ n3_ n4_
         (try clear hb)
         (try clear hb2)
         (try clear hk)
         (try clear hi)
         (try clear ho0)
         refine hK.out _ _ trivial (fun hHeld => ?_)
         clear hK K
         refine norm_ (a' := ?_) ?_ ?_
         rotate_left
         ·show Act.put _ (some 52) _ = _
          simp only [Act.put, sA, sB, sC, i64_w, i32_w]
          rfl
         refine pure_ (i := 11) (N := some 11) (v := ?_) (a' := ?_) #[T,T,T,T,T,T,T,T,T,T,T,T] rfl rfl (any_of HT_.out (by kernel_rfl)) (fun _ _ _ h => h) (Or.inl ⟨by rfl, ?_⟩) ?_ ?_
         rotate_left
         ·intro w'
          go_simp
          with_reducible rfl
         rotate_left
         ·simp only [Act.put, sA, sB, sC, i64_w, i32_w]
          rfl
         refine done_ (done_of HT_.out (by kernel_rfl)) ?_
         have q46 : ((ji20) : Int) ≤ ((l1.length : Int) : Int) := of_decide_eq_true (by first | (with_reducible assumption) | assumption)
         obtain ⟨i046, hi046, _, hsz46, _⟩ := info_parts info37
         have hroom46 : l1.length ≤ c1 := HC1.out
         have hC46 : Kd.C k37 _ A1 l1.length l1 := HR1.out
         (try clear hcut38)
         (try clear hcut39)
         have hcut46 := cut_to (P := Try.prog) 23 37 .i64 Try.underlying23 hi046 A1 l1.length c1 (ji20) (of_decide_eq_true (by first | (with_reducible assumption) | assumption)) q46 hroom46
         have hr46 := Kd.C_take (m := ((ji20) : Int).toNat) hC46 (by omega)
         have hy46 : y296.length = ((ji20) : Int).toNat := (by rw [Ny296.out, List.length_take]; omega)
         rw [← Ny296.out] at hr46
         rw [← hy46] at hcut46
         have HR299 := aM hr46
         have HC299 := aM (show y296.length ≤ c1 from by omega)
         clear hr46 hC46 hroom46 hi046 hsz46
         have KY46 := aM hy46
         clear hy46
         replace q46 := eq_true q46
         go_upto_region 9 with (first | ((with_reducible refine gate_callee (f := 16) rfl ?_); refine goesL_ (some 57) rfl rfl Try.func16 (by kernel_rfl) rfl #[.slice Ao35 t266.length co35, .slice A1 y296.length c1] rfl (by (try simp only [List.map_toArray, List.map_cons, List.map_nil]); first | done | rfl | (simp only [List.length_drop, List.length_take]; rfl)) ?_; (with_reducible refine (correct_Shifts.calls _ _ t266 _ _ y296 t300 _ ?side1 ?side2 ?side3 ?side4 A30.out).mono ?_); (case side1 => repeat (first | exact (Kd.R_reads' HO_7.out).2.2 | (with_reducible refine Kd.C_alloc ?_ _) | (with_reducible refine Kd.C_drewN ?_ _) | (with_reducible refine Kd.C_drew ?_))); (case side2 => exact (Kd.R_reads' HO_7.out).2.1); (case side3 => repeat (first | exact (Kd.C_below HR299.out HB.out) | (with_reducible refine Kd.C_alloc ?_ _) | (with_reducible refine Kd.C_drewN ?_ _) | (with_reducible refine Kd.C_drew ?_))); (case side4 => exact HC299.out); rintro e w47 ⟨v301, rfl, ho0, hb⟩; refine ⟨_, rfl, ?_⟩; have n0_ := aM (Kd.R_below (by (with_reducible repeat (first | apply Kd.R_alloc | apply Kd.R_drewN | apply Kd.R_drew)); exact HO_7.out) hb); have n1_ := aM (Kd.R_elder' (by (with_reducible repeat (first | apply Kd.R_alloc | apply Kd.R_drewN | apply Kd.R_drew)); exact HO275.out) (Kd.R_base ho0) hb); have n2_ := aM (Kd.R_below (by (with_reducible repeat (first | apply Kd.R_alloc | apply Kd.R_drewN | apply Kd.R_drew)); exact HO292.out) hb); have n3_ := aM (Kd.R_elder' (by (with_reducible repeat (first | apply Kd.R_alloc | apply Kd.R_drewN | apply Kd.R_drew)); exact HO295.out) (Kd.R_base ho0) hb); have n4_ := aM (Kd.R_lower (Kd.R_new' (Kd.R_new' ho0 (Kd.R_lt (by (with_reducible repeat (first | apply Kd.R_alloc | apply Kd.R_drewN | apply Kd.R_drew)); exact HO275.out))) (Kd.R_lt (by (with_reducible repeat (first | apply Kd.R_alloc | apply Kd.R_drewN | apply Kd.R_drew)); exact HO295.out))) (lZ (by repeat (first | (with_reducible first | exact HB.out | apply lA | apply lN | apply lD) | exact HB.out)))); have n5_ := aM (lT (by repeat (first | (with_reducible first | exact HB.out | apply lA | apply lN | apply lD) | exact HB.out)) hb); clear HO_7; clear HO275; clear HO292; clear HO295; clear HB; have HO_7 := n0_; have HO275 := n1_; have HO292 := n2_; have HO295 := n3_; have HO302 := n4_; have HB := n5_; clear n0_ n1_ n2_ n3_ n4_ n5_; (try clear hb); (try clear hb2); (try clear hk); (try clear hi); (try clear ho0); have q48 : ((ji20) : Int) ≤ ((l1.length : Int) : Int) := of_decide_eq_true (by first | (with_reducible assumption) | assumption); obtain ⟨i048, hi048, _, hsz48, _⟩ := info_parts info37; have hroom48 : l1.length ≤ c1 := HC1.out; have hC48 : Kd.C k37 _ A1 l1.length l1 := HR1.out; have q048 : (0 : Int) ≤ ((ji20) : Int) := of_decide_eq_true (by first | (with_reducible assumption) | assumption); have hcut48 := cut_from (P := Try.prog) 23 37 .i64 Try.underlying23 hi048 5 hsz48 A1 l1.length c1 (ji20) q048 q48; have hr48 := Kd.C_drop (m := ((ji20) : Int).toNat) (c := c1) hC48 (by omega) hroom48; obtain ⟨A48, hA48⟩ : ∃ A_, A_ = (if c1 = ((ji20) : Int).toNat then A1 else (A1 : Option Addr).map (·.add (((ji20) : Int).toNat * 5))) := ⟨_, rfl⟩; obtain ⟨c48, hc48⟩ : ∃ c_, c_ = c1 - ((ji20) : Int).toNat := ⟨_, rfl⟩; have hy48 : y303.length = l1.length - ((ji20) : Int).toNat := (by rw [Ny303.out, List.length_drop] <;> omega); rw [show (l1).drop ((ji20) : Int).toNat = y303 from Ny303.out.symm] at hr48; replace hr48 : Kd.C k37 _ A48 y303.length y303 := (by rw [hA48]; exact hr48); rw [← hy48, ← hA48, ← hc48] at hcut48; have HR306 := aM hr48; have HC306 := aM (show y303.length ≤ c48 from by rw [hy48, hc48]; exact Nat.sub_le_sub_right hroom48 _); clear hr48 hC48 hroom48 hi048 hsz48 hc48; have KY48 := aM hy48; have KA48 := aM hA48; clear hy48 hA48; replace q48 := eq_true q48) | ((with_reducible refine gate_callee (f := 16) rfl ?_); refine goesL_ (some 62) rfl rfl Try.func16 (by kernel_rfl) rfl #[.slice Ao35 t266.length co35, .slice A48 y303.length c48] rfl (by (try simp only [List.map_toArray, List.map_cons, List.map_nil]); first | done | rfl | (simp only [List.length_drop, List.length_take]; rfl)) ?_; (with_reducible refine (correct_Shifts.calls _ _ t266 _ _ y303 t307 _ ?side1 ?side2 ?side3 ?side4 A33.out).mono ?_); (case side1 => repeat (first | exact (Kd.R_reads' HO_7.out).2.2 | (with_reducible refine Kd.C_alloc ?_ _) | (with_reducible refine Kd.C_drewN ?_ _) | (with_reducible refine Kd.C_drew ?_))); (case side2 => exact (Kd.R_reads' HO_7.out).2.1); (case side3 => repeat (first | exact (Kd.C_below HR306.out HB.out) | (with_reducible refine Kd.C_alloc ?_ _) | (with_reducible refine Kd.C_drewN ?_ _) | (with_reducible refine Kd.C_drew ?_))); (case side4 => exact HC306.out); rintro e w49 ⟨v308, rfl, ho0, hb⟩; refine ⟨_, rfl, ?_⟩; have n0_ := aM (Kd.R_below (by (with_reducible repeat (first | apply Kd.R_alloc | apply Kd.R_drewN | apply Kd.R_drew)); exact HO_7.out) hb); have n1_ := aM (Kd.R_elder' (by (with_reducible repeat (first | apply Kd.R_alloc | apply Kd.R_drewN | apply Kd.R_drew)); exact HO275.out) (Kd.R_base ho0) hb); have n2_ := aM (Kd.R_below (by (with_reducible repeat (first | apply Kd.R_alloc | apply Kd.R_drewN | apply Kd.R_drew)); exact HO292.out) hb); have n3_ := aM (Kd.R_elder' (by (with_reducible repeat (first | apply Kd.R_alloc | apply Kd.R_drewN | apply Kd.R_drew)); exact HO295.out) (Kd.R_base ho0) hb); have n4_ := aM (Kd.R_elder' (by (with_reducible repeat (first | apply Kd.R_alloc | apply Kd.R_drewN | apply Kd.R_drew)); exact HO302.out) (Kd.R_base ho0) hb); have n5_ := aM (Kd.R_lower (Kd.R_new' (Kd.R_new' (Kd.R_new' ho0 (Kd.R_lt (by (with_reducible repeat (first | apply Kd.R_alloc | apply Kd.R_drewN | apply Kd.R_drew)); exact HO275.out))) (Kd.R_lt (by (with_reducible repeat (first | apply Kd.R_alloc | apply Kd.R_drewN | apply Kd.R_drew)); exact HO295.out))) (Kd.R_lt (by (with_reducible repeat (first | apply Kd.R_alloc | apply Kd.R_drewN | apply Kd.R_drew)); exact HO302.out))) (lZ (by repeat (first | (with_reducible first | exact HB.out | apply lA | apply lN | apply lD) | exact HB.out)))); have n6_ := aM (lT (by repeat (first | (with_reducible first | exact HB.out | apply lA | apply lN | apply lD) | exact HB.out)) hb); clear HO_7; clear HO275; clear HO292; clear HO295; clear HO302; clear HB; have HO_7 := n0_; have HO275 := n1_; have HO292 := n2_; have HO295 := n3_; have HO302 := n4_; have HO309 := n5_; have HB := n6_; clear n0_ n1_ n2_ n3_ n4_ n5_ n6_; (try clear hb); (try clear hb2); (try clear hk); (try clear hi); (try clear ho0)))
         (try simp only [Act.put, sA, sB, sC])
         go_cut [89] (fun v89 wc => ∃ (kq : Nat) (x89_33 : Bool), v89 = .bool x89_33 ∧ Aside0 (billiardlaw18_CorrectOrderFree.j1 kq t266 t273 t300 t307 x89_33 = some r) ∧ Aside0 (kq ≤ kj4) ∧ Aside0 (Kd.R k32 32 wc w.heap.size (fun _ => True) (.slice Ao35 t266.length co35) t266) ∧ Aside0 (Kd.R k48 48 wc w.heap.size (fun k_ => some k_ ≠ (v301 : Value).ownBlock ∧ some k_ ≠ (v308 : Value).ownBlock) v274 t273) ∧ Aside0 (Kd.R k48 48 wc w.heap.size (fun k_ => some k_ ≠ (v274 : Value).ownBlock ∧ some k_ ≠ (v308 : Value).ownBlock) v301 t300) ∧ Aside0 (Kd.R k48 48 wc w.heap.size (fun k_ => some k_ ≠ (v274 : Value).ownBlock ∧ some k_ ≠ (v301 : Value).ownBlock) v308 t307) ∧ Aside0 (Below w.heap.size w wc))
         case first =>
          have H := HC34.out
          clear HC34
          by_cases c50 : (t273.length : Int) = (t266.length : Int)
          ·rw [if_pos c50] at H
           have c50b0 : ((t273.length : Int) == (t266.length : Int)) = true := beq_iff_eq.mpr c50
           have c50b1 : ((t273.length : Int) != (t266.length : Int)) = false := bne_eq_false_iff_eq.mpr c50
           have c50b2 : (t273.length == t266.length) = true := by first | simpa using c50 | (simp at c50 ⊢; omega)
           clear c50
           (first | rw [c50b0] | (simp only [i64_w, i32_w]; rw [c50b0]) | skip)
           by_cases c51 : (t300.length : Int) = (t266.length : Int)
           ·rw [if_pos c51] at H
            have c51b0 : ((t300.length : Int) == (t266.length : Int)) = true := beq_iff_eq.mpr c51
            have c51b1 : ((t300.length : Int) != (t266.length : Int)) = false := bne_eq_false_iff_eq.mpr c51
            have c51b2 : (t300.length == t266.length) = true := by first | simpa using c51 | (simp at c51 ⊢; omega)
            clear c51
            by_cases c52 : (t307.length : Int) = (t266.length : Int)
            ·rw [if_pos c52] at H
             have c52b0 : ((t307.length : Int) == (t266.length : Int)) = true := beq_iff_eq.mpr c52
             have c52b1 : ((t307.length : Int) != (t266.length : Int)) = false := bne_eq_false_iff_eq.mpr c52
             have c52b2 : (t307.length == t266.length) = true := by first | simpa using c52 | (simp at c52 ⊢; omega)
             clear c52
             replace H := Option.bind_eq_some_iff.mp H
             obtain ⟨t310, A530, H⟩ := H
             replace H : ((billiardlaw18_shifts.f kj4 t293).bind fun t313 => ((billiardref18_Same.f kj4 t310 t313).bind fun t316 => (billiardlaw18_CorrectOrderFree.j1 kj4 t266 t273 t300 t307 (!t316)))) = some r := H
             have A53 := aM A530
             clear A530
             replace H := Option.bind_eq_some_iff.mp H
             obtain ⟨t313, A540, H⟩ := H
             replace H : ((billiardref18_Same.f kj4 t310 t313).bind fun t316 => (billiardlaw18_CorrectOrderFree.j1 kj4 t266 t273 t300 t307 (!t316))) = some r := H
             have A54 := aM A540
             clear A540
             replace H := Option.bind_eq_some_iff.mp H
             obtain ⟨t316, A550, H⟩ := H
             replace H : (billiardlaw18_CorrectOrderFree.j1 kj4 t266 t273 t300 t307 (!t316)) = some r := H
             have A55 := aM A550
             clear A550
             have H' := aM H
             clear H
             obtain ⟨Ao56, co56, eo56⟩ := Kd.R_slice HO275.out
             subst eo56
             obtain ⟨Ao57, co57, eo57⟩ := Kd.R_slice HO302.out
             subst eo57
             obtain ⟨Ao58, co58, eo58⟩ := Kd.R_slice HO309.out
             subst eo58
             go_wp2_with (first | (go_at_call 15; (with_reducible refine (billiardlaw18_shifts.calls kj4 _ _ t273 t310 _ ?side1 ?side2 A53.out).mono ?_); (case side1 => repeat (first | exact (Kd.R_reads' HO275.out).2.2 | (with_reducible refine Kd.C_alloc ?_ _) | (with_reducible refine Kd.C_drewN ?_ _) | (with_reducible refine Kd.C_drew ?_))); (case side2 => exact (Kd.R_reads' HO275.out).2.1); rintro e w59 ⟨v311, rfl, ho0, hb⟩; have n0_ := aM (Kd.R_below (by (with_reducible repeat (first | apply Kd.R_alloc | apply Kd.R_drewN | apply Kd.R_drew)); exact HO_7.out) hb); have n1_ := aM (Kd.R_below (by (with_reducible repeat (first | apply Kd.R_alloc | apply Kd.R_drewN | apply Kd.R_drew)); exact HO275.out) hb); have n2_ := aM (Kd.R_below (by (with_reducible repeat (first | apply Kd.R_alloc | apply Kd.R_drewN | apply Kd.R_drew)); exact HO292.out) hb); have n3_ := aM (Kd.R_below (by (with_reducible repeat (first | apply Kd.R_alloc | apply Kd.R_drewN | apply Kd.R_drew)); exact HO295.out) hb); have n4_ := aM (Kd.R_below (by (with_reducible repeat (first | apply Kd.R_alloc | apply Kd.R_drewN | apply Kd.R_drew)); exact HO302.out) hb); have n5_ := aM (Kd.R_below (by (with_reducible repeat (first | apply Kd.R_alloc | apply Kd.R_drewN | apply Kd.R_drew)); exact HO309.out) hb); have n6_ := aM (Kd.R_lower ho0 (lZ (by repeat (first | (with_reducible first | exact HB.out | apply lA | apply lN | apply lD) | exact HB.out)))); have n7_ := aM (lT (by repeat (first | (with_reducible first | exact HB.out | apply lA | apply lN | apply lD) | exact HB.out)) hb); clear HO_7; clear HO275; clear HO292; clear HO295; clear HO302; clear HO309; clear HB; have HO_7 := n0_; have HO275 := n1_; have HO292 := n2_; have HO295 := n3_; have HO302 := n4_; have HO309 := n5_; have HO312 := n6_; have HB := n7_; clear n0_ n1_ n2_ n3_ n4_ n5_ n6_ n7_; (try clear hb); (try clear hb2); (try clear hk); (try clear hi); (try clear ho0); obtain ⟨Ao60, co60, eo60⟩ := Kd.R_slice HO295.out; subst eo60) | (go_at_call 15; (with_reducible refine (billiardlaw18_shifts.calls kj4 _ _ t293 t313 _ ?side1 ?side2 A54.out).mono ?_); (case side1 => repeat (first | exact (Kd.R_reads' HO295.out).2.2 | (with_reducible refine Kd.C_alloc ?_ _) | (with_reducible refine Kd.C_drewN ?_ _) | (with_reducible refine Kd.C_drew ?_))); (case side2 => exact (Kd.R_reads' HO295.out).2.1); rintro e w61 ⟨v314, rfl, ho0, hb⟩; have n0_ := aM (Kd.R_below (by (with_reducible repeat (first | apply Kd.R_alloc | apply Kd.R_drewN | apply Kd.R_drew)); exact HO_7.out) hb); have n1_ := aM (Kd.R_below (by (with_reducible repeat (first | apply Kd.R_alloc | apply Kd.R_drewN | apply Kd.R_drew)); exact HO275.out) hb); have n2_ := aM (Kd.R_below (by (with_reducible repeat (first | apply Kd.R_alloc | apply Kd.R_drewN | apply Kd.R_drew)); exact HO292.out) hb); have n3_ := aM (Kd.R_below (by (with_reducible repeat (first | apply Kd.R_alloc | apply Kd.R_drewN | apply Kd.R_drew)); exact HO295.out) hb); have n4_ := aM (Kd.R_below (by (with_reducible repeat (first | apply Kd.R_alloc | apply Kd.R_drewN | apply Kd.R_drew)); exact HO302.out) hb); have n5_ := aM (Kd.R_below (by (with_reducible repeat (first | apply Kd.R_alloc | apply Kd.R_drewN | apply Kd.R_drew)); exact HO309.out) hb); have n6_ := aM (Kd.R_elder' (by (with_reducible repeat (first | apply Kd.R_alloc | apply Kd.R_drewN | apply Kd.R_drew)); exact HO312.out) (Kd.R_base ho0) hb); have n7_ := aM (Kd.R_lower (Kd.R_new' ho0 (Kd.R_lt (by (with_reducible repeat (first | apply Kd.R_alloc | apply Kd.R_drewN | apply Kd.R_drew)); exact HO312.out))) (lZ (by repeat (first | (with_reducible first | exact HB.out | apply lA | apply lN | apply lD) | exact HB.out)))); have n8_ := aM (lT (by repeat (first | (with_reducible first | exact HB.out | apply lA | apply lN | apply lD) | exact HB.out)) hb); clear HO_7; clear HO275; clear HO292; clear HO295; clear HO302; clear HO309; clear HO312; clear HB; have HO_7 := n0_; have HO275 := n1_; have HO292 := n2_; have HO295 := n3_; have HO302 := n4_; have HO309 := n5_; have HO312 := n6_; have HO315 := n7_; have HB := n8_; clear n0_ n1_ n2_ n3_ n4_ n5_ n6_ n7_ n8_; (try clear hb); (try clear hb2); (try clear hk); (try clear hi); (try clear ho0); obtain ⟨Ao62, co62, eo62⟩ := Kd.R_slice HO312.out; subst eo62; obtain ⟨Ao63, co63, eo63⟩ := Kd.R_slice HO315.out; subst eo63) | (go_at_call 14; (with_reducible refine (billiardref18_Same.calls kj4 _ _ t310 _ _ t313 t316 _ ?side1 ?side2 ?side3 ?side4 A55.out).mono ?_); (case side1 => repeat (first | exact (Kd.R_reads' HO312.out).2.2 | (with_reducible refine Kd.C_alloc ?_ _) | (with_reducible refine Kd.C_drewN ?_ _) | (with_reducible refine Kd.C_drew ?_))); (case side2 => exact (Kd.R_reads' HO312.out).2.1); (case side3 => repeat (first | exact (Kd.R_reads' HO315.out).2.2 | (with_reducible refine Kd.C_alloc ?_ _) | (with_reducible refine Kd.C_drewN ?_ _) | (with_reducible refine Kd.C_drew ?_))); (case side4 => exact (Kd.R_reads' HO315.out).2.1); rintro e w' ⟨rfl, ⟨nd, rfl⟩⟩))
             go_meet
             case rel => exact ⟨_, (!t316), (by first | rfl | (simp; done) | (simp [*]; done)), H', ⟨by have := HJ4.out; first | omega | exact Nat.le_refl _⟩, ⟨by (with_reducible repeat (first | apply Kd.R_alloc | apply Kd.R_drewN | apply Kd.R_drew)); exact HO_7.out⟩, ⟨by (with_reducible repeat (first | apply Kd.R_alloc | apply Kd.R_drewN | apply Kd.R_drew)); exact Kd.R_mono HO275.out (fun _ hk => ⟨hk.1.2, hk.2⟩)⟩, ⟨by (with_reducible repeat (first | apply Kd.R_alloc | apply Kd.R_drewN | apply Kd.R_drew)); exact Kd.R_mono HO302.out (fun _ hk => ⟨hk.1.1.2, hk.2⟩)⟩, ⟨by (with_reducible repeat (first | apply Kd.R_alloc | apply Kd.R_drewN | apply Kd.R_drew)); exact Kd.R_mono HO309.out (fun _ hk => ⟨hk.1.1.2, hk.2⟩)⟩, ⟨by repeat (first | (with_reducible first | exact HB.out | apply lA | apply lN | apply lD) | exact HB.out)⟩⟩
            ·rw [if_neg c52] at H
             have c52b0 : ((t307.length : Int) == (t266.length : Int)) = false := beq_eq_false_iff_ne.mpr c52
             have c52b1 : ((t307.length : Int) != (t266.length : Int)) = true := bne_iff_ne.mpr c52
             have c52b2 : (t307.length == t266.length) = false := by first | simpa using c52 | (simp at c52 ⊢; omega)
             have H' := aM H
             clear H
             obtain ⟨Ao64, co64, eo64⟩ := Kd.R_slice HO275.out
             subst eo64
             obtain ⟨Ao65, co65, eo65⟩ := Kd.R_slice HO302.out
             subst eo65
             obtain ⟨Ao66, co66, eo66⟩ := Kd.R_slice HO309.out
             subst eo66
             go_wp2
             go_meet
             case rel => exact ⟨_, (true), (by first | rfl | (simp; done) | (simp [*]; done)), H', ⟨by have := HJ4.out; first | omega | exact Nat.le_refl _⟩, ⟨by (with_reducible repeat (first | apply Kd.R_alloc | apply Kd.R_drewN | apply Kd.R_drew)); exact HO_7.out⟩, ⟨by (with_reducible repeat (first | apply Kd.R_alloc | apply Kd.R_drewN | apply Kd.R_drew)); exact Kd.R_mono HO275.out (fun _ hk => ⟨hk.1.2, hk.2⟩)⟩, ⟨by (with_reducible repeat (first | apply Kd.R_alloc | apply Kd.R_drewN | apply Kd.R_drew)); exact Kd.R_mono HO302.out (fun _ hk => ⟨hk.1.1.2, hk.2⟩)⟩, ⟨by (with_reducible repeat (first | apply Kd.R_alloc | apply Kd.R_drewN | apply Kd.R_drew)); exact Kd.R_mono HO309.out (fun _ hk => ⟨hk.1.1.2, hk.2⟩)⟩, ⟨by repeat (first | (with_reducible first | exact HB.out | apply lA | apply lN | apply lD) | exact HB.out)⟩⟩
           ·rw [if_neg c51] at H
            have c51b0 : ((t300.length : Int) == (t266.length : Int)) = false := beq_eq_false_iff_ne.mpr c51
            have c51b1 : ((t300.length : Int) != (t266.length : Int)) = true := bne_iff_ne.mpr c51
            have c51b2 : (t300.length == t266.length) = false := by first | simpa using c51 | (simp at c51 ⊢; omega)
            have H' := aM H
            clear H
            obtain ⟨Ao67, co67, eo67⟩ := Kd.R_slice HO275.out
            subst eo67
            obtain ⟨Ao68, co68, eo68⟩ := Kd.R_slice HO302.out
            subst eo68
            go_wp2
            go_meet
            case rel => exact ⟨_, (true), (by first | rfl | (simp; done) | (simp [*]; done)), H', ⟨by have := HJ4.out; first | omega | exact Nat.le_refl _⟩, ⟨by (with_reducible repeat (first | apply Kd.R_alloc | apply Kd.R_drewN | apply Kd.R_drew)); exact HO_7.out⟩, ⟨by (with_reducible repeat (first | apply Kd.R_alloc | apply Kd.R_drewN | apply Kd.R_drew)); exact Kd.R_mono HO275.out (fun _ hk => ⟨hk.1.2, hk.2⟩)⟩, ⟨by (with_reducible repeat (first | apply Kd.R_alloc | apply Kd.R_drewN | apply Kd.R_drew)); exact Kd.R_mono HO302.out (fun _ hk => ⟨hk.1.1.2, hk.2⟩)⟩, ⟨by (with_reducible repeat (first | apply Kd.R_alloc | apply Kd.R_drewN | apply Kd.R_drew)); exact Kd.R_mono HO309.out (fun _ hk => ⟨hk.1.1.2, hk.2⟩)⟩, ⟨by repeat (first | (with_reducible first | exact HB.out | apply lA | apply lN | apply lD) | exact HB.out)⟩⟩
          ·rw [if_neg c50] at H
           have c50b0 : ((t273.length : Int) == (t266.length : Int)) = false := beq_eq_false_iff_ne.mpr c50
           have c50b1 : ((t273.length : Int) != (t266.length : Int)) = true := bne_iff_ne.mpr c50
           have c50b2 : (t273.length == t266.length) = false := by first | simpa using c50 | (simp at c50 ⊢; omega)
           (first | rw [c50b0] | (simp only [i64_w, i32_w]; rw [c50b0]) | skip)
           have H' := aM H
           clear H
           obtain ⟨Ao69, co69, eo69⟩ := Kd.R_slice HO275.out
           subst eo69
           go_wp2
           go_meet
           case rel => exact ⟨_, (true), (by first | rfl | (simp; done) | (simp [*]; done)), H', ⟨by have := HJ4.out; first | omega | exact Nat.le_refl _⟩, ⟨by (with_reducible repeat (first | apply Kd.R_alloc | apply Kd.R_drewN | apply Kd.R_drew)); exact HO_7.out⟩, ⟨by (with_reducible repeat (first | apply Kd.R_alloc | apply Kd.R_drewN | apply Kd.R_drew)); exact Kd.R_mono HO275.out (fun _ hk => ⟨hk.1.2, hk.2⟩)⟩, ⟨by (with_reducible repeat (first | apply Kd.R_alloc | apply Kd.R_drewN | apply Kd.R_drew)); exact Kd.R_mono HO302.out (fun _ hk => ⟨hk.1.1.2, hk.2⟩)⟩, ⟨by (with_reducible repeat (first | apply Kd.R_alloc | apply Kd.R_drewN | apply Kd.R_drew)); exact Kd.R_mono HO309.out (fun _ hk => ⟨hk.1.1.2, hk.2⟩)⟩, ⟨by repeat (first | (with_reducible first | exact HB.out | apply lA | apply lN | apply lD) | exact HB.out)⟩⟩
         case rest =>
          clear HC34
          try clear c1
          try clear c2
          try clear p2
          try clear c3
          try clear q3
          try clear c4
          try clear q4
          try clear c5
          try clear c6
          try clear p6
          try clear c7
          try clear c8
          try clear c9
          try clear c15
          try clear c16
          try clear c18
          try clear c18b0
          try clear c18b1
          try clear c21
          try clear c21b0
          try clear c21b1
          try clear c22
          try clear c22b0
          try clear c22b1
          try clear c23
          try clear c24
          try clear c24b0
          try clear c25
          try clear c25b0
          try clear c26
          try clear c28
          try clear c28b0
          try clear c29
          try clear c29b0
          try clear c31
          try clear c31b0
          try clear c32
          try clear c32b0
          try clear c38
          try clear q38
          try clear q39
          try clear q46
          try clear c48
          try clear q48
          try clear c50
          try clear c50b0
          try clear c50b1
          try clear c50b2
          try clear c51
          try clear c51b0
          try clear c51b1
          try clear c51b2
          try clear c52
          try clear c52b0
          try clear c52b1
          try clear c52b2
          try clear p64
          try clear p2
          try clear q038
          try clear q048
          try clear q38
          try clear q39
          try clear q46
          try clear q48
          obtain ⟨kq, x89_33, rfl, HA, HJ33, HO_7, HO_10, HO_12, HO_13, HB⟩ := hcut
          cases kq with
          | zero => exact absurd HA.out (by simp [billiardlaw18_CorrectOrderFree.j1])
          | succ kj33 =>
           have H := HA.out
           clear HA
           simp only [billiardlaw18_CorrectOrderFree.j1] at H
           by_cases c70 : x89_33 = true
           ·subst c70
            have H1 : (some false) = some r := by rw [if_pos rfl] at H; exact H
            clear H
            have H := H1
            clear H1
            exact absurd ((Option.some.inj H).trans HR.out) (by decide)
           ·replace c70 := Bool.eq_false_iff.mpr c70
            subst c70
            have H1 : (billiardlaw18_CorrectOrderFree.l0 kj33 t266 t273 t300 t307 0) = some r := by rw [if_neg (show ¬ (false = true) by decide)] at H; exact H
            clear H
            have H := H1
            clear H1
            have H' := aM H
            clear H
            go_wp2
            go_loopg [14] kj33 (fun kq v14 w' => ∃ (x14_3 : Int), v14 = .int .i64 x14_3 ∧ Aside0 (billiardlaw18_CorrectOrderFree.l0 kq t266 t273 t300 t307 x14_3 = some r) ∧ Aside0 (kq ≤ kj33) ∧ Aside0 (Kd.R k32 32 w' w.heap.size (fun _ => True) (.slice Ao35 t266.length co35) t266) ∧ Aside0 (Kd.R k48 48 w' w.heap.size (fun k_ => some k_ ≠ (v301 : Value).ownBlock ∧ some k_ ≠ (v308 : Value).ownBlock) v274 t273) ∧ Aside0 (Kd.R k48 48 w' w.heap.size (fun k_ => some k_ ≠ (v274 : Value).ownBlock ∧ some k_ ≠ (v308 : Value).ownBlock) v301 t300) ∧ Aside0 (Kd.R k48 48 w' w.heap.size (fun k_ => some k_ ≠ (v274 : Value).ownBlock ∧ some k_ ≠ (v301 : Value).ownBlock) v308 t307) ∧ Aside0 (Below w.heap.size w w'))
            case atStart => exact ⟨(0), (by first | rfl | (simp; done) | (simp [*]; done)), H', ⟨Nat.le_refl _⟩, ⟨by (with_reducible repeat (first | apply Kd.R_alloc | apply Kd.R_drewN | apply Kd.R_drew)); exact HO_7.out⟩, ⟨by (with_reducible repeat (first | apply Kd.R_alloc | apply Kd.R_drewN | apply Kd.R_drew)); exact HO_10.out⟩, ⟨by (with_reducible repeat (first | apply Kd.R_alloc | apply Kd.R_drewN | apply Kd.R_drew)); exact HO_12.out⟩, ⟨by (with_reducible repeat (first | apply Kd.R_alloc | apply Kd.R_drewN | apply Kd.R_drew)); exact HO_13.out⟩, ⟨by repeat (first | (with_reducible first | exact HB.out | apply lA | apply lN | apply lD) | exact HB.out)⟩⟩
            case round =>
             clear H'
             try clear c1
             try clear c2
             try clear p2
             try clear c3
             try clear q3
             try clear c4
             try clear q4
             try clear c5
             try clear c6
             try clear p6
             try clear c7
             try clear c8
             try clear c9
             try clear c15
             try clear c16
             try clear c18
             try clear c18b0
             try clear c18b1
             try clear c21
             try clear c21b0
             try clear c21b1
             try clear c22
             try clear c22b0
             try clear c22b1
             try clear c23
             try clear c24
             try clear c24b0
             try clear c25
             try clear c25b0
             try clear c26
             try clear c28
             try clear c28b0
             try clear c29
             try clear c29b0
             try clear c31
             try clear c31b0
             try clear c32
             try clear c32b0
             try clear c38
             try clear q38
             try clear q39
             try clear q46
             try clear c48
             try clear q48
             try clear c50
             try clear c50b0
             try clear c50b1
             try clear c50b2
             try clear c51
             try clear c51b0
             try clear c51b1
             try clear c51b2
             try clear c52
             try clear c52b0
             try clear c52b1
             try clear c52b2
             try clear p64
             try clear c70
             try clear p2
             try clear p6
             try clear p64
             try clear q038
             try clear q048
             try clear q3
             try clear q38
             try clear q39
             try clear q4
             try clear q46
             try clear q48
             obtain ⟨x14_3, rfl, HA, HK3, HO_7, HO_10, HO_12, HO_13, HB⟩ := hrel
             cases gk with
             | zero => exact absurd HA.out (by simp [billiardlaw18_CorrectOrderFree.l0])
             | succ k3 =>
              have H := HA.out
              clear HA
              simp only [billiardlaw18_CorrectOrderFree.l0] at H
              by_cases c71 : x14_3 < (t266.length : Int)
              ·rw [if_pos c71] at H
               have c71b0 : decide (x14_3 < (t266.length : Int)) = true := decide_eq_true c71
               clear c71
               by_cases c72 : 0 ≤ x14_3
               ·rw [if_pos c72] at H
                have c72b0 : decide (0 ≤ x14_3) = true := decide_eq_true c72
                clear c72
                by_cases c73 : x14_3 < (t273.length : Int)
                ·rw [if_pos c73] at H
                 have c73b0 : decide (x14_3 < (t273.length : Int)) = true := decide_eq_true c73
                 clear c73
                 by_cases c74 : x14_3 < (t300.length : Int)
                 ·rw [if_pos c74] at H
                  have c74b0 : decide (x14_3 < (t300.length : Int)) = true := decide_eq_true c74
                  clear c74
                  by_cases c75 : x14_3 < (t307.length : Int)
                  ·rw [if_pos c75] at H
                   have c75b0 : decide (x14_3 < (t307.length : Int)) = true := decide_eq_true c75
                   clear c75
                   by_cases c76 : ((rd_T48 t273 x14_3).f0) = (wrap64 (((rd_T48 t300 x14_3).f0) + ((rd_T48 t307 x14_3).f0)))
                   ·rw [if_pos c76] at H
                    have c76b0 : (((rd_T48 t273 x14_3).f0) == (wrap64 (((rd_T48 t300 x14_3).f0) + ((rd_T48 t307 x14_3).f0)))) = true := beq_iff_eq.mpr c76
                    have c76b1 : (((rd_T48 t273 x14_3).f0) != (wrap64 (((rd_T48 t300 x14_3).f0) + ((rd_T48 t307 x14_3).f0)))) = false := bne_eq_false_iff_eq.mpr c76
                    clear c76
                    by_cases c77 : ((rd_T48 t273 x14_3).f1) = (wrap64 (((rd_T48 t300 x14_3).f1) + ((rd_T48 t307 x14_3).f1)))
                    ·rw [if_pos c77] at H
                     have c77b0 : (((rd_T48 t273 x14_3).f1) == (wrap64 (((rd_T48 t300 x14_3).f1) + ((rd_T48 t307 x14_3).f1)))) = true := beq_iff_eq.mpr c77
                     have c77b1 : (((rd_T48 t273 x14_3).f1) != (wrap64 (((rd_T48 t300 x14_3).f1) + ((rd_T48 t307 x14_3).f1)))) = false := bne_eq_false_iff_eq.mpr c77
                     clear c77
                     by_cases c78 : ((rd_T32 t266 x14_3).f3) = 0
                     ·rw [if_pos c78] at H
                      have c78b0 : (((rd_T32 t266 x14_3).f3) == 0) = true := beq_iff_eq.mpr c78
                      have c78b1 : (((rd_T32 t266 x14_3).f3) != 0) = false := bne_eq_false_iff_eq.mpr c78
                      clear c78
                      by_cases c79 : (!(((rd_T48 t273 x14_3).f0) == 0) || (!(((rd_T48 t273 x14_3).f1) == 0))) = true
                      ·rw [if_pos c79] at H
                       have c79b0 : (!(((rd_T48 t273 x14_3).f0) == 0) || (!(((rd_T48 t273 x14_3).f1) == 0))) = true := c79
                       clear c79
                       exact absurd ((Option.some.inj H).trans HR.out) (by decide)
                      ·rw [if_neg c79] at H
                       have c79b0 : (!(((rd_T48 t273 x14_3).f0) == 0) || (!(((rd_T48 t273 x14_3).f1) == 0))) = false := by simpa using c79
                       clear c79
                       have H' := aM H
                       clear H
                       try go_wp2
                       have n0_ := aM (Kd.R_drew HO_7.out)
                       have n1_ := aM (Kd.R_drew HO_10.out)
                       have n2_ := aM (Kd.R_drew HO_12.out)
                       have n3_ := aM (Kd.R_drew HO_13.out)
                       have n4_ := aM (lD HB.out)
                       clear HO_7
                       clear HO_10
                       clear HO_12
                       clear HO_13
                       clear HB
                       have HO_7 := n0_
                       have HO_10 := n1_
                       have HO_12 := n2_
                       have HO_13 := n3_
                       have HB := n4_
                       clear n0_ n1_ n2_ n3_ n4_
                       obtain ⟨Ao81, co81, eo81⟩ := Kd.R_slice HO_10.out
                       (first | subst eo81 | (injection eo81 with f1_ f2_ f3_; have f4_ := f1_.symm; have f5_ := f3_.symm; clear f1_ f2_ f3_; subst f4_; subst f5_))
                       have p317 : 0 ≤ (x14_3 : Int) := of_decide_eq_true (by first | (with_reducible assumption) | assumption)
                       have q317 : x14_3 < (t273.length : Int) := of_decide_eq_true (by first | (with_reducible assumption) | assumption)
                       obtain ⟨ad317, e317, hx317_0, hx317_1⟩ := at_T48 (Kd.R_reads' HO_10.out).2.2 x14_3 p317 q317
                       cases e317
                       replace p317 := eq_true p317
                       replace q317 := eq_true q317
                       obtain ⟨Ao82, co82, eo82⟩ := Kd.R_slice HO_12.out
                       (first | subst eo82 | (injection eo82 with f1_ f2_ f3_; have f4_ := f1_.symm; have f5_ := f3_.symm; clear f1_ f2_ f3_; subst f4_; subst f5_))
                       have p318 : 0 ≤ (x14_3 : Int) := of_decide_eq_true (by first | (with_reducible assumption) | assumption)
                       have q318 : x14_3 < (t300.length : Int) := of_decide_eq_true (by first | (with_reducible assumption) | assumption)
                       obtain ⟨ad318, e318, hx318_0, hx318_1⟩ := at_T48 (Kd.R_reads' HO_12.out).2.2 x14_3 p318 q318
                       cases e318
                       replace p318 := eq_true p318
                       replace q318 := eq_true q318
                       obtain ⟨Ao83, co83, eo83⟩ := Kd.R_slice HO_13.out
                       (first | subst eo83 | (injection eo83 with f1_ f2_ f3_; have f4_ := f1_.symm; have f5_ := f3_.symm; clear f1_ f2_ f3_; subst f4_; subst f5_))
                       have p319 : 0 ≤ (x14_3 : Int) := of_decide_eq_true (by first | (with_reducible assumption) | assumption)
                       have q319 : x14_3 < (t307.length : Int) := of_decide_eq_true (by first | (with_reducible assumption) | assumption)
                       obtain ⟨ad319, e319, hx319_0, hx319_1⟩ := at_T48 (Kd.R_reads' HO_13.out).2.2 x14_3 p319 q319
                       cases e319
                       replace p319 := eq_true p319
                       replace q319 := eq_true q319
                       have p320 : 0 ≤ (x14_3 : Int) := of_decide_eq_true (by first | (with_reducible assumption) | assumption)
                       have q320 : x14_3 < (t273.length : Int) := of_decide_eq_true (by first | (with_reducible assumption) | assumption)
                       obtain ⟨ad320, e320, hx320_0, hx320_1⟩ := at_T48 (Kd.R_reads' HO_10.out).2.2 x14_3 p320 q320
                       obtain rfl : ad317 = ad320 := (by injection e320)
                       replace p320 := eq_true p320
                       replace q320 := eq_true q320
                       have p321 : 0 ≤ (x14_3 : Int) := of_decide_eq_true (by first | (with_reducible assumption) | assumption)
                       have q321 : x14_3 < (t300.length : Int) := of_decide_eq_true (by first | (with_reducible assumption) | assumption)
                       obtain ⟨ad321, e321, hx321_0, hx321_1⟩ := at_T48 (Kd.R_reads' HO_12.out).2.2 x14_3 p321 q321
                       obtain rfl : ad318 = ad321 := (by injection e321)
                       replace p321 := eq_true p321
                       replace q321 := eq_true q321
                       have p322 : 0 ≤ (x14_3 : Int) := of_decide_eq_true (by first | (with_reducible assumption) | assumption)
                       have q322 : x14_3 < (t307.length : Int) := of_decide_eq_true (by first | (with_reducible assumption) | assumption)
                       obtain ⟨ad322, e322, hx322_0, hx322_1⟩ := at_T48 (Kd.R_reads' HO_13.out).2.2 x14_3 p322 q322
                       obtain rfl : ad319 = ad322 := (by injection e322)
                       replace p322 := eq_true p322
                       replace q322 := eq_true q322
                       have p323 : 0 ≤ (x14_3 : Int) := of_decide_eq_true (by first | (with_reducible assumption) | assumption)
                       have q323 : x14_3 < (t266.length : Int) := of_decide_eq_true (by first | (with_reducible assumption) | assumption)
                       obtain ⟨ad323, e323, hx323_0, hx323_1, hx323_2, hx323_3, hx323_4, hx323_5, hx323_6, hx323_7, hx323_8, hx323_9⟩ := at_T32 (Kd.R_reads' HO_7.out).2.2 x14_3 p323 q323
                       cases e323
                       replace p323 := eq_true p323
                       replace q323 := eq_true q323
                       have p324 : 0 ≤ (x14_3 : Int) := of_decide_eq_true (by first | (with_reducible assumption) | assumption)
                       have q324 : x14_3 < (t273.length : Int) := of_decide_eq_true (by first | (with_reducible assumption) | assumption)
                       obtain ⟨ad324, e324, hx324_0, hx324_1⟩ := at_T48 (Kd.R_reads' HO_10.out).2.2 x14_3 p324 q324
                       obtain rfl : ad317 = ad324 := (by injection e324)
                       replace p324 := eq_true p324
                       replace q324 := eq_true q324
                       refine start_ (n := 52) (S := fun w' => w'.cell? (ad317.add ((x14_3).toNat * 2)) = some (.int .i64 ((rd_T48 t273 x14_3).f0)) ∧ w'.cell? ⟨(ad317.add ((x14_3).toNat * 2)).block, (ad317.add ((x14_3).toNat * 2)).off + 1, none⟩ = some (.int .i64 ((rd_T48 t273 x14_3).f1)) ∧ w'.cell? (ad318.add ((x14_3).toNat * 2)) = some (.int .i64 ((rd_T48 t300 x14_3).f0)) ∧ w'.cell? ⟨(ad318.add ((x14_3).toNat * 2)).block, (ad318.add ((x14_3).toNat * 2)).off + 1, none⟩ = some (.int .i64 ((rd_T48 t300 x14_3).f1)) ∧ w'.cell? (ad319.add ((x14_3).toNat * 2)) = some (.int .i64 ((rd_T48 t307 x14_3).f0)) ∧ w'.cell? ⟨(ad319.add ((x14_3).toNat * 2)).block, (ad319.add ((x14_3).toNat * 2)).off + 1, none⟩ = some (.int .i64 ((rd_T48 t307 x14_3).f1)) ∧ w'.cell? (ad317.add ((x14_3).toNat * 2)) = some (.int .i64 ((rd_T48 t273 x14_3).f0)) ∧ w'.cell? ⟨(ad317.add ((x14_3).toNat * 2)).block, (ad317.add ((x14_3).toNat * 2)).off + 1, none⟩ = some (.int .i64 ((rd_T48 t273 x14_3).f1)) ∧ w'.cell? (ad318.add ((x14_3).toNat * 2)) = some (.int .i64 ((rd_T48 t300 x14_3).f0)) ∧ w'.cell? ⟨(ad318.add ((x14_3).toNat * 2)).block, (ad318.add ((x14_3).toNat * 2)).off + 1, none⟩ = some (.int .i64 ((rd_T48 t300 x14_3).f1)) ∧ w'.cell? (ad319.add ((x14_3).toNat * 2)) = some (.int .i64 ((rd_T48 t307 x14_3).f0)) ∧ w'.cell? ⟨(ad319.add ((x14_3).toNat * 2)).block, (ad319.add ((x14_3).toNat * 2)).off + 1, none⟩ = some (.int .i64 ((rd_T48 t307 x14_3).f1)) ∧ w'.cell? (ad323.add ((x14_3).toNat * 10)) = some (.int .u32 ((rd_T32 t266 x14_3).f0)) ∧ w'.cell? ⟨(ad323.add ((x14_3).toNat * 10)).block, (ad323.add ((x14_3).toNat * 10)).off + 1, none⟩ = some (.int .i32 ((rd_T32 t266 x14_3).f1)) ∧ w'.cell? ⟨(ad323.add ((x14_3).toNat * 10)).block, (ad323.add ((x14_3).toNat * 10)).off + 2, none⟩ = some (.int .i32 ((rd_T32 t266 x14_3).f2.f0)) ∧ w'.cell? ⟨(ad323.add ((x14_3).toNat * 10)).block, (ad323.add ((x14_3).toNat * 10)).off + 3, none⟩ = some (.int .i32 ((rd_T32 t266 x14_3).f2.f1)) ∧ w'.cell? ⟨(ad323.add ((x14_3).toNat * 10)).block, (ad323.add ((x14_3).toNat * 10)).off + 4, none⟩ = some (.int .i32 ((rd_T32 t266 x14_3).f3)) ∧ w'.cell? ⟨(ad323.add ((x14_3).toNat * 10)).block, (ad323.add ((x14_3).toNat * 10)).off + 5, none⟩ = some (.int .i32 ((rd_T32 t266 x14_3).f4)) ∧ w'.cell? ⟨(ad323.add ((x14_3).toNat * 10)).block, (ad323.add ((x14_3).toNat * 10)).off + 6, none⟩ = some (.int .i32 ((rd_T32 t266 x14_3).f5.f0)) ∧ w'.cell? ⟨(ad323.add ((x14_3).toNat * 10)).block, (ad323.add ((x14_3).toNat * 10)).off + 7, none⟩ = some (.int .i32 ((rd_T32 t266 x14_3).f5.f1)) ∧ w'.cell? ⟨(ad323.add ((x14_3).toNat * 10)).block, (ad323.add ((x14_3).toNat * 10)).off + 8, none⟩ = some (.int .i32 ((rd_T32 t266 x14_3).f6.f0)) ∧ w'.cell? ⟨(ad323.add ((x14_3).toNat * 10)).block, (ad323.add ((x14_3).toNat * 10)).off + 9, none⟩ = some (.int .i32 ((rd_T32 t266 x14_3).f6.f1)) ∧ w'.cell? (ad317.add ((x14_3).toNat * 2)) = some (.int .i64 ((rd_T48 t273 x14_3).f0)) ∧ w'.cell? ⟨(ad317.add ((x14_3).toNat * 2)).block, (ad317.add ((x14_3).toNat * 2)).off + 1, none⟩ = some (.int .i64 ((rd_T48 t273 x14_3).f1))) (ds := []) #[F,F,F,F,F,F,F,F,F,F,F,F,F,F,F,F,F,F,F,F,F,F,F,F,F,F,F,F,F,F,F,F,F,F,F,F,F,F,F,F,F,F,F,F,F,F,F,F,F,F,F,F] (by kernel_rfl) rfl rfl ⟨hx317_0, hx317_1, hx318_0, hx318_1, hx319_0, hx319_1, hx320_0, hx320_1, hx321_0, hx321_1, hx322_0, hx322_1, hx323_0, hx323_1, hx323_2, hx323_3, hx323_4, hx323_5, hx323_6, hx323_7, hx323_8, hx323_9, hx324_0, hx324_1⟩ (fun hHeld => ?_); refine with_tabW billiardlaw18_CorrectOrderFree.tab14 billiardlaw18_CorrectOrderFree.bits14 (fun HT_ HW_ => ?_)
                       generalize wr.drew = w80 at HO_7 HO_10 HO_12 HO_13 HB hx317_0 hx317_1 hx318_0 hx318_1 hx319_0 hx319_1 hx320_0 hx320_1 hx321_0 hx321_1 hx322_0 hx322_1 hx323_0 hx323_1 hx323_2 hx323_3 hx323_4 hx323_5 hx323_6 hx323_7 hx323_8 hx323_9 hx324_0 hx324_1 hHeld ⊢
                       refine pure_ (i := 0) (N := some 96) (v := ?_) (a' := ?_) #[T,F,F,F,F,F,F,F,F,F,F,F,F,F,F,F,F,F,F,F,F,F,F,F,F,F,F,F,F,F,F,F,F,F,F,F,F,F,F,F,F,F,F,F,F,F,F,F,F,F,F,F] rfl rfl (any_of HT_.out (by kernel_rfl)) (fun _ _ _ h => h) (Or.inl ⟨by rfl, ?_⟩) ?_ ?_
                       rotate_left
                       ·intro w'
                        go_simp
                        with_reducible rfl
                       rotate_left
                       ·simp only [Act.put, sA, sB, sC, i64_w, i32_w]
                        rfl
                       refine pure_ (i := 1) (N := some 97) (v := ?_) (a' := ?_) #[T,T,F,F,F,F,F,F,F,F,F,F,F,F,F,F,F,F,F,F,F,F,F,F,F,F,F,F,F,F,F,F,F,F,F,F,F,F,F,F,F,F,F,F,F,F,F,F,F,F,F,F] rfl rfl (any_of HT_.out (by kernel_rfl)) (fun _ _ _ h => h) (Or.inl ⟨by rfl, ?_⟩) ?_ ?_
                       rotate_left
                       ·intro w'
                        go_simp
                        with_reducible rfl
                       rotate_left
                       ·simp only [Act.put, sA, sB, sC, i64_w, i32_w]
                        rfl
                       refine pure_ (i := 2) (N := some 98) (v := ?_) (a' := ?_) #[T,T,T,F,F,F,F,F,F,F,F,F,F,F,F,F,F,F,F,F,F,F,F,F,F,F,F,F,F,F,F,F,F,F,F,F,F,F,F,F,F,F,F,F,F,F,F,F,F,F,F,F] rfl rfl (any_of HT_.out (by kernel_rfl)) (fun _ _ _ h => h) (Or.inl ⟨by rfl, ?_⟩) ?_ ?_
                       rotate_left
                       ·intro w'
                        go_simp
                        with_reducible rfl
                       rotate_left
                       ·simp only [Act.put, sA, sB, sC, i64_w, i32_w]
                        rfl
                       refine pure_ (i := 3) (N := some 99) (v := ?_) (a' := ?_) #[T,T,T,T,F,F,F,F,F,F,F,F,F,F,F,F,F,F,F,F,F,F,F,F,F,F,F,F,F,F,F,F,F,F,F,F,F,F,F,F,F,F,F,F,F,F,F,F,F,F,F,F] rfl rfl (any_of HT_.out (by kernel_rfl)) (fun _ _ _ h => h) (Or.inl ⟨by rfl, ?_⟩) ?_ ?_
                       rotate_left
                       ·intro w'
                        go_simp
                        with_reducible rfl
                       rotate_left
                       ·simp only [Act.put, sA, sB, sC, i64_w, i32_w]
                        rfl
                       refine pure_ (i := 5) (N := some 101) (v := ?_) (a' := ?_) #[T,T,T,T,F,T,F,F,F,F,F,F,F,F,F,F,F,F,F,F,F,F,F,F,F,F,F,F,F,F,F,F,F,F,F,F,F,F,F,F,F,F,F,F,F,F,F,F,F,F,F,F] rfl rfl (any_of HT_.out (by kernel_rfl)) (fun _ _ _ h => h) (Or.inl ⟨by rfl, ?_⟩) ?_ ?_
                       rotate_left
                       ·intro w'
                        go_simp
                        with_reducible rfl
                       rotate_left
                       ·simp only [Act.put, sA, sB, sC, i64_w, i32_w]
                        rfl
                       refine pure_ (i := 6) (N := some 102) (v := ?_) (a' := ?_) #[T,T,T,T,F,T,T,F,F,F,F,F,F,F,F,F,F,F,F,F,F,F,F,F,F,F,F,F,F,F,F,F,F,F,F,F,F,F,F,F,F,F,F,F,F,F,F,F,F,F,F,F] rfl rfl (any_of HT_.out (by kernel_rfl)) (fun _ _ _ h => h) (Or.inl ⟨by rfl, ?_⟩) ?_ ?_
                       rotate_left
                       ·intro w'
                        go_simp
                        with_reducible rfl
                       rotate_left
                       ·simp only [Act.put, sA, sB, sC, i64_w, i32_w]
                        rfl
                       refine pure_ (i := 7) (N := some 103) (v := ?_) (a' := ?_) #[T,T,T,T,F,T,T,T,F,F,F,F,F,F,F,F,F,F,F,F,F,F,F,F,F,F,F,F,F,F,F,F,F,F,F,F,F,F,F,F,F,F,F,F,F,F,F,F,F,F,F,F] rfl rfl (any_of HT_.out (by kernel_rfl)) (fun _ _ _ h => h) (Or.inl ⟨by rfl, ?_⟩) ?_ ?_
                       rotate_left
                       ·intro w'
                        go_simp
                        with_reducible rfl
                       rotate_left
                       ·simp only [Act.put, sA, sB, sC, i64_w, i32_w]
                        rfl
                       refine pure_ (i := 8) (N := some 104) (v := ?_) (a' := ?_) #[T,T,T,T,F,T,T,T,T,F,F,F,F,F,F,F,F,F,F,F,F,F,F,F,F,F,F,F,F,F,F,F,F,F,F,F,F,F,F,F,F,F,F,F,F,F,F,F,F,F,F,F] rfl rfl (any_of HT_.out (by kernel_rfl)) (fun _ _ _ h => h) (Or.inl ⟨by rfl, ?_⟩) ?_ ?_
                       rotate_left
                       ·intro w'
                        go_simp
                        with_reducible rfl
                       rotate_left
                       ·simp only [Act.put, sA, sB, sC, i64_w, i32_w]
                        rfl
                       refine pure_ (i := 10) (N := some 106) (v := ?_) (a' := ?_) #[T,T,T,T,F,T,T,T,T,F,T,F,F,F,F,F,F,F,F,F,F,F,F,F,F,F,F,F,F,F,F,F,F,F,F,F,F,F,F,F,F,F,F,F,F,F,F,F,F,F,F,F] rfl rfl (any_of HT_.out (by kernel_rfl)) (fun _ _ _ h => h) (Or.inl ⟨by rfl, ?_⟩) ?_ ?_
                       rotate_left
                       ·intro w'
                        go_simp
                        with_reducible rfl
                       rotate_left
                       ·simp only [Act.put, sA, sB, sC, i64_w, i32_w]
                        rfl
                       refine pure_ (i := 11) (N := some 107) (v := ?_) (a' := ?_) #[T,T,T,T,F,T,T,T,T,F,T,T,F,F,F,F,F,F,F,F,F,F,F,F,F,F,F,F,F,F,F,F,F,F,F,F,F,F,F,F,F,F,F,F,F,F,F,F,F,F,F,F] rfl rfl (any_of HT_.out (by kernel_rfl)) (fun _ _ _ h => h) (Or.inl ⟨by rfl, ?_⟩) ?_ ?_
                       rotate_left
                       ·intro w'
                        go_simp
                        with_reducible rfl
                       rotate_left
                       ·simp only [Act.put, sA, sB, sC, i64_w, i32_w]
                        rfl
                       refine pure_ (i := 12) (N := some 108) (v := ?_) (a' := ?_) #[T,T,T,T,F,T,T,T,T,F,T,T,T,F,F,F,F,F,F,F,F,F,F,F,F,F,F,F,F,F,F,F,F,F,F,F,F,F,F,F,F,F,F,F,F,F,F,F,F,F,F,F] rfl rfl (any_of HT_.out (by kernel_rfl)) (fun _ _ _ h => h) (Or.inl ⟨by rfl, ?_⟩) ?_ ?_
                       rotate_left
                       ·intro w'
                        go_simp
                        with_reducible rfl
                       rotate_left
                       ·simp only [Act.put, sA, sB, sC, i64_w, i32_w]
                        rfl
                       refine pure_ (i := 13) (N := some 109) (v := ?_) (a' := ?_) #[T,T,T,T,F,T,T,T,T,F,T,T,T,T,F,F,F,F,F,F,F,F,F,F,F,F,F,F,F,F,F,F,F,F,F,F,F,F,F,F,F,F,F,F,F,F,F,F,F,F,F,F] rfl rfl (any_of HT_.out (by kernel_rfl)) (fun _ _ _ h => h) (Or.inl ⟨by rfl, ?_⟩) ?_ ?_
                       rotate_left
                       ·intro w'
                        go_simp
                        with_reducible rfl
                       rotate_left
                       ·simp only [Act.put, sA, sB, sC, i64_w, i32_w]
                        rfl
                       refine take_ (i := 4) (N := some 100) (v := ?_) (a' := ?_) #[T,T,T,T,T,T,T,T,T,F,T,T,T,T,F,F,F,F,F,F,F,F,F,F,F,F,F,F,F,F,F,F,F,F,F,F,F,F,F,F,F,F,F,F,F,F,F,F,F,F,F,F] rfl rfl (take_ofW HT_.out HW_.out (by kernel_rfl)) (fun _ _ _ h => h) (Or.inl ⟨by rfl, ?_⟩) hHeld ?_ ?_
                       rotate_left
                       ·rintro w' ⟨s0, s1, s2, s3, s4, s5, s6, s7, s8, s9, s10, s11, s12, s13, s14, s15, s16, s17, s18, s19, s20, s21, s22, s23⟩
                        go_simp
                        with_reducible rfl
                       rotate_left
                       ·simp only [Act.put, sA, sB, sC, i64_w, i32_w]
                        rfl
                       refine take_ (i := 9) (N := some 105) (v := ?_) (a' := ?_) #[T,T,T,T,T,T,T,T,T,T,T,T,T,T,F,F,F,F,F,F,F,F,F,F,F,F,F,F,F,F,F,F,F,F,F,F,F,F,F,F,F,F,F,F,F,F,F,F,F,F,F,F] rfl rfl (take_ofW HT_.out HW_.out (by kernel_rfl)) (fun _ _ _ h => h) (Or.inl ⟨by rfl, ?_⟩) hHeld ?_ ?_
                       rotate_left
                       ·rintro w' ⟨s0, s1, s2, s3, s4, s5, s6, s7, s8, s9, s10, s11, s12, s13, s14, s15, s16, s17, s18, s19, s20, s21, s22, s23⟩
                        go_simp
                        with_reducible rfl
                       rotate_left
                       ·simp only [Act.put, sA, sB, sC, i64_w, i32_w]
                        rfl
                       refine take_ (i := 14) (N := some 110) (v := ?_) (a' := ?_) #[T,T,T,T,T,T,T,T,T,T,T,T,T,T,T,F,F,F,F,F,F,F,F,F,F,F,F,F,F,F,F,F,F,F,F,F,F,F,F,F,F,F,F,F,F,F,F,F,F,F,F,F] rfl rfl (take_ofW HT_.out HW_.out (by kernel_rfl)) (fun _ _ _ h => h) (Or.inl ⟨by rfl, ?_⟩) hHeld ?_ ?_
                       rotate_left
                       ·rintro w' ⟨s0, s1, s2, s3, s4, s5, s6, s7, s8, s9, s10, s11, s12, s13, s14, s15, s16, s17, s18, s19, s20, s21, s22, s23⟩
                        go_simp
                        with_reducible rfl
                       rotate_left
                       ·simp only [Act.put, sA, sB, sC, i64_w, i32_w]
                        rfl
                       refine pure_ (i := 15) (N := some 111) (v := ?_) (a' := ?_) #[T,T,T,T,T,T,T,T,T,T,T,T,T,T,T,T,F,F,F,F,F,F,F,F,F,F,F,F,F,F,F,F,F,F,F,F,F,F,F,F,F,F,F,F,F,F,F,F,F,F,F,F] rfl rfl (any_of HT_.out (by kernel_rfl)) (fun _ _ _ h => h) (Or.inl ⟨by rfl, ?_⟩) ?_ ?_
                       rotate_left
                       ·intro w'
                        go_simp
                        with_reducible rfl
                       rotate_left
                       ·simp only [Act.put, sA, sB, sC, i64_w, i32_w]
                        rfl
                       refine pure_ (i := 16) (N := some 112) (v := ?_) (a' := ?_) #[T,T,T,T,T,T,T,T,T,T,T,T,T,T,T,T,T,F,F,F,F,F,F,F,F,F,F,F,F,F,F,F,F,F,F,F,F,F,F,F,F,F,F,F,F,F,F,F,F,F,F,F] rfl rfl (any_of HT_.out (by kernel_rfl)) (fun _ _ _ h => h) (Or.inl ⟨by rfl, ?_⟩) ?_ ?_
                       rotate_left
                       ·intro w'
                        go_simp
                        with_reducible rfl
                       rotate_left
                       ·simp only [Act.put, sA, sB, sC, i64_w, i32_w]
                        rfl
                       refine pure_ (i := 17) (N := some 113) (v := ?_) (a' := ?_) #[T,T,T,T,T,T,T,T,T,T,T,T,T,T,T,T,T,T,F,F,F,F,F,F,F,F,F,F,F,F,F,F,F,F,F,F,F,F,F,F,F,F,F,F,F,F,F,F,F,F,F,F] rfl rfl (any_of HT_.out (by kernel_rfl)) (fun _ _ _ h => h) (Or.inl ⟨by rfl, ?_⟩) ?_ ?_
                       rotate_left
                       ·intro w'
                        go_simp
                        with_reducible rfl
                       rotate_left
                       ·simp only [Act.put, sA, sB, sC, i64_w, i32_w]
                        rfl
                       refine pure_ (i := 18) (N := some 114) (v := ?_) (a' := ?_) #[T,T,T,T,T,T,T,T,T,T,T,T,T,T,T,T,T,T,T,F,F,F,F,F,F,F,F,F,F,F,F,F,F,F,F,F,F,F,F,F,F,F,F,F,F,F,F,F,F,F,F,F] rfl rfl (any_of HT_.out (by kernel_rfl)) (fun _ _ _ h => h) (Or.inl ⟨by rfl, ?_⟩) ?_ ?_
                       rotate_left
                       ·intro w'
                        go_simp
                        with_reducible rfl
                       rotate_left
                       ·simp only [Act.put, sA, sB, sC, i64_w, i32_w]
                        rfl
                       refine pure_ (i := 19) (N := some 115) (v := ?_) (a' := ?_) #[T,T,T,T,T,T,T,T,T,T,T,T,T,T,T,T,T,T,T,T,F,F,F,F,F,F,F,F,F,F,F,F,F,F,F,F,F,F,F,F,F,F,F,F,F,F,F,F,F,F,F,F] rfl rfl (any_of HT_.out (by kernel_rfl)) (fun _ _ _ h => h) (Or.inl ⟨by rfl, ?_⟩) ?_ ?_
                       rotate_left
                       ·intro w'
                        go_simp
                        with_reducible rfl
                       rotate_left
                       ·simp only [Act.put, sA, sB, sC, i64_w, i32_w]
                        rfl
                       refine pure_ (i := 20) (N := some 116) (v := ?_) (a' := ?_) #[T,T,T,T,T,T,T,T,T,T,T,T,T,T,T,T,T,T,T,T,T,F,F,F,F,F,F,F,F,F,F,F,F,F,F,F,F,F,F,F,F,F,F,F,F,F,F,F,F,F,F,F] rfl rfl (any_of HT_.out (by kernel_rfl)) (fun _ _ _ h => h) (Or.inl ⟨by rfl, ?_⟩) ?_ ?_
                       rotate_left
                       ·intro w'
                        go_simp
                        with_reducible rfl
                       rotate_left
                       ·simp only [Act.put, sA, sB, sC, i64_w, i32_w]
                        rfl
                       refine pure_ (i := 21) (N := some 117) (v := ?_) (a' := ?_) #[T,T,T,T,T,T,T,T,T,T,T,T,T,T,T,T,T,T,T,T,T,T,F,F,F,F,F,F,F,F,F,F,F,F,F,F,F,F,F,F,F,F,F,F,F,F,F,F,F,F,F,F] rfl rfl (any_of HT_.out (by kernel_rfl)) (fun _ _ _ h => h) (Or.inl ⟨by rfl, ?_⟩) ?_ ?_
                       rotate_left
                       ·intro w'
                        go_simp
                        with_reducible rfl
                       rotate_left
                       ·simp only [Act.put, sA, sB, sC, i64_w, i32_w]
                        rfl
                       refine pure_ (i := 23) (N := some 119) (v := ?_) (a' := ?_) #[T,T,T,T,T,T,T,T,T,T,T,T,T,T,T,T,T,T,T,T,T,T,F,T,F,F,F,F,F,F,F,F,F,F,F,F,F,F,F,F,F,F,F,F,F,F,F,F,F,F,F,F] rfl rfl (any_of HT_.out (by kernel_rfl)) (fun _ _ _ h => h) (Or.inl ⟨by rfl, ?_⟩) ?_ ?_
                       rotate_left
                       ·intro w'
                        go_simp
                        with_reducible rfl
                       rotate_left
                       ·simp only [Act.put, sA, sB, sC, i64_w, i32_w]
                        rfl
                       refine pure_ (i := 24) (N := some 120) (v := ?_) (a' := ?_) #[T,T,T,T,T,T,T,T,T,T,T,T,T,T,T,T,T,T,T,T,T,T,F,T,T,F,F,F,F,F,F,F,F,F,F,F,F,F,F,F,F,F,F,F,F,F,F,F,F,F,F,F] rfl rfl (any_of HT_.out (by kernel_rfl)) (fun _ _ _ h => h) (Or.inl ⟨by rfl, ?_⟩) ?_ ?_
                       rotate_left
                       ·intro w'
                        go_simp
                        with_reducible rfl
                       rotate_left
                       ·simp only [Act.put, sA, sB, sC, i64_w, i32_w]
                        rfl
                       refine pure_ (i := 25) (N := some 121) (v := ?_) (a' := ?_) #[T,T,T,T,T,T,T,T,T,T,T,T,T,T,T,T,T,T,T,T,T,T,F,T,T,T,F,F,F,F,F,F,F,F,F,F,F,F,F,F,F,F,F,F,F,F,F,F,F,F,F,F] rfl rfl (any_of HT_.out (by kernel_rfl)) (fun _ _ _ h => h) (Or.inl ⟨by rfl, ?_⟩) ?_ ?_
                       rotate_left
                       ·intro w'
                        go_simp
                        with_reducible rfl
                       rotate_left
                       ·simp only [Act.put, sA, sB, sC, i64_w, i32_w]
                        rfl
                       refine pure_ (i := 26) (N := some 122) (v := ?_) (a' := ?_) #[T,T,T,T,T,T,T,T,T,T,T,T,T,T,T,T,T,T,T,T,T,T,F,T,T,T,T,F,F,F,F,F,F,F,F,F,F,F,F,F,F,F,F,F,F,F,F,F,F,F,F,F] rfl rfl (any_of HT_.out (by kernel_rfl)) (fun _ _ _ h => h) (Or.inl ⟨by rfl, ?_⟩) ?_ ?_
                       rotate_left
                       ·intro w'
                        go_simp
                        with_reducible rfl
                       rotate_left
                       ·simp only [Act.put, sA, sB, sC, i64_w, i32_w]
                        rfl
                       refine pure_ (i := 28) (N := some 124) (v := ?_) (a' := ?_) #[T,T,T,T,T,T,T,T,T,T,T,T,T,T,T,T,T,T,T,T,T,T,F,T,T,T,T,F,T,F,F,F,F,F,F,F,F,F,F,F,F,F,F,F,F,F,F,F,F,F,F,F] rfl rfl (any_of HT_.out (by kernel_rfl)) (fun _ _ _ h => h) (Or.inl ⟨by rfl, ?_⟩) ?_ ?_
                       rotate_left
                       ·intro w'
                        go_simp
                        with_reducible rfl
                       rotate_left
                       ·simp only [Act.put, sA, sB, sC, i64_w, i32_w]
                        rfl
                       refine pure_ (i := 29) (N := some 125) (v := ?_) (a' := ?_) #[T,T,T,T,T,T,T,T,T,T,T,T,T,T,T,T,T,T,T,T,T,T,F,T,T,T,T,F,T,T,F,F,F,F,F,F,F,F,F,F,F,F,F,F,F,F,F,F,F,F,F,F] rfl rfl (any_of HT_.out (by kernel_rfl)) (fun _ _ _ h => h) (Or.inl ⟨by rfl, ?_⟩) ?_ ?_
                       rotate_left
                       ·intro w'
                        go_simp
                        with_reducible rfl
                       rotate_left
                       ·simp only [Act.put, sA, sB, sC, i64_w, i32_w]
                        rfl
                       refine pure_ (i := 30) (N := some 126) (v := ?_) (a' := ?_) #[T,T,T,T,T,T,T,T,T,T,T,T,T,T,T,T,T,T,T,T,T,T,F,T,T,T,T,F,T,T,T,F,F,F,F,F,F,F,F,F,F,F,F,F,F,F,F,F,F,F,F,F] rfl rfl (any_of HT_.out (by kernel_rfl)) (fun _ _ _ h => h) (Or.inl ⟨by rfl, ?_⟩) ?_ ?_
                       rotate_left
                       ·intro w'
                        go_simp
                        with_reducible rfl
                       rotate_left
                       ·simp only [Act.put, sA, sB, sC, i64_w, i32_w]
                        rfl
                       refine pure_ (i := 31) (N := some 127) (v := ?_) (a' := ?_) #[T,T,T,T,T,T,T,T,T,T,T,T,T,T,T,T,T,T,T,T,T,T,F,T,T,T,T,F,T,T,T,T,F,F,F,F,F,F,F,F,F,F,F,F,F,F,F,F,F,F,F,F] rfl rfl (any_of HT_.out (by kernel_rfl)) (fun _ _ _ h => h) (Or.inl ⟨by rfl, ?_⟩) ?_ ?_
                       rotate_left
                       ·intro w'
                        go_simp
                        with_reducible rfl
                       rotate_left
                       ·simp only [Act.put, sA, sB, sC, i64_w, i32_w]
                        rfl
                       refine take_ (i := 22) (N := some 118) (v := ?_) (a' := ?_) #[T,T,T,T,T,T,T,T,T,T,T,T,T,T,T,T,T,T,T,T,T,T,T,T,T,T,T,F,T,T,T,T,F,F,F,F,F,F,F,F,F,F,F,F,F,F,F,F,F,F,F,F] rfl rfl (take_ofW HT_.out HW_.out (by kernel_rfl)) (fun _ _ _ h => h) (Or.inl ⟨by rfl, ?_⟩) hHeld ?_ ?_
                       rotate_left
                       ·rintro w' ⟨s0, s1, s2, s3, s4, s5, s6, s7, s8, s9, s10, s11, s12, s13, s14, s15, s16, s17, s18, s19, s20, s21, s22, s23⟩
                        go_simp
                        with_reducible rfl
                       rotate_left
                       ·simp only [Act.put, sA, sB, sC, i64_w, i32_w]
                        rfl
                       refine take_ (i := 27) (N := some 123) (v := ?_) (a' := ?_) #[T,T,T,T,T,T,T,T,T,T,T,T,T,T,T,T,T,T,T,T,T,T,T,T,T,T,T,T,T,T,T,T,F,F,F,F,F,F,F,F,F,F,F,F,F,F,F,F,F,F,F,F] rfl rfl (take_ofW HT_.out HW_.out (by kernel_rfl)) (fun _ _ _ h => h) (Or.inl ⟨by rfl, ?_⟩) hHeld ?_ ?_
                       rotate_left
                       ·rintro w' ⟨s0, s1, s2, s3, s4, s5, s6, s7, s8, s9, s10, s11, s12, s13, s14, s15, s16, s17, s18, s19, s20, s21, s22, s23⟩
                        go_simp
                        with_reducible rfl
                       rotate_left
                       ·simp only [Act.put, sA, sB, sC, i64_w, i32_w]
                        rfl
                       refine take_ (i := 32) (N := some 128) (v := ?_) (a' := ?_) #[T,T,T,T,T,T,T,T,T,T,T,T,T,T,T,T,T,T,T,T,T,T,T,T,T,T,T,T,T,T,T,T,T,F,F,F,F,F,F,F,F,F,F,F,F,F,F,F,F,F,F,F] rfl rfl (take_ofW HT_.out HW_.out (by kernel_rfl)) (fun _ _ _ h => h) (Or.inl ⟨by rfl, ?_⟩) hHeld ?_ ?_
                       rotate_left
                       ·rintro w' ⟨s0, s1, s2, s3, s4, s5, s6, s7, s8, s9, s10, s11, s12, s13, s14, s15, s16, s17, s18, s19, s20, s21, s22, s23⟩
                        go_simp
                        with_reducible rfl
                       rotate_left
                       ·simp only [Act.put, sA, sB, sC, i64_w, i32_w]
                        rfl
                       refine pure_ (i := 33) (N := some 129) (v := ?_) (a' := ?_) #[T,T,T,T,T,T,T,T,T,T,T,T,T,T,T,T,T,T,T,T,T,T,T,T,T,T,T,T,T,T,T,T,T,T,F,F,F,F,F,F,F,F,F,F,F,F,F,F,F,F,F,F] rfl rfl (any_of HT_.out (by kernel_rfl)) (fun _ _ _ h => h) (Or.inl ⟨by rfl, ?_⟩) ?_ ?_
                       rotate_left
                       ·intro w'
                        go_simp
                        with_reducible rfl
                       rotate_left
                       ·simp only [Act.put, sA, sB, sC, i64_w, i32_w]
                        rfl
                       refine pure_ (i := 34) (N := some 130) (v := ?_) (a' := ?_) #[T,T,T,T,T,T,T,T,T,T,T,T,T,T,T,T,T,T,T,T,T,T,T,T,T,T,T,T,T,T,T,T,T,T,T,F,F,F,F,F,F,F,F,F,F,F,F,F,F,F,F,F] rfl rfl (any_of HT_.out (by kernel_rfl)) (fun _ _ _ h => h) (Or.inl ⟨by rfl, ?_⟩) ?_ ?_
                       rotate_left
                       ·intro w'
                        go_simp
                        with_reducible rfl
                       rotate_left
                       ·simp only [Act.put, sA, sB, sC, i64_w, i32_w]
                        rfl
                       refine pure_ (i := 35) (N := some 131) (v := ?_) (a' := ?_) #[T,T,T,T,T,T,T,T,T,T,T,T,T,T,T,T,T,T,T,T,T,T,T,T,T,T,T,T,T,T,T,T,T,T,T,T,F,F,F,F,F,F,F,F,F,F,F,F,F,F,F,F] rfl rfl (any_of HT_.out (by kernel_rfl)) (fun _ _ _ h => h) (Or.inl ⟨by rfl, ?_⟩) ?_ ?_
                       rotate_left
                       ·intro w'
                        go_simp
                        with_reducible rfl
                       rotate_left
                       ·simp only [Act.put, sA, sB, sC, i64_w, i32_w]
                        rfl
                       refine pure_ (i := 36) (N := some 132) (v := ?_) (a' := ?_) #[T,T,T,T,T,T,T,T,T,T,T,T,T,T,T,T,T,T,T,T,T,T,T,T,T,T,T,T,T,T,T,T,T,T,T,T,T,F,F,F,F,F,F,F,F,F,F,F,F,F,F,F] rfl rfl (any_of HT_.out (by kernel_rfl)) (fun _ _ _ h => h) (Or.inl ⟨by rfl, ?_⟩) ?_ ?_
                       rotate_left
                       ·intro w'
                        go_simp
                        with_reducible rfl
                       rotate_left
                       ·simp only [Act.put, sA, sB, sC, i64_w, i32_w]
                        rfl
                       refine pure_ (i := 37) (N := some 133) (v := ?_) (a' := ?_) #[T,T,T,T,T,T,T,T,T,T,T,T,T,T,T,T,T,T,T,T,T,T,T,T,T,T,T,T,T,T,T,T,T,T,T,T,T,T,F,F,F,F,F,F,F,F,F,F,F,F,F,F] rfl rfl (any_of HT_.out (by kernel_rfl)) (fun _ _ _ h => h) (Or.inl ⟨by rfl, ?_⟩) ?_ ?_
                       rotate_left
                       ·intro w'
                        go_simp
                        with_reducible rfl
                       rotate_left
                       ·simp only [Act.put, sA, sB, sC, i64_w, i32_w]
                        rfl
                       refine pure_ (i := 38) (N := some 134) (v := ?_) (a' := ?_) #[T,T,T,T,T,T,T,T,T,T,T,T,T,T,T,T,T,T,T,T,T,T,T,T,T,T,T,T,T,T,T,T,T,T,T,T,T,T,T,F,F,F,F,F,F,F,F,F,F,F,F,F] rfl rfl (any_of HT_.out (by kernel_rfl)) (fun _ _ _ h => h) (Or.inl ⟨by rfl, ?_⟩) ?_ ?_
                       rotate_left
                       ·intro w'
                        go_simp
                        with_reducible rfl
                       rotate_left
                       ·simp only [Act.put, sA, sB, sC, i64_w, i32_w]
                        rfl
                       refine pure_ (i := 39) (N := some 135) (v := ?_) (a' := ?_) #[T,T,T,T,T,T,T,T,T,T,T,T,T,T,T,T,T,T,T,T,T,T,T,T,T,T,T,T,T,T,T,T,T,T,T,T,T,T,T,T,F,F,F,F,F,F,F,F,F,F,F,F] rfl rfl (any_of HT_.out (by kernel_rfl)) (fun _ _ _ h => h) (Or.inl ⟨by rfl, ?_⟩) ?_ ?_
                       rotate_left
                       ·intro w'
                        go_simp
                        with_reducible rfl
                       rotate_left
                       ·simp only [Act.put, sA, sB, sC, i64_w, i32_w]
                        rfl
                       refine pure_ (i := 40) (N := some 136) (v := ?_) (a' := ?_) #[T,T,T,T,T,T,T,T,T,T,T,T,T,T,T,T,T,T,T,T,T,T,T,T,T,T,T,T,T,T,T,T,T,T,T,T,T,T,T,T,T,F,F,F,F,F,F,F,F,F,F,F] rfl rfl (any_of HT_.out (by kernel_rfl)) (fun _ _ _ h => h) (Or.inl ⟨by rfl, ?_⟩) ?_ ?_
                       rotate_left
                       ·intro w'
                        go_simp
                        with_reducible rfl
                       rotate_left
                       ·simp only [Act.put, sA, sB, sC, i64_w, i32_w]
                        rfl
                       refine take_ (i := 41) (N := some 137) (v := ?_) (a' := ?_) #[T,T,T,T,T,T,T,T,T,T,T,T,T,T,T,T,T,T,T,T,T,T,T,T,T,T,T,T,T,T,T,T,T,T,T,T,T,T,T,T,T,T,F,F,F,F,F,F,F,F,F,F] rfl rfl (take_ofW HT_.out HW_.out (by kernel_rfl)) (fun _ _ _ h => h) (Or.inl ⟨by rfl, ?_⟩) hHeld ?_ ?_
                       rotate_left
                       ·rintro w' ⟨s0, s1, s2, s3, s4, s5, s6, s7, s8, s9, s10, s11, s12, s13, s14, s15, s16, s17, s18, s19, s20, s21, s22, s23⟩
                        go_simp
                        with_reducible rfl
                       rotate_left
                       ·simp only [Act.put, sA, sB, sC, i64_w, i32_w]
                        rfl
                       refine pure_ (i := 42) (N := some 138) (v := ?_) (a' := ?_) #[T,T,T,T,T,T,T,T,T,T,T,T,T,T,T,T,T,T,T,T,T,T,T,T,T,T,T,T,T,T,T,T,T,T,T,T,T,T,T,T,T,T,T,F,F,F,F,F,F,F,F,F] rfl rfl (any_of HT_.out (by kernel_rfl)) (fun _ _ _ h => h) (Or.inl ⟨by rfl, ?_⟩) ?_ ?_
                       rotate_left
                       ·intro w'
                        go_simp
                        with_reducible rfl
                       rotate_left
                       ·simp only [Act.put, sA, sB, sC, i64_w, i32_w]
                        rfl
                       refine pure_ (i := 43) (N := some 139) (v := ?_) (a' := ?_) #[T,T,T,T,T,T,T,T,T,T,T,T,T,T,T,T,T,T,T,T,T,T,T,T,T,T,T,T,T,T,T,T,T,T,T,T,T,T,T,T,T,T,T,T,F,F,F,F,F,F,F,F] rfl rfl (any_of HT_.out (by kernel_rfl)) (fun _ _ _ h => h) (Or.inl ⟨by rfl, ?_⟩) ?_ ?_
                       rotate_left
                       ·intro w'
                        go_simp
                        with_reducible rfl
                       rotate_left
                       ·simp only [Act.put, sA, sB, sC, i64_w, i32_w]
                        rfl
                       refine pure_ (i := 44) (N := some 140) (v := ?_) (a' := ?_) #[T,T,T,T,T,T,T,T,T,T,T,T,T,T,T,T,T,T,T,T,T,T,T,T,T,T,T,T,T,T,T,T,T,T,T,T,T,T,T,T,T,T,T,T,T,F,F,F,F,F,F,F] rfl rfl (any_of HT_.out (by kernel_rfl)) (fun _ _ _ h => h) (Or.inl ⟨by rfl, ?_⟩) ?_ ?_
                       rotate_left
                       ·intro w'
                        go_simp
                        with_reducible rfl
                       rotate_left
                       ·simp only [Act.put, sA, sB, sC, i64_w, i32_w]
                        rfl
                       refine pure_ (i := 45) (N := some 141) (v := ?_) (a' := ?_) #[T,T,T,T,T,T,T,T,T,T,T,T,T,T,T,T,T,T,T,T,T,T,T,T,T,T,T,T,T,T,T,T,T,T,T,T,T,T,T,T,T,T,T,T,T,T,F,F,F,F,F,F] rfl rfl (any_of HT_.out (by kernel_rfl)) (fun _ _ _ h => h) (Or.inl ⟨by rfl, ?_⟩) ?_ ?_
                       rotate_left
                       ·intro w'
                        go_simp
                        with_reducible rfl
                       rotate_left
                       ·simp only [Act.put, sA, sB, sC, i64_w, i32_w]
                        rfl
                       refine pure_ (i := 46) (N := some 142) (v := ?_) (a' := ?_) #[T,T,T,T,T,T,T,T,T,T,T,T,T,T,T,T,T,T,T,T,T,T,T,T,T,T,T,T,T,T,T,T,T,T,T,T,T,T,T,T,T,T,T,T,T,T,T,F,F,F,F,F] rfl rfl (any_of HT_.out (by kernel_rfl)) (fun _ _ _ h => h) (Or.inl ⟨by rfl, ?_⟩) ?_ ?_
                       rotate_left
                       ·intro w'
                        go_simp
                        with_reducible rfl
                       rotate_left
                       ·simp only [Act.put, sA, sB, sC, i64_w, i32_w]
                        rfl
                       refine pure_ (i := 48) (N := some 144) (v := ?_) (a' := ?_) #[T,T,T,T,T,T,T,T,T,T,T,T,T,T,T,T,T,T,T,T,T,T,T,T,T,T,T,T,T,T,T,T,T,T,T,T,T,T,T,T,T,T,T,T,T,T,T,F,T,F,F,F] rfl rfl (any_of HT_.out (by kernel_rfl)) (fun _ _ _ h => h) (Or.inl ⟨by rfl, ?_⟩) ?_ ?_
                       rotate_left
                       ·intro w'
                        go_simp
                        with_reducible rfl
                       rotate_left
                       ·simp only [Act.put, sA, sB, sC, i64_w, i32_w]
                        rfl
                       refine take_ (i := 47) (N := some 143) (v := ?_) (a' := ?_) #[T,T,T,T,T,T,T,T,T,T,T,T,T,T,T,T,T,T,T,T,T,T,T,T,T,T,T,T,T,T,T,T,T,T,T,T,T,T,T,T,T,T,T,T,T,T,T,T,T,F,F,F] rfl rfl (take_ofW HT_.out HW_.out (by kernel_rfl)) (fun _ _ _ h => h) (Or.inl ⟨by rfl, ?_⟩) hHeld ?_ ?_
                       rotate_left
                       ·rintro w' ⟨s0, s1, s2, s3, s4, s5, s6, s7, s8, s9, s10, s11, s12, s13, s14, s15, s16, s17, s18, s19, s20, s21, s22, s23⟩
                        go_simp
                        with_reducible rfl
                       rotate_left
                       ·simp only [Act.put, sA, sB, sC, i64_w, i32_w]
                        rfl
                       refine pure_ (i := 49) (N := some 145) (v := ?_) (a' := ?_) #[T,T,T,T,T,T,T,T,T,T,T,T,T,T,T,T,T,T,T,T,T,T,T,T,T,T,T,T,T,T,T,T,T,T,T,T,T,T,T,T,T,T,T,T,T,T,T,T,T,T,F,F] rfl rfl (any_of HT_.out (by kernel_rfl)) (fun _ _ _ h => h) (Or.inl ⟨by rfl, ?_⟩) ?_ ?_
                       rotate_left
                       ·intro w'
                        go_simp
                        with_reducible rfl
                       rotate_left
                       ·simp only [Act.put, sA, sB, sC, i64_w, i32_w]
                        rfl
                       refine pure_ (i := 50) (N := some 146) (v := ?_) (a' := ?_) #[T,T,T,T,T,T,T,T,T,T,T,T,T,T,T,T,T,T,T,T,T,T,T,T,T,T,T,T,T,T,T,T,T,T,T,T,T,T,T,T,T,T,T,T,T,T,T,T,T,T,T,F] rfl rfl (any_of HT_.out (by kernel_rfl)) (fun _ _ _ h => h) (Or.inl ⟨by rfl, ?_⟩) ?_ ?_
                       rotate_left
                       ·intro w'
                        go_simp
                        with_reducible rfl
                       rotate_left
                       ·simp only [Act.put, sA, sB, sC, i64_w, i32_w]
                        rfl
                       refine pure_ (i := 51) (N := some 147) (v := ?_) (a' := ?_) #[T,T,T,T,T,T,T,T,T,T,T,T,T,T,T,T,T,T,T,T,T,T,T,T,T,T,T,T,T,T,T,T,T,T,T,T,T,T,T,T,T,T,T,T,T,T,T,T,T,T,T,T] rfl rfl (any_of HT_.out (by kernel_rfl)) (fun _ _ _ h => h) (Or.inl ⟨by rfl, ?_⟩) ?_ ?_
                       rotate_left
                       ·intro w'
                        go_simp
                        with_reducible rfl
                       rotate_left
                       ·simp only [Act.put, sA, sB, sC, i64_w, i32_w]
                        rfl
                       refine done_ (done_of HT_.out (by kernel_rfl)) ?_
                       try go_wp2
                       go_roundg k3
                       case measure => have := HJ4.out; have := HJ33.out; have := HK3.out; omega
                       case rel => exact ⟨(wrap64 (x14_3 + 1)), (by first | rfl | (simp; done) | (simp [*]; done)), H', ⟨by have := HJ4.out; have := HJ33.out; have := HK3.out; omega⟩, ⟨by (with_reducible repeat (first | apply Kd.R_alloc | apply Kd.R_drewN | apply Kd.R_drew)); exact HO_7.out⟩, ⟨by (with_reducible repeat (first | apply Kd.R_alloc | apply Kd.R_drewN | apply Kd.R_drew)); exact HO_10.out⟩, ⟨by (with_reducible repeat (first | apply Kd.R_alloc | apply Kd.R_drewN | apply Kd.R_drew)); exact HO_12.out⟩, ⟨by (with_reducible repeat (first | apply Kd.R_alloc | apply Kd.R_drewN | apply Kd.R_drew)); exact HO_13.out⟩, ⟨by repeat (first | (with_reducible first | exact HB.out | apply lA | apply lN | apply lD) | exact HB.out)⟩⟩
                     ·rw [if_neg c78] at H
                      have c78b0 : (((rd_T32 t266 x14_3).f3) == 0) = false := beq_eq_false_iff_ne.mpr c78
                      have c78b1 : (((rd_T32 t266 x14_3).f3) != 0) = true := bne_iff_ne.mpr c78
                      have H' := aM H
                      clear H
                      try go_wp2
                      have n0_ := aM (Kd.R_drew HO_7.out)
                      have n1_ := aM (Kd.R_drew HO_10.out)
                      have n2_ := aM (Kd.R_drew HO_12.out)
                      have n3_ := aM (Kd.R_drew HO_13.out)
                      have n4_ := aM (lD HB.out)
                      clear HO_7
                      clear HO_10
                      clear HO_12
                      clear HO_13
                      clear HB
                      have HO_7 := n0_
                      have HO_10 := n1_
                      have HO_12 := n2_
                      have HO_13 := n3_
                      have HB := n4_
                      clear n0_ n1_ n2_ n3_ n4_
                      obtain ⟨Ao85, co85, eo85⟩ := Kd.R_slice HO_10.out
                      (first | subst eo85 | (injection eo85 with f1_ f2_ f3_; have f4_ := f1_.symm; have f5_ := f3_.symm; clear f1_ f2_ f3_; subst f4_; subst f5_))
                      have p317 : 0 ≤ (x14_3 : Int) := of_decide_eq_true (by first | (with_reducible assumption) | assumption)
                      have q317 : x14_3 < (t273.length : Int) := of_decide_eq_true (by first | (with_reducible assumption) | assumption)
                      obtain ⟨ad317, e317, hx317_0, hx317_1⟩ := at_T48 (Kd.R_reads' HO_10.out).2.2 x14_3 p317 q317
                      cases e317
                      replace p317 := eq_true p317
                      replace q317 := eq_true q317
                      obtain ⟨Ao86, co86, eo86⟩ := Kd.R_slice HO_12.out
                      (first | subst eo86 | (injection eo86 with f1_ f2_ f3_; have f4_ := f1_.symm; have f5_ := f3_.symm; clear f1_ f2_ f3_; subst f4_; subst f5_))
                      have p318 : 0 ≤ (x14_3 : Int) := of_decide_eq_true (by first | (with_reducible assumption) | assumption)
                      have q318 : x14_3 < (t300.length : Int) := of_decide_eq_true (by first | (with_reducible assumption) | assumption)
                      obtain ⟨ad318, e318, hx318_0, hx318_1⟩ := at_T48 (Kd.R_reads' HO_12.out).2.2 x14_3 p318 q318
                      cases e318
                      replace p318 := eq_true p318
                      replace q318 := eq_true q318
                      obtain ⟨Ao87, co87, eo87⟩ := Kd.R_slice HO_13.out
                      (first | subst eo87 | (injection eo87 with f1_ f2_ f3_; have f4_ := f1_.symm; have f5_ := f3_.symm; clear f1_ f2_ f3_; subst f4_; subst f5_))
                      have p319 : 0 ≤ (x14_3 : Int) := of_decide_eq_true (by first | (with_reducible assumption) | assumption)
                      have q319 : x14_3 < (t307.length : Int) := of_decide_eq_true (by first | (with_reducible assumption) | assumption)
                      obtain ⟨ad319, e319, hx319_0, hx319_1⟩ := at_T48 (Kd.R_reads' HO_13.out).2.2 x14_3 p319 q319
                      cases e319
                      replace p319 := eq_true p319
                      replace q319 := eq_true q319
                      have p320 : 0 ≤ (x14_3 : Int) := of_decide_eq_true (by first | (with_reducible assumption) | assumption)
                      have q320 : x14_3 < (t273.length : Int) := of_decide_eq_true (by first | (with_reducible assumption) | assumption)
                      obtain ⟨ad320, e320, hx320_0, hx320_1⟩ := at_T48 (Kd.R_reads' HO_10.out).2.2 x14_3 p320 q320
                      obtain rfl : ad317 = ad320 := (by injection e320)
                      replace p320 := eq_true p320
                      replace q320 := eq_true q320
                      have p321 : 0 ≤ (x14_3 : Int) := of_decide_eq_true (by first | (with_reducible assumption) | assumption)
                      have q321 : x14_3 < (t300.length : Int) := of_decide_eq_true (by first | (with_reducible assumption) | assumption)
                      obtain ⟨ad321, e321, hx321_0, hx321_1⟩ := at_T48 (Kd.R_reads' HO_12.out).2.2 x14_3 p321 q321
                      obtain rfl : ad318 = ad321 := (by injection e321)
                      replace p321 := eq_true p321
                      replace q321 := eq_true q321
                      have p322 : 0 ≤ (x14_3 : Int) := of_decide_eq_true (by first | (with_reducible assumption) | assumption)
                      have q322 : x14_3 < (t307.length : Int) := of_decide_eq_true (by first | (with_reducible assumption) | assumption)
                      obtain ⟨ad322, e322, hx322_0, hx322_1⟩ := at_T48 (Kd.R_reads' HO_13.out).2.2 x14_3 p322 q322
                      obtain rfl : ad319 = ad322 := (by injection e322)
                      replace p322 := eq_true p322
                      replace q322 := eq_true q322
                      have p323 : 0 ≤ (x14_3 : Int) := of_decide_eq_true (by first | (with_reducible assumption) | assumption)
                      have q323 : x14_3 < (t266.length : Int) := of_decide_eq_true (by first | (with_reducible assumption) | assumption)
                      obtain ⟨ad323, e323, hx323_0, hx323_1, hx323_2, hx323_3, hx323_4, hx323_5, hx323_6, hx323_7, hx323_8, hx323_9⟩ := at_T32 (Kd.R_reads' HO_7.out).2.2 x14_3 p323 q323
                      cases e323
                      replace p323 := eq_true p323
                      replace q323 := eq_true q323
                      refine start_ (n := 52) (S := fun w' => w'.cell? (ad317.add ((x14_3).toNat * 2)) = some (.int .i64 ((rd_T48 t273 x14_3).f0)) ∧ w'.cell? ⟨(ad317.add ((x14_3).toNat * 2)).block, (ad317.add ((x14_3).toNat * 2)).off + 1, none⟩ = some (.int .i64 ((rd_T48 t273 x14_3).f1)) ∧ w'.cell? (ad318.add ((x14_3).toNat * 2)) = some (.int .i64 ((rd_T48 t300 x14_3).f0)) ∧ w'.cell? ⟨(ad318.add ((x14_3).toNat * 2)).block, (ad318.add ((x14_3).toNat * 2)).off + 1, none⟩ = some (.int .i64 ((rd_T48 t300 x14_3).f1)) ∧ w'.cell? (ad319.add ((x14_3).toNat * 2)) = some (.int .i64 ((rd_T48 t307 x14_3).f0)) ∧ w'.cell? ⟨(ad319.add ((x14_3).toNat * 2)).block, (ad319.add ((x14_3).toNat * 2)).off + 1, none⟩ = some (.int .i64 ((rd_T48 t307 x14_3).f1)) ∧ w'.cell? (ad317.add ((x14_3).toNat * 2)) = some (.int .i64 ((rd_T48 t273 x14_3).f0)) ∧ w'.cell? ⟨(ad317.add ((x14_3).toNat * 2)).block, (ad317.add ((x14_3).toNat * 2)).off + 1, none⟩ = some (.int .i64 ((rd_T48 t273 x14_3).f1)) ∧ w'.cell? (ad318.add ((x14_3).toNat * 2)) = some (.int .i64 ((rd_T48 t300 x14_3).f0)) ∧ w'.cell? ⟨(ad318.add ((x14_3).toNat * 2)).block, (ad318.add ((x14_3).toNat * 2)).off + 1, none⟩ = some (.int .i64 ((rd_T48 t300 x14_3).f1)) ∧ w'.cell? (ad319.add ((x14_3).toNat * 2)) = some (.int .i64 ((rd_T48 t307 x14_3).f0)) ∧ w'.cell? ⟨(ad319.add ((x14_3).toNat * 2)).block, (ad319.add ((x14_3).toNat * 2)).off + 1, none⟩ = some (.int .i64 ((rd_T48 t307 x14_3).f1)) ∧ w'.cell? (ad323.add ((x14_3).toNat * 10)) = some (.int .u32 ((rd_T32 t266 x14_3).f0)) ∧ w'.cell? ⟨(ad323.add ((x14_3).toNat * 10)).block, (ad323.add ((x14_3).toNat * 10)).off + 1, none⟩ = some (.int .i32 ((rd_T32 t266 x14_3).f1)) ∧ w'.cell? ⟨(ad323.add ((x14_3).toNat * 10)).block, (ad323.add ((x14_3).toNat * 10)).off + 2, none⟩ = some (.int .i32 ((rd_T32 t266 x14_3).f2.f0)) ∧ w'.cell? ⟨(ad323.add ((x14_3).toNat * 10)).block, (ad323.add ((x14_3).toNat * 10)).off + 3, none⟩ = some (.int .i32 ((rd_T32 t266 x14_3).f2.f1)) ∧ w'.cell? ⟨(ad323.add ((x14_3).toNat * 10)).block, (ad323.add ((x14_3).toNat * 10)).off + 4, none⟩ = some (.int .i32 ((rd_T32 t266 x14_3).f3)) ∧ w'.cell? ⟨(ad323.add ((x14_3).toNat * 10)).block, (ad323.add ((x14_3).toNat * 10)).off + 5, none⟩ = some (.int .i32 ((rd_T32 t266 x14_3).f4)) ∧ w'.cell? ⟨(ad323.add ((x14_3).toNat * 10)).block, (ad323.add ((x14_3).toNat * 10)).off + 6, none⟩ = some (.int .i32 ((rd_T32 t266 x14_3).f5.f0)) ∧ w'.cell? ⟨(ad323.add ((x14_3).toNat * 10)).block, (ad323.add ((x14_3).toNat * 10)).off + 7, none⟩ = some (.int .i32 ((rd_T32 t266 x14_3).f5.f1)) ∧ w'.cell? ⟨(ad323.add ((x14_3).toNat * 10)).block, (ad323.add ((x14_3).toNat * 10)).off + 8, none⟩ = some (.int .i32 ((rd_T32 t266 x14_3).f6.f0)) ∧ w'.cell? ⟨(ad323.add ((x14_3).toNat * 10)).block, (ad323.add ((x14_3).toNat * 10)).off + 9, none⟩ = some (.int .i32 ((rd_T32 t266 x14_3).f6.f1))) (ds := []) #[F,F,F,F,F,F,F,F,F,F,F,F,F,F,F,F,F,F,F,F,F,F,F,F,F,F,F,F,F,F,F,F,F,F,F,F,F,F,F,F,F,F,F,F,F,F,F,F,F,F,F,F] (by kernel_rfl) rfl rfl ⟨hx317_0, hx317_1, hx318_0, hx318_1, hx319_0, hx319_1, hx320_0, hx320_1, hx321_0, hx321_1, hx322_0, hx322_1, hx323_0, hx323_1, hx323_2, hx323_3, hx323_4, hx323_5, hx323_6, hx323_7, hx323_8, hx323_9⟩ (fun hHeld => ?_); refine with_tabW billiardlaw18_CorrectOrderFree.tab14 billiardlaw18_CorrectOrderFree.bits14 (fun HT_ HW_ => ?_)
                      generalize wr.drew = w84 at HO_7 HO_10 HO_12 HO_13 HB hx317_0 hx317_1 hx318_0 hx318_1 hx319_0 hx319_1 hx320_0 hx320_1 hx321_0 hx321_1 hx322_0 hx322_1 hx323_0 hx323_1 hx323_2 hx323_3 hx323_4 hx323_5 hx323_6 hx323_7 hx323_8 hx323_9 hHeld ⊢
                      refine pure_ (i := 0) (N := some 96) (v := ?_) (a' := ?_) #[T,F,F,F,F,F,F,F,F,F,F,F,F,F,F,F,F,F,F,F,F,F,F,F,F,F,F,F,F,F,F,F,F,F,F,F,F,F,F,F,F,F,F,F,F,F,F,F,F,F,F,F] rfl rfl (any_of HT_.out (by kernel_rfl)) (fun _ _ _ h => h) (Or.inl ⟨by rfl, ?_⟩) ?_ ?_
                      rotate_left
                      ·intro w'
                       go_simp
                       with_reducible rfl
                      rotate_left
                      ·simp only [Act.put, sA, sB, sC, i64_w, i32_w]
                       rfl
                      refine pure_ (i := 1) (N := some 97) (v := ?_) (a' := ?_) #[T,T,F,F,F,F,F,F,F,F,F,F,F,F,F,F,F,F,F,F,F,F,F,F,F,F,F,F,F,F,F,F,F,F,F,F,F,F,F,F,F,F,F,F,F,F,F,F,F,F,F,F] rfl rfl (any_of HT_.out (by kernel_rfl)) (fun _ _ _ h => h) (Or.inl ⟨by rfl, ?_⟩) ?_ ?_
                      rotate_left
                      ·intro w'
                       go_simp
                       with_reducible rfl
                      rotate_left
                      ·simp only [Act.put, sA, sB, sC, i64_w, i32_w]
                       rfl
                      refine pure_ (i := 2) (N := some 98) (v := ?_) (a' := ?_) #[T,T,T,F,F,F,F,F,F,F,F,F,F,F,F,F,F,F,F,F,F,F,F,F,F,F,F,F,F,F,F,F,F,F,F,F,F,F,F,F,F,F,F,F,F,F,F,F,F,F,F,F] rfl rfl (any_of HT_.out (by kernel_rfl)) (fun _ _ _ h => h) (Or.inl ⟨by rfl, ?_⟩) ?_ ?_
                      rotate_left
                      ·intro w'
                       go_simp
                       with_reducible rfl
                      rotate_left
                      ·simp only [Act.put, sA, sB, sC, i64_w, i32_w]
                       rfl
                      refine pure_ (i := 3) (N := some 99) (v := ?_) (a' := ?_) #[T,T,T,T,F,F,F,F,F,F,F,F,F,F,F,F,F,F,F,F,F,F,F,F,F,F,F,F,F,F,F,F,F,F,F,F,F,F,F,F,F,F,F,F,F,F,F,F,F,F,F,F] rfl rfl (any_of HT_.out (by kernel_rfl)) (fun _ _ _ h => h) (Or.inl ⟨by rfl, ?_⟩) ?_ ?_
                      rotate_left
                      ·intro w'
                       go_simp
                       with_reducible rfl
                      rotate_left
                      ·simp only [Act.put, sA, sB, sC, i64_w, i32_w]
                       rfl
                      refine pure_ (i := 5) (N := some 101) (v := ?_) (a' := ?_) #[T,T,T,T,F,T,F,F,F,F,F,F,F,F,F,F,F,F,F,F,F,F,F,F,F,F,F,F,F,F,F,F,F,F,F,F,F,F,F,F,F,F,F,F,F,F,F,F,F,F,F,F] rfl rfl (any_of HT_.out (by kernel_rfl)) (fun _ _ _ h => h) (Or.inl ⟨by rfl, ?_⟩) ?_ ?_
                      rotate_left
                      ·intro w'
                       go_simp
                       with_reducible rfl
                      rotate_left
                      ·simp only [Act.put, sA, sB, sC, i64_w, i32_w]
                       rfl
                      refine pure_ (i := 6) (N := some 102) (v := ?_) (a' := ?_) #[T,T,T,T,F,T,T,F,F,F,F,F,F,F,F,F,F,F,F,F,F,F,F,F,F,F,F,F,F,F,F,F,F,F,F,F,F,F,F,F,F,F,F,F,F,F,F,F,F,F,F,F] rfl rfl (any_of HT_.out (by kernel_rfl)) (fun _ _ _ h => h) (Or.inl ⟨by rfl, ?_⟩) ?_ ?_
                      rotate_left
                      ·intro w'
                       go_simp
                       with_reducible rfl
                      rotate_left
                      ·simp only [Act.put, sA, sB, sC, i64_w, i32_w]
                       rfl
                      refine pure_ (i := 7) (N := some 103) (v := ?_) (a' := ?_) #[T,T,T,T,F,T,T,T,F,F,F,F,F,F,F,F,F,F,F,F,F,F,F,F,F,F,F,F,F,F,F,F,F,F,F,F,F,F,F,F,F,F,F,F,F,F,F,F,F,F,F,F] rfl rfl (any_of HT_.out (by kernel_rfl)) (fun _ _ _ h => h) (Or.inl ⟨by rfl, ?_⟩) ?_ ?_
                      rotate_left
                      ·intro w'
                       go_simp
                       with_reducible rfl
                      rotate_left
                      ·simp only [Act.put, sA, sB, sC, i64_w, i32_w]
                       rfl
                      refine pure_ (i := 8) (N := some 104) (v := ?_) (a' := ?_) #[T,T,T,T,F,T,T,T,T,F,F,F,F,F,F,F,F,F,F,F,F,F,F,F,F,F,F,F,F,F,F,F,F,F,F,F,F,F,F,F,F,F,F,F,F,F,F,F,F,F,F,F] rfl rfl (any_of HT_.out (by kernel_rfl)) (fun _ _ _ h => h) (Or.inl ⟨by rfl, ?_⟩) ?_ ?_
                      rotate_left
                      ·intro w'
                       go_simp
                       with_reducible rfl
                      rotate_left
                      ·simp only [Act.put, sA, sB, sC, i64_w, i32_w]
                       rfl
                      refine pure_ (i := 10) (N := some 106) (v := ?_) (a' := ?_) #[T,T,T,T,F,T,T,T,T,F,T,F,F,F,F,F,F,F,F,F,F,F,F,F,F,F,F,F,F,F,F,F,F,F,F,F,F,F,F,F,F,F,F,F,F,F,F,F,F,F,F,F] rfl rfl (any_of HT_.out (by kernel_rfl)) (fun _ _ _ h => h) (Or.inl ⟨by rfl, ?_⟩) ?_ ?_
                      rotate_left
                      ·intro w'
                       go_simp
                       with_reducible rfl
                      rotate_left
                      ·simp only [Act.put, sA, sB, sC, i64_w, i32_w]
                       rfl
                      refine pure_ (i := 11) (N := some 107) (v := ?_) (a' := ?_) #[T,T,T,T,F,T,T,T,T,F,T,T,F,F,F,F,F,F,F,F,F,F,F,F,F,F,F,F,F,F,F,F,F,F,F,F,F,F,F,F,F,F,F,F,F,F,F,F,F,F,F,F] rfl rfl (any_of HT_.out (by kernel_rfl)) (fun _ _ _ h => h) (Or.inl ⟨by rfl, ?_⟩) ?_ ?_
                      rotate_left
                      ·intro w'
                       go_simp
                       with_reducible rfl
                      rotate_left
                      ·simp only [Act.put, sA, sB, sC, i64_w, i32_w]
                       rfl
                      refine pure_ (i := 12) (N := some 108) (v := ?_) (a' := ?_) #[T,T,T,T,F,T,T,T,T,F,T,T,T,F,F,F,F,F,F,F,F,F,F,F,F,F,F,F,F,F,F,F,F,F,F,F,F,F,F,F,F,F,F,F,F,F,F,F,F,F,F,F] rfl rfl (any_of HT_.out (by kernel_rfl)) (fun _ _ _ h => h) (Or.inl ⟨by rfl, ?_⟩) ?_ ?_
                      rotate_left
                      ·intro w'
                       go_simp
                       with_reducible rfl
                      rotate_left
                      ·simp only [Act.put, sA, sB, sC, i64_w, i32_w]
                       rfl
                      refine pure_ (i := 13) (N := some 109) (v := ?_) (a' := ?_) #[T,T,T,T,F,T,T,T,T,F,T,T,T,T,F,F,F,F,F,F,F,F,F,F,F,F,F,F,F,F,F,F,F,F,F,F,F,F,F,F,F,F,F,F,F,F,F,F,F,F,F,F] rfl rfl (any_of HT_.out (by kernel_rfl)) (fun _ _ _ h => h) (Or.inl ⟨by rfl, ?_⟩) ?_ ?_
                      rotate_left
                      ·intro w'
                       go_simp
                       with_reducible rfl
                      rotate_left
                      ·simp only [Act.put, sA, sB, sC, i64_w, i32_w]
                       rfl
                      refine take_ (i := 4) (N := some 100) (v := ?_) (a' := ?_) #[T,T,T,T,T,T,T,T,T,F,T,T,T,T,F,F,F,F,F,F,F,F,F,F,F,F,F,F,F,F,F,F,F,F,F,F,F,F,F,F,F,F,F,F,F,F,F,F,F,F,F,F] rfl rfl (take_ofW HT_.out HW_.out (by kernel_rfl)) (fun _ _ _ h => h) (Or.inl ⟨by rfl, ?_⟩) hHeld ?_ ?_
                      rotate_left
                      ·rintro w' ⟨s0, s1, s2, s3, s4, s5, s6, s7, s8, s9, s10, s11, s12, s13, s14, s15, s16, s17, s18, s19, s20, s21⟩
                       go_simp
                       with_reducible rfl
                      rotate_left
                      ·simp only [Act.put, sA, sB, sC, i64_w, i32_w]
                       rfl
                      refine take_ (i := 9) (N := some 105) (v := ?_) (a' := ?_) #[T,T,T,T,T,T,T,T,T,T,T,T,T,T,F,F,F,F,F,F,F,F,F,F,F,F,F,F,F,F,F,F,F,F,F,F,F,F,F,F,F,F,F,F,F,F,F,F,F,F,F,F] rfl rfl (take_ofW HT_.out HW_.out (by kernel_rfl)) (fun _ _ _ h => h) (Or.inl ⟨by rfl, ?_⟩) hHeld ?_ ?_
                      rotate_left
                      ·rintro w' ⟨s0, s1, s2, s3, s4, s5, s6, s7, s8, s9, s10, s11, s12, s13, s14, s15, s16, s17, s18, s19, s20, s21⟩
                       go_simp
                       with_reducible rfl
                      rotate_left
                      ·simp only [Act.put, sA, sB, sC, i64_w, i32_w]
                       rfl
                      refine take_ (i := 14) (N := some 110) (v := ?_) (a' := ?_) #[T,T,T,T,T,T,T,T,T,T,T,T,T,T,T,F,F,F,F,F,F,F,F,F,F,F,F,F,F,F,F,F,F,F,F,F,F,F,F,F,F,F,F,F,F,F,F,F,F,F,F,F] rfl rfl (take_ofW HT_.out HW_.out (by kernel_rfl)) (fun _ _ _ h => h) (Or.inl ⟨by rfl, ?_⟩) hHeld ?_ ?_
                      rotate_left
                      ·rintro w' ⟨s0, s1, s2, s3, s4, s5, s6, s7, s8, s9, s10, s11, s12, s13, s14, s15, s16, s17, s18, s19, s20, s21⟩
                       go_simp
                       with_reducible rfl
                      rotate_left
                      ·simp only [Act.put, sA, sB, sC, i64_w, i32_w]
                       rfl
                      refine pure_ (i := 15) (N := some 111) (v := ?_) (a' := ?_) #[T,T,T,T,T,T,T,T,T,T,T,T,T,T,T,T,F,F,F,F,F,F,F,F,F,F,F,F,F,F,F,F,F,F,F,F,F,F,F,F,F,F,F,F,F,F,F,F,F,F,F,F] rfl rfl (any_of HT_.out (by kernel_rfl)) (fun _ _ _ h => h) (Or.inl ⟨by rfl, ?_⟩) ?_ ?_
                      rotate_left
                      ·intro w'
                       go_simp
                       with_reducible rfl
                      rotate_left
                      ·simp only [Act.put, sA, sB, sC, i64_w, i32_w]
                       rfl
                      refine pure_ (i := 16) (N := some 112) (v := ?_) (a' := ?_) #[T,T,T,T,T,T,T,T,T,T,T,T,T,T,T,T,T,F,F,F,F,F,F,F,F,F,F,F,F,F,F,F,F,F,F,F,F,F,F,F,F,F,F,F,F,F,F,F,F,F,F,F] rfl rfl (any_of HT_.out (by kernel_rfl)) (fun _ _ _ h => h) (Or.inl ⟨by rfl, ?_⟩) ?_ ?_
                      rotate_left
                      ·intro w'
                       go_simp
                       with_reducible rfl
                      rotate_left
                      ·simp only [Act.put, sA, sB, sC, i64_w, i32_w]
                       rfl
                      refine pure_ (i := 17) (N := some 113) (v := ?_) (a' := ?_) #[T,T,T,T,T,T,T,T,T,T,T,T,T,T,T,T,T,T,F,F,F,F,F,F,F,F,F,F,F,F,F,F,F,F,F,F,F,F,F,F,F,F,F,F,F,F,F,F,F,F,F,F] rfl rfl (any_of HT_.out (by kernel_rfl)) (fun _ _ _ h => h) (Or.inl ⟨by rfl, ?_⟩) ?_ ?_
                      rotate_left
                      ·intro w'
                       go_simp
                       with_reducible rfl
                      rotate_left
                      ·simp only [Act.put, sA, sB, sC, i64_w, i32_w]
                       rfl
                      refine pure_ (i := 18) (N := some 114) (v := ?_) (a' := ?_) #[T,T,T,T,T,T,T,T,T,T,T,T,T,T,T,T,T,T,T,F,F,F,F,F,F,F,F,F,F,F,F,F,F,F,F,F,F,F,F,F,F,F,F,F,F,F,F,F,F,F,F,F] rfl rfl (any_of HT_.out (by kernel_rfl)) (fun _ _ _ h => h) (Or.inl ⟨by rfl, ?_⟩) ?_ ?_
                      rotate_left
                      ·intro w'
                       go_simp
                       with_reducible rfl
                      rotate_left
                      ·simp only [Act.put, sA, sB, sC, i64_w, i32_w]
                       rfl
                      refine pure_ (i := 19) (N := some 115) (v := ?_) (a' := ?_) #[T,T,T,T,T,T,T,T,T,T,T,T,T,T,T,T,T,T,T,T,F,F,F,F,F,F,F,F,F,F,F,F,F,F,F,F,F,F,F,F,F,F,F,F,F,F,F,F,F,F,F,F] rfl rfl (any_of HT_.out (by kernel_rfl)) (fun _ _ _ h => h) (Or.inl ⟨by rfl, ?_⟩) ?_ ?_
                      rotate_left
                      ·intro w'
                       go_simp
                       with_reducible rfl
                      rotate_left
                      ·simp only [Act.put, sA, sB, sC, i64_w, i32_w]
                       rfl
                      refine pure_ (i := 20) (N := some 116) (v := ?_) (a' := ?_) #[T,T,T,T,T,T,T,T,T,T,T,T,T,T,T,T,T,T,T,T,T,F,F,F,F,F,F,F,F,F,F,F,F,F,F,F,F,F,F,F,F,F,F,F,F,F,F,F,F,F,F,F] rfl rfl (any_of HT_.out (by kernel_rfl)) (fun _ _ _ h => h) (Or.inl ⟨by rfl, ?_⟩) ?_ ?_
                      rotate_left
                      ·intro w'
                       go_simp
                       with_reducible rfl
                      rotate_left
                      ·simp only [Act.put, sA, sB, sC, i64_w, i32_w]
                       rfl
                      refine pure_ (i := 21) (N := some 117) (v := ?_) (a' := ?_) #[T,T,T,T,T,T,T,T,T,T,T,T,T,T,T,T,T,T,T,T,T,T,F,F,F,F,F,F,F,F,F,F,F,F,F,F,F,F,F,F,F,F,F,F,F,F,F,F,F,F,F,F] rfl rfl (any_of HT_.out (by kernel_rfl)) (fun _ _ _ h => h) (Or.inl ⟨by rfl, ?_⟩) ?_ ?_
                      rotate_left
                      ·intro w'
                       go_simp
                       with_reducible rfl
                      rotate_left
                      ·simp only [Act.put, sA, sB, sC, i64_w, i32_w]
                       rfl
                      refine pure_ (i := 23) (N := some 119) (v := ?_) (a' := ?_) #[T,T,T,T,T,T,T,T,T,T,T,T,T,T,T,T,T,T,T,T,T,T,F,T,F,F,F,F,F,F,F,F,F,F,F,F,F,F,F,F,F,F,F,F,F,F,F,F,F,F,F,F] rfl rfl (any_of HT_.out (by kernel_rfl)) (fun _ _ _ h => h) (Or.inl ⟨by rfl, ?_⟩) ?_ ?_
                      rotate_left
                      ·intro w'
                       go_simp
                       with_reducible rfl
                      rotate_left
                      ·simp only [Act.put, sA, sB, sC, i64_w, i32_w]
                       rfl
                      refine pure_ (i := 24) (N := some 120) (v := ?_) (a' := ?_) #[T,T,T,T,T,T,T,T,T,T,T,T,T,T,T,T,T,T,T,T,T,T,F,T,T,F,F,F,F,F,F,F,F,F,F,F,F,F,F,F,F,F,F,F,F,F,F,F,F,F,F,F] rfl rfl (any_of HT_.out (by kernel_rfl)) (fun _ _ _ h => h) (Or.inl ⟨by rfl, ?_⟩) ?_ ?_
                      rotate_left
                      ·intro w'
                       go_simp
                       with_reducible rfl
                      rotate_left
                      ·simp only [Act.put, sA, sB, sC, i64_w, i32_w]
                       rfl
                      refine pure_ (i := 25) (N := some 121) (v := ?_) (a' := ?_) #[T,T,T,T,T,T,T,T,T,T,T,T,T,T,T,T,T,T,T,T,T,T,F,T,T,T,F,F,F,F,F,F,F,F,F,F,F,F,F,F,F,F,F,F,F,F,F,F,F,F,F,F] rfl rfl (any_of HT_.out (by kernel_rfl)) (fun _ _ _ h => h) (Or.inl ⟨by rfl, ?_⟩) ?_ ?_
                      rotate_left
                      ·intro w'
                       go_simp
                       with_reducible rfl
                      rotate_left
                      ·simp only [Act.put, sA, sB, sC, i64_w, i32_w]
                       rfl
                      refine pure_ (i := 26) (N := some 122) (v := ?_) (a' := ?_) #[T,T,T,T,T,T,T,T,T,T,T,T,T,T,T,T,T,T,T,T,T,T,F,T,T,T,T,F,F,F,F,F,F,F,F,F,F,F,F,F,F,F,F,F,F,F,F,F,F,F,F,F] rfl rfl (any_of HT_.out (by kernel_rfl)) (fun _ _ _ h => h) (Or.inl ⟨by rfl, ?_⟩) ?_ ?_
                      rotate_left
                      ·intro w'
                       go_simp
                       with_reducible rfl
                      rotate_left
                      ·simp only [Act.put, sA, sB, sC, i64_w, i32_w]
                       rfl
                      refine pure_ (i := 28) (N := some 124) (v := ?_) (a' := ?_) #[T,T,T,T,T,T,T,T,T,T,T,T,T,T,T,T,T,T,T,T,T,T,F,T,T,T,T,F,T,F,F,F,F,F,F,F,F,F,F,F,F,F,F,F,F,F,F,F,F,F,F,F] rfl rfl (any_of HT_.out (by kernel_rfl)) (fun _ _ _ h => h) (Or.inl ⟨by rfl, ?_⟩) ?_ ?_
                      rotate_left
                      ·intro w'
                       go_simp
                       with_reducible rfl
                      rotate_left
                      ·simp only [Act.put, sA, sB, sC, i64_w, i32_w]
                       rfl
                      refine pure_ (i := 29) (N := some 125) (v := ?_) (a' := ?_) #[T,T,T,T,T,T,T,T,T,T,T,T,T,T,T,T,T,T,T,T,T,T,F,T,T,T,T,F,T,T,F,F,F,F,F,F,F,F,F,F,F,F,F,F,F,F,F,F,F,F,F,F] rfl rfl (any_of HT_.out (by kernel_rfl)) (fun _ _ _ h => h) (Or.inl ⟨by rfl, ?_⟩) ?_ ?_
                      rotate_left
                      ·intro w'
                       go_simp
                       with_reducible rfl
                      rotate_left
                      ·simp only [Act.put, sA, sB, sC, i64_w, i32_w]
                       rfl
                      refine pure_ (i := 30) (N := some 126) (v := ?_) (a' := ?_) #[T,T,T,T,T,T,T,T,T,T,T,T,T,T,T,T,T,T,T,T,T,T,F,T,T,T,T,F,T,T,T,F,F,F,F,F,F,F,F,F,F,F,F,F,F,F,F,F,F,F,F,F] rfl rfl (any_of HT_.out (by kernel_rfl)) (fun _ _ _ h => h) (Or.inl ⟨by rfl, ?_⟩) ?_ ?_
                      rotate_left
                      ·intro w'
                       go_simp
                       with_reducible rfl
                      rotate_left
                      ·simp only [Act.put, sA, sB, sC, i64_w, i32_w]
                       rfl
                      refine pure_ (i := 31) (N := some 127) (v := ?_) (a' := ?_) #[T,T,T,T,T,T,T,T,T,T,T,T,T,T,T,T,T,T,T,T,T,T,F,T,T,T,T,F,T,T,T,T,F,F,F,F,F,F,F,F,F,F,F,F,F,F,F,F,F,F,F,F] rfl rfl (any_of HT_.out (by kernel_rfl)) (fun _ _ _ h => h) (Or.inl ⟨by rfl, ?_⟩) ?_ ?_
                      rotate_left
                      ·intro w'
                       go_simp
                       with_reducible rfl
                      rotate_left
                      ·simp only [Act.put, sA, sB, sC, i64_w, i32_w]
                       rfl
                      refine take_ (i := 22) (N := some 118) (v := ?_) (a' := ?_) #[T,T,T,T,T,T,T,T,T,T,T,T,T,T,T,T,T,T,T,T,T,T,T,T,T,T,T,F,T,T,T,T,F,F,F,F,F,F,F,F,F,F,F,F,F,F,F,F,F,F,F,F] rfl rfl (take_ofW HT_.out HW_.out (by kernel_rfl)) (fun _ _ _ h => h) (Or.inl ⟨by rfl, ?_⟩) hHeld ?_ ?_
                      rotate_left
                      ·rintro w' ⟨s0, s1, s2, s3, s4, s5, s6, s7, s8, s9, s10, s11, s12, s13, s14, s15, s16, s17, s18, s19, s20, s21⟩
                       go_simp
                       with_reducible rfl
                      rotate_left
                      ·simp only [Act.put, sA, sB, sC, i64_w, i32_w]
                       rfl
                      refine take_ (i := 27) (N := some 123) (v := ?_) (a' := ?_) #[T,T,T,T,T,T,T,T,T,T,T,T,T,T,T,T,T,T,T,T,T,T,T,T,T,T,T,T,T,T,T,T,F,F,F,F,F,F,F,F,F,F,F,F,F,F,F,F,F,F,F,F] rfl rfl (take_ofW HT_.out HW_.out (by kernel_rfl)) (fun _ _ _ h => h) (Or.inl ⟨by rfl, ?_⟩) hHeld ?_ ?_
                      rotate_left
                      ·rintro w' ⟨s0, s1, s2, s3, s4, s5, s6, s7, s8, s9, s10, s11, s12, s13, s14, s15, s16, s17, s18, s19, s20, s21⟩
                       go_simp
                       with_reducible rfl
                      rotate_left
                      ·simp only [Act.put, sA, sB, sC, i64_w, i32_w]
                       rfl
                      refine take_ (i := 32) (N := some 128) (v := ?_) (a' := ?_) #[T,T,T,T,T,T,T,T,T,T,T,T,T,T,T,T,T,T,T,T,T,T,T,T,T,T,T,T,T,T,T,T,T,F,F,F,F,F,F,F,F,F,F,F,F,F,F,F,F,F,F,F] rfl rfl (take_ofW HT_.out HW_.out (by kernel_rfl)) (fun _ _ _ h => h) (Or.inl ⟨by rfl, ?_⟩) hHeld ?_ ?_
                      rotate_left
                      ·rintro w' ⟨s0, s1, s2, s3, s4, s5, s6, s7, s8, s9, s10, s11, s12, s13, s14, s15, s16, s17, s18, s19, s20, s21⟩
                       go_simp
                       with_reducible rfl
                      rotate_left
                      ·simp only [Act.put, sA, sB, sC, i64_w, i32_w]
                       rfl
                      refine pure_ (i := 33) (N := some 129) (v := ?_) (a' := ?_) #[T,T,T,T,T,T,T,T,T,T,T,T,T,T,T,T,T,T,T,T,T,T,T,T,T,T,T,T,T,T,T,T,T,T,F,F,F,F,F,F,F,F,F,F,F,F,F,F,F,F,F,F] rfl rfl (any_of HT_.out (by kernel_rfl)) (fun _ _ _ h => h) (Or.inl ⟨by rfl, ?_⟩) ?_ ?_
                      rotate_left
                      ·intro w'
                       go_simp
                       with_reducible rfl
                      rotate_left
                      ·simp only [Act.put, sA, sB, sC, i64_w, i32_w]
                       rfl
                      refine pure_ (i := 34) (N := some 130) (v := ?_) (a' := ?_) #[T,T,T,T,T,T,T,T,T,T,T,T,T,T,T,T,T,T,T,T,T,T,T,T,T,T,T,T,T,T,T,T,T,T,T,F,F,F,F,F,F,F,F,F,F,F,F,F,F,F,F,F] rfl rfl (any_of HT_.out (by kernel_rfl)) (fun _ _ _ h => h) (Or.inl ⟨by rfl, ?_⟩) ?_ ?_
                      rotate_left
                      ·intro w'
                       go_simp
                       with_reducible rfl
                      rotate_left
                      ·simp only [Act.put, sA, sB, sC, i64_w, i32_w]
                       rfl
                      refine pure_ (i := 35) (N := some 131) (v := ?_) (a' := ?_) #[T,T,T,T,T,T,T,T,T,T,T,T,T,T,T,T,T,T,T,T,T,T,T,T,T,T,T,T,T,T,T,T,T,T,T,T,F,F,F,F,F,F,F,F,F,F,F,F,F,F,F,F] rfl rfl (any_of HT_.out (by kernel_rfl)) (fun _ _ _ h => h) (Or.inl ⟨by rfl, ?_⟩) ?_ ?_
                      rotate_left
                      ·intro w'
                       go_simp
                       with_reducible rfl
                      rotate_left
                      ·simp only [Act.put, sA, sB, sC, i64_w, i32_w]
                       rfl
                      refine pure_ (i := 36) (N := some 132) (v := ?_) (a' := ?_) #[T,T,T,T,T,T,T,T,T,T,T,T,T,T,T,T,T,T,T,T,T,T,T,T,T,T,T,T,T,T,T,T,T,T,T,T,T,F,F,F,F,F,F,F,F,F,F,F,F,F,F,F] rfl rfl (any_of HT_.out (by kernel_rfl)) (fun _ _ _ h => h) (Or.inl ⟨by rfl, ?_⟩) ?_ ?_
                      rotate_left
                      ·intro w'
                       go_simp
                       with_reducible rfl
                      rotate_left
                      ·simp only [Act.put, sA, sB, sC, i64_w, i32_w]
                       rfl
                      refine pure_ (i := 37) (N := some 133) (v := ?_) (a' := ?_) #[T,T,T,T,T,T,T,T,T,T,T,T,T,T,T,T,T,T,T,T,T,T,T,T,T,T,T,T,T,T,T,T,T,T,T,T,T,T,F,F,F,F,F,F,F,F,F,F,F,F,F,F] rfl rfl (any_of HT_.out (by kernel_rfl)) (fun _ _ _ h => h) (Or.inl ⟨by rfl, ?_⟩) ?_ ?_
                      rotate_left
                      ·intro w'
                       go_simp
                       with_reducible rfl
                      rotate_left
                      ·simp only [Act.put, sA, sB, sC, i64_w, i32_w]
                       rfl
                      refine pure_ (i := 38) (N := some 134) (v := ?_) (a' := ?_) #[T,T,T,T,T,T,T,T,T,T,T,T,T,T,T,T,T,T,T,T,T,T,T,T,T,T,T,T,T,T,T,T,T,T,T,T,T,T,T,F,F,F,F,F,F,F,F,F,F,F,F,F] rfl rfl (any_of HT_.out (by kernel_rfl)) (fun _ _ _ h => h) (Or.inl ⟨by rfl, ?_⟩) ?_ ?_
                      rotate_left
                      ·intro w'
                       go_simp
                       with_reducible rfl
                      rotate_left
                      ·simp only [Act.put, sA, sB, sC, i64_w, i32_w]
                       rfl
                      refine pure_ (i := 39) (N := some 135) (v := ?_) (a' := ?_) #[T,T,T,T,T,T,T,T,T,T,T,T,T,T,T,T,T,T,T,T,T,T,T,T,T,T,T,T,T,T,T,T,T,T,T,T,T,T,T,T,F,F,F,F,F,F,F,F,F,F,F,F] rfl rfl (any_of HT_.out (by kernel_rfl)) (fun _ _ _ h => h) (Or.inl ⟨by rfl, ?_⟩) ?_ ?_
                      rotate_left
                      ·intro w'
                       go_simp
                       with_reducible rfl
                      rotate_left
                      ·simp only [Act.put, sA, sB, sC, i64_w, i32_w]
                       rfl
                      refine pure_ (i := 40) (N := some 136) (v := ?_) (a' := ?_) #[T,T,T,T,T,T,T,T,T,T,T,T,T,T,T,T,T,T,T,T,T,T,T,T,T,T,T,T,T,T,T,T,T,T,T,T,T,T,T,T,T,F,F,F,F,F,F,F,F,F,F,F] rfl rfl (any_of HT_.out (by kernel_rfl)) (fun _ _ _ h => h) (Or.inl ⟨by rfl, ?_⟩) ?_ ?_
                      rotate_left
                      ·intro w'
                       go_simp
                       with_reducible rfl
                      rotate_left
                      ·simp only [Act.put, sA, sB, sC, i64_w, i32_w]
                       rfl
                      refine take_ (i := 41) (N := some 137) (v := ?_) (a' := ?_) #[T,T,T,T,T,T,T,T,T,T,T,T,T,T,T,T,T,T,T,T,T,T,T,T,T,T,T,T,T,T,T,T,T,T,T,T,T,T,T,T,T,T,F,F,F,F,F,F,F,F,F,F] rfl rfl (take_ofW HT_.out HW_.out (by kernel_rfl)) (fun _ _ _ h => h) (Or.inl ⟨by rfl, ?_⟩) hHeld ?_ ?_
                      rotate_left
                      ·rintro w' ⟨s0, s1, s2, s3, s4, s5, s6, s7, s8, s9, s10, s11, s12, s13, s14, s15, s16, s17, s18, s19, s20, s21⟩
                       go_simp
                       with_reducible rfl
                      rotate_left
                      ·simp only [Act.put, sA, sB, sC, i64_w, i32_w]
                       rfl
                      refine pure_ (i := 42) (N := some 138) (v := ?_) (a' := ?_) #[T,T,T,T,T,T,T,T,T,T,T,T,T,T,T,T,T,T,T,T,T,T,T,T,T,T,T,T,T,T,T,T,T,T,T,T,T,T,T,T,T,T,T,F,F,F,F,F,F,F,F,F] rfl rfl (any_of HT_.out (by kernel_rfl)) (fun _ _ _ h => h) (Or.inl ⟨by rfl, ?_⟩) ?_ ?_
                      rotate_left
                      ·intro w'
                       go_simp
                       with_reducible rfl
                      rotate_left
                      ·simp only [Act.put, sA, sB, sC, i64_w, i32_w]
                       rfl
                      refine pure_ (i := 43) (N := some 139) (v := ?_) (a' := ?_) #[T,T,T,T,T,T,T,T,T,T,T,T,T,T,T,T,T,T,T,T,T,T,T,T,T,T,T,T,T,T,T,T,T,T,T,T,T,T,T,T,T,T,T,T,F,F,F,F,F,F,F,F] rfl rfl (any_of HT_.out (by kernel_rfl)) (fun _ _ _ h => h) (Or.inl ⟨by rfl, ?_⟩) ?_ ?_
                      rotate_left
                      ·intro w'
                       go_simp
                       with_reducible rfl
                      rotate_left
                      ·simp only [Act.put, sA, sB, sC, i64_w, i32_w]
                       rfl
                      refine pure_ (i := 44) (N := some 140) (v := undef) (a' := ?_) #[T,T,T,T,T,T,T,T,T,T,T,T,T,T,T,T,T,T,T,T,T,T,T,T,T,T,T,T,T,T,T,T,T,T,T,T,T,T,T,T,T,T,T,T,T,F,F,F,F,F,F,F] rfl rfl (any_of HT_.out (by kernel_rfl)) (fun _ _ _ h => h) (Or.inr ⟨by rfl, rfl⟩) ?_ ?_
                      rotate_left
                      ·simp only [Act.put, sA, sB, sC, i64_w, i32_w]
                       rfl
                      refine pure_ (i := 45) (N := some 141) (v := undef) (a' := ?_) #[T,T,T,T,T,T,T,T,T,T,T,T,T,T,T,T,T,T,T,T,T,T,T,T,T,T,T,T,T,T,T,T,T,T,T,T,T,T,T,T,T,T,T,T,T,T,F,F,F,F,F,F] rfl rfl (any_of HT_.out (by kernel_rfl)) (fun _ _ _ h => h) (Or.inr ⟨by rfl, rfl⟩) ?_ ?_
                      rotate_left
                      ·simp only [Act.put, sA, sB, sC, i64_w, i32_w]
                       rfl
                      refine pure_ (i := 46) (N := some 142) (v := undef) (a' := ?_) #[T,T,T,T,T,T,T,T,T,T,T,T,T,T,T,T,T,T,T,T,T,T,T,T,T,T,T,T,T,T,T,T,T,T,T,T,T,T,T,T,T,T,T,T,T,T,T,F,F,F,F,F] rfl rfl (any_of HT_.out (by kernel_rfl)) (fun _ _ _ h => h) (Or.inr ⟨by rfl, rfl⟩) ?_ ?_
                      rotate_left
                      ·simp only [Act.put, sA, sB, sC, i64_w, i32_w]
                       rfl
                      refine pure_ (i := 47) (N := some 143) (v := undef) (a' := ?_) #[T,T,T,T,T,T,T,T,T,T,T,T,T,T,T,T,T,T,T,T,T,T,T,T,T,T,T,T,T,T,T,T,T,T,T,T,T,T,T,T,T,T,T,T,T,T,T,T,F,F,F,F] rfl rfl (any_of HT_.out (by kernel_rfl)) (fun _ _ _ h => h) (Or.inr ⟨by rfl, rfl⟩) ?_ ?_
                      rotate_left
                      ·simp only [Act.put, sA, sB, sC, i64_w, i32_w]
                       rfl
                      refine pure_ (i := 48) (N := some 144) (v := undef) (a' := ?_) #[T,T,T,T,T,T,T,T,T,T,T,T,T,T,T,T,T,T,T,T,T,T,T,T,T,T,T,T,T,T,T,T,T,T,T,T,T,T,T,T,T,T,T,T,T,T,T,T,T,F,F,F] rfl rfl (any_of HT_.out (by kernel_rfl)) (fun _ _ _ h => h) (Or.inr ⟨by rfl, rfl⟩) ?_ ?_
                      rotate_left
                      ·simp only [Act.put, sA, sB, sC, i64_w, i32_w]
                       rfl
                      refine pure_ (i := 49) (N := some 145) (v := undef) (a' := ?_) #[T,T,T,T,T,T,T,T,T,T,T,T,T,T,T,T,T,T,T,T,T,T,T,T,T,T,T,T,T,T,T,T,T,T,T,T,T,T,T,T,T,T,T,T,T,T,T,T,T,T,F,F] rfl rfl (any_of HT_.out (by kernel_rfl)) (fun _ _ _ h => h) (Or.inr ⟨by rfl, rfl⟩) ?_ ?_
                      rotate_left
                      ·simp only [Act.put, sA, sB, sC, i64_w, i32_w]
                       rfl
                      refine pure_ (i := 50) (N := some 146) (v := ?_) (a' := ?_) #[T,T,T,T,T,T,T,T,T,T,T,T,T,T,T,T,T,T,T,T,T,T,T,T,T,T,T,T,T,T,T,T,T,T,T,T,T,T,T,T,T,T,T,T,T,T,T,T,T,T,T,F] rfl rfl (any_of HT_.out (by kernel_rfl)) (fun _ _ _ h => h) (Or.inl ⟨by rfl, ?_⟩) ?_ ?_
                      rotate_left
                      ·intro w'
                       go_simp
                       with_reducible rfl
                      rotate_left
                      ·simp only [Act.put, sA, sB, sC, i64_w, i32_w]
                       rfl
                      refine pure_ (i := 51) (N := some 147) (v := ?_) (a' := ?_) #[T,T,T,T,T,T,T,T,T,T,T,T,T,T,T,T,T,T,T,T,T,T,T,T,T,T,T,T,T,T,T,T,T,T,T,T,T,T,T,T,T,T,T,T,T,T,T,T,T,T,T,T] rfl rfl (any_of HT_.out (by kernel_rfl)) (fun _ _ _ h => h) (Or.inl ⟨by rfl, ?_⟩) ?_ ?_
                      rotate_left
                      ·intro w'
                       go_simp
                       with_reducible rfl
                      rotate_left
                      ·simp only [Act.put, sA, sB, sC, i64_w, i32_w]
                       rfl
                      refine done_ (done_of HT_.out (by kernel_rfl)) ?_
                      try go_wp2
                      go_roundg k3
                      case measure => have := HJ4.out; have := HJ33.out; have := HK3.out; omega
                      case rel => exact ⟨(wrap64 (x14_3 + 1)), (by first | rfl | (simp; done) | (simp [*]; done)), H', ⟨by have := HJ4.out; have := HJ33.out; have := HK3.out; omega⟩, ⟨by (with_reducible repeat (first | apply Kd.R_alloc | apply Kd.R_drewN | apply Kd.R_drew)); exact HO_7.out⟩, ⟨by (with_reducible repeat (first | apply Kd.R_alloc | apply Kd.R_drewN | apply Kd.R_drew)); exact HO_10.out⟩, ⟨by (with_reducible repeat (first | apply Kd.R_alloc | apply Kd.R_drewN | apply Kd.R_drew)); exact HO_12.out⟩, ⟨by (with_reducible repeat (first | apply Kd.R_alloc | apply Kd.R_drewN | apply Kd.R_drew)); exact HO_13.out⟩, ⟨by repeat (first | (with_reducible first | exact HB.out | apply lA | apply lN | apply lD) | exact HB.out)⟩⟩
                    ·rw [if_neg c77] at H
                     have c77b0 : (((rd_T48 t273 x14_3).f1) == (wrap64 (((rd_T48 t300 x14_3).f1) + ((rd_T48 t307 x14_3).f1)))) = false := beq_eq_false_iff_ne.mpr c77
                     have c77b1 : (((rd_T48 t273 x14_3).f1) != (wrap64 (((rd_T48 t300 x14_3).f1) + ((rd_T48 t307 x14_3).f1)))) = true := bne_iff_ne.mpr c77
                     exact absurd ((Option.some.inj H).trans HR.out) (by decide)
                   ·rw [if_neg c76] at H
                    have c76b0 : (((rd_T48 t273 x14_3).f0) == (wrap64 (((rd_T48 t300 x14_3).f0) + ((rd_T48 t307 x14_3).f0)))) = false := beq_eq_false_iff_ne.mpr c76
                    have c76b1 : (((rd_T48 t273 x14_3).f0) != (wrap64 (((rd_T48 t300 x14_3).f0) + ((rd_T48 t307 x14_3).f0)))) = true := bne_iff_ne.mpr c76
                    exact absurd ((Option.some.inj H).trans HR.out) (by decide)
                  ·rw [if_neg c75] at H
                   exact absurd H (by simp)
                 ·rw [if_neg c74] at H
                  exact absurd H (by simp)
                ·rw [if_neg c73] at H
                 exact absurd H (by simp)
               ·rw [if_neg c72] at H
                exact absurd H (by simp)
              ·rw [if_neg c71] at H
               have c71b0 : decide (x14_3 < (t266.length : Int)) = false := decide_eq_false c71
               clear c71
               obtain rfl := Option.some.inj H
               go_wp2
               go_ret
               exact ⟨by first | rfl | (simp [errW_none, errW_some] <;> rfl) | (simp only [← hji20]; first | rfl | (simp [errW_none, errW_some] <;> rfl)) | (simp [*, errW_none, errW_some] <;> rfl), by repeat (first | (with_reducible first | exact HB.out | apply lA | apply lN | apply lD) | exact HB.out)⟩
        ·rw [if_neg c26] at H
         exact absurd H (by simp)
       ·rw [if_neg c23] at H
        exact absurd H (by simp)
      ·rw [if_neg c22] at H
       exact absurd H (by simp)
     ·rw [if_neg c21] at H
      exact absurd H (by simp)

/-- THE ONE PURE STATEMENT of billiardlaw18_CorrectOrderFree: yours. -/
def billiardlaw18_CorrectOrderFree.Pure : Prop := ∀ (l0 : List (S32)) (l1 : List (S37)) (a2 : Int), (∀ x ∈ l0, Flat.WFB x) → (∀ x ∈ l1, Flat.WFC x) → (Lit.int .u8 a2).wf = true → ∃ k, billiardlaw18_CorrectOrderFree.f k l0 l1 a2 = some true
theorem billiardlaw18_CorrectOrderFree.walk (P : billiardlaw18_CorrectOrderFree.Pure) (a0 : Option Addr) (cap0 : Nat) (l0 : List (S32)) (a1 : Option Addr) (cap1 : Nat) (l1 : List (S37)) (a2 : Int) (w : World) (w0 : Kd.C k32 w a0 l0.length l0) (c0 : l0.length ≤ cap0) (m0 : ∀ x ∈ l0, Flat.WFB x) (w1 : Kd.C k37 w a1 l1.length l1) (c1 : l1.length ≤ cap1) (m1 : ∀ x ∈ l1, Flat.WFC x) (w2 : (Lit.int .u8 a2).wf = true) :
  Calls Try.prog 4 #[.slice a0 l0.length cap0, .slice a1 l1.length cap1, .int .u8 a2] w fun e w' => e = .returned (.bool true) ∧ Below w.heap.size w w' := by
 obtain ⟨k, h⟩ := P l0 l1 a2 m0 m1 w2
 refine (billiardlaw18_CorrectOrderFree.calls k _ _ l0 _ _ l1 a2 true w w0 c0 w1 c1 h rfl).mono ?_
 rintro e w' ⟨rfl, hd⟩
 exact ⟨rfl, hd⟩

end Go.Proofs.Ytplmeknmeobanaa.Q
