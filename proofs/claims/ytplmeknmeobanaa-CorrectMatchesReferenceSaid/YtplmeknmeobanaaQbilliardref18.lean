-- PRINTED by print.py (a twelfth state) out of the translation. Not trusted: Lean checks it.
import Derived.Test.YtplmeknmeobanaaQ0
import Derived.Test.YtplmeknmeobanaaMkeep
import Derived.Test.YtplmeknmeobanaaQE3
import Derived.Test.YtplmeknmeobanaaQbilliardref01
import Derived.Test.YtplmeknmeobanaaQbilliardref17
namespace Go.Proofs.Ytplmeknmeobanaa.Q
open Go.RowKit.Below renaming refl → lR
open Go.RowKit Go.Proofs.YtplmeknmeobanaaW.PrintWords Go.Proofs.YtplmeknmeobanaaW.PrintLast Go.Proofs.YtplmeknmeobanaaW.PrintMore
open Go.Proofs.YtplmeknmeobanaaW.PrintWords renaming blk_drewN → bN, blk_drew → bD, blk_alloc → bA, blk_below → bB, blk_cell → bC, blk_frozen → bF, blk_lt → bL, below_alloc → lA, pw_below_drewN → lN, below_drew1 → lD, below_set → lS, below_step → lT, below_size → lZ, Aside0.mk → aM
open Bool renaming true → T, false → F
attribute [local go_sem] max2_int min2_int max_two min_two max_three min_three max_four min_four   -- for this text's walks alone
set_option linter.unusedVariables false
set_option linter.unusedSimpArgs false

attribute [local go_sem high] eqA53
/-! ### billiardref18_Same: function 14 -/
def billiardref18_Same.l0 : Nat → List (S53) → List (S53) → Int → Option (Bool)
 | 0, _, _, _ => none
 | k + 1, x0, x1, x5 => if x5 < (x0.length : Int) then (if 0 ≤ x5 then (if x5 < (x1.length : Int) then (if (!(((rd_T53 x0 x5).f0) == ((rd_T53 x1 x5).f0)) || (!(((rd_T53 x0 x5).f1) == ((rd_T53 x1 x5).f1)))) = true then (some false) else (billiardref18_Same.l0 k x0 x1 (wrap64 (x5 + 1)))) else (none)) else (none)) else (some true)
def billiardref18_Same.f (k : Nat) (l0 : List (S53)) (l1 : List (S53)) : Option (Bool) := if (l0.length : Int) = (l1.length : Int) then (billiardref18_Same.l0 k l0 l1 0) else (some false)
theorem billiardref18_Same.mono_l : ∀ k, (∀ y0 y1 y2, LeO (billiardref18_Same.l0 k y0 y1 y2) (billiardref18_Same.l0 (k + 1) y0 y1 y2))
 | 0 => fun _ _ _ r h => by simp [billiardref18_Same.l0] at h
 | k + 1 => by
  have ih0 := billiardref18_Same.mono_l k
  ·intro y0 y1 y2
   unfold billiardref18_Same.l0
   repeat' first
   | (with_reducible exact ih0 _ _ _)
   | (with_reducible exact LeO.refl _)
   | (with_reducible exact LeO.none _)
   | (with_reducible refine LeO.ite ?_ ?_)
   | (with_reducible refine LeO.bind ?_ (fun _ => ?_))
   | exact ih0 _ _ _
   | exact LeO.none _
   | refine LeO.ite ?_ ?_
   | refine LeO.bind ?_ (fun _ => ?_)
theorem billiardref18_Same.mono : ∀ a0 a1 k, LeO (billiardref18_Same.f k a0 a1) (billiardref18_Same.f (k + 1) a0 a1) := by
 intro a0 a1 k
 have ih0 := billiardref18_Same.mono_l k
 unfold billiardref18_Same.f
 repeat' first
   | (with_reducible exact ih0 _ _ _)
   | (with_reducible exact LeO.refl _)
   | (with_reducible exact LeO.none _)
   | (with_reducible refine LeO.ite ?_ ?_)
   | (with_reducible refine LeO.bind ?_ (fun _ => ?_))
   | exact ih0 _ _ _
   | exact LeO.none _
   | refine LeO.ite ?_ ?_
   | refine LeO.bind ?_ (fun _ => ?_)
set_option maxHeartbeats 8000000 in
set_option maxRecDepth 100000 in
theorem billiardref18_Same.calls (k : Nat) (A0 : Option Addr) (c0 : Nat) (l0 : List (S53)) (A1 : Option Addr) (c1 : Nat) (l1 : List (S53)) (r : Bool) (w : World) (hr0 : Kd.C k53 w A0 l0.length l0) (hc0 : l0.length ≤ c0) (hr1 : Kd.C k53 w A1 l1.length l1) (hc1 : l1.length ≤ c1) (h : billiardref18_Same.f k l0 l1 = some r) :
  Calls Try.prog 14 #[.slice A0 l0.length c0, .slice A1 l1.length c1] w fun e w' => e = .returned (.bool r) ∧ Drawn0 w w' := by
 have hu53 := Try.underlying53
 have HR0 := aM hr0
 have HC0 := aM hc0
 clear hr0 hc0
 have HR1 := aM hr1
 have HC1 := aM hc1
 clear hr1 hc1
 have H : (if (l0.length : Int) = (l1.length : Int) then (billiardref18_Same.l0 k l0 l1 0) else (some false)) = some r := h
 clear h
 by_cases c3 : (l0.length : Int) = (l1.length : Int)
 ·rw [if_pos c3] at H
  have c3b0 : ((l0.length : Int) == (l1.length : Int)) = true := beq_iff_eq.mpr c3
  have c3b1 : ((l0.length : Int) != (l1.length : Int)) = false := bne_eq_false_iff_eq.mpr c3
  have c3b2 : (l0.length == l1.length) = true := by first | simpa using c3 | (simp at c3 ⊢; omega)
  clear c3
  have H' := aM H
  clear H
  go_enter Try.func14, Try.ntmps14
  go_wp2
  repeat (go_quiet (fail); try go_wp2)
  go_loopg [5] k (fun kq v5 w' => ∃ (x5_1 : Int), v5 = .int .i64 x5_1 ∧ Aside0 (billiardref18_Same.l0 kq l0 l1 x5_1 = some r) ∧ Aside0 (kq ≤ k) ∧ Drawn0 w w')
  case atStart => exact ⟨(0), (by first | rfl | (simp; done) | (simp [*]; done)), H', ⟨Nat.le_refl _⟩, by repeat (first | exact Drawn0.refl _ | apply Drawn0.step)⟩
  case round =>
   clear H'
   try clear c1
   try clear p2
   try clear c3
   try clear c3b0
   try clear c3b1
   try clear c3b2
   obtain ⟨x5_1, rfl, HA, HK1, ⟨m1, rfl⟩⟩ := hrel
   cases gk with
   | zero => exact absurd HA.out (by simp [billiardref18_Same.l0])
   | succ k1 =>
    have H := HA.out
    clear HA
    simp only [billiardref18_Same.l0] at H
    by_cases c4 : x5_1 < (l0.length : Int)
    ·rw [if_pos c4] at H
     have c4b0 : decide (x5_1 < (l0.length : Int)) = true := decide_eq_true c4
     clear c4
     by_cases c5 : 0 ≤ x5_1
     ·rw [if_pos c5] at H
      have c5b0 : decide (0 ≤ x5_1) = true := decide_eq_true c5
      clear c5
      by_cases c6 : x5_1 < (l1.length : Int)
      ·rw [if_pos c6] at H
       have c6b0 : decide (x5_1 < (l1.length : Int)) = true := decide_eq_true c6
       clear c6
       by_cases c7 : (!(((rd_T53 l0 x5_1).f0) == ((rd_T53 l1 x5_1).f0)) || (!(((rd_T53 l0 x5_1).f1) == ((rd_T53 l1 x5_1).f1)))) = true
       ·rw [if_pos c7] at H
        have c7b0 : (!(((rd_T53 l0 x5_1).f0) == ((rd_T53 l1 x5_1).f0)) || (!(((rd_T53 l0 x5_1).f1) == ((rd_T53 l1 x5_1).f1)))) = true := c7
        clear c7
        obtain rfl := Option.some.inj H
        have p162 : 0 ≤ (x5_1 : Int) := of_decide_eq_true (by first | (with_reducible assumption) | assumption)
        have q162 : x5_1 < (l0.length : Int) := of_decide_eq_true (by first | (with_reducible assumption) | assumption)
        obtain ⟨ad162, e162, hx162_0, hx162_1⟩ := at_T53 HR0.out x5_1 p162 q162
        cases e162
        replace p162 := eq_true p162
        replace q162 := eq_true q162
        have p163 : 0 ≤ (x5_1 : Int) := of_decide_eq_true (by first | (with_reducible assumption) | assumption)
        have q163 : x5_1 < (l1.length : Int) := of_decide_eq_true (by first | (with_reducible assumption) | assumption)
        obtain ⟨ad163, e163, hx163_0, hx163_1⟩ := at_T53 HR1.out x5_1 p163 q163
        cases e163
        replace p163 := eq_true p163
        replace q163 := eq_true q163
        go_wp2
        repeat (go_quiet (fail); try go_wp2)
        go_ret
        exact ⟨by first | rfl | (simp; done) | (simp [*]; done), by repeat (first | exact Drawn0.refl _ | apply Drawn0.step)⟩
       ·rw [if_neg c7] at H
        have c7b0 : (!(((rd_T53 l0 x5_1).f0) == ((rd_T53 l1 x5_1).f0)) || (!(((rd_T53 l0 x5_1).f1) == ((rd_T53 l1 x5_1).f1)))) = false := by simpa using c7
        clear c7
        have H' := aM H
        clear H
        have p162 : 0 ≤ (x5_1 : Int) := of_decide_eq_true (by first | (with_reducible assumption) | assumption)
        have q162 : x5_1 < (l0.length : Int) := of_decide_eq_true (by first | (with_reducible assumption) | assumption)
        obtain ⟨ad162, e162, hx162_0, hx162_1⟩ := at_T53 HR0.out x5_1 p162 q162
        cases e162
        replace p162 := eq_true p162
        replace q162 := eq_true q162
        have p163 : 0 ≤ (x5_1 : Int) := of_decide_eq_true (by first | (with_reducible assumption) | assumption)
        have q163 : x5_1 < (l1.length : Int) := of_decide_eq_true (by first | (with_reducible assumption) | assumption)
        obtain ⟨ad163, e163, hx163_0, hx163_1⟩ := at_T53 HR1.out x5_1 p163 q163
        cases e163
        replace p163 := eq_true p163
        replace q163 := eq_true q163
        go_wp2
        repeat (go_quiet (fail); try go_wp2)
        go_roundg k1
        case measure => have := HK1.out; omega
        case rel => exact ⟨(wrap64 (x5_1 + 1)), (by first | rfl | (simp; done) | (simp [*]; done)), H', ⟨by have := HK1.out; omega⟩, by repeat (first | exact Drawn0.refl _ | apply Drawn0.step)⟩
      ·rw [if_neg c6] at H
       exact absurd H (by simp)
     ·rw [if_neg c5] at H
      exact absurd H (by simp)
    ·rw [if_neg c4] at H
     have c4b0 : decide (x5_1 < (l0.length : Int)) = false := decide_eq_false c4
     clear c4
     obtain rfl := Option.some.inj H
     go_wp2
     repeat (go_quiet (fail); try go_wp2)
     go_ret
     exact ⟨by first | rfl | (simp; done) | (simp [*]; done), by repeat (first | exact Drawn0.refl _ | apply Drawn0.step)⟩
 ·rw [if_neg c3] at H
  have c3b0 : ((l0.length : Int) == (l1.length : Int)) = false := beq_eq_false_iff_ne.mpr c3
  have c3b1 : ((l0.length : Int) != (l1.length : Int)) = true := bne_iff_ne.mpr c3
  have c3b2 : (l0.length == l1.length) = false := by first | simpa using c3 | (simp at c3 ⊢; omega)
  obtain rfl := Option.some.inj H
  go_enter Try.func14, Try.ntmps14
  go_wp2
  repeat (go_quiet (fail); try go_wp2)
  go_ret
  exact ⟨by first | rfl | (simp; done) | (simp [*]; done), by repeat (first | exact Drawn0.refl _ | apply Drawn0.step)⟩

/-! ### billiardref18_Right: function 8 -/
def billiardref18_Right.l0 : Nat → List (S37) → Int → Option (Bool)
 | 0, _, _ => none
 | k + 1, x1, x5 => if x5 < (x1.length : Int) then (if 0 ≤ x5 then (if ((rd_T37 x1 x5).f2) < 1 then (some false) else (if ((rd_T37 x1 x5).f2) > 16777216 then (some false) else (billiardref18_Right.l0 k x1 (wrap64 (x5 + 1))))) else (none)) else (some true)
def billiardref18_Right.f (k : Nat) (l0 : List (S32)) (l1 : List (S37)) : Option (Bool) := (billiardref17_Right.f k l0 l1).bind fun t198 => (if t198 = true then (billiardref18_Right.l0 k l1 0) else (some false))
theorem billiardref18_Right.mono_l : ∀ k, (∀ y0 y1, LeO (billiardref18_Right.l0 k y0 y1) (billiardref18_Right.l0 (k + 1) y0 y1))
 | 0 => fun _ _ r h => by simp [billiardref18_Right.l0] at h
 | k + 1 => by
  have ih0 := billiardref18_Right.mono_l k
  ·intro y0 y1
   unfold billiardref18_Right.l0
   repeat' first
   | (with_reducible exact ih0 _ _)
   | (with_reducible exact billiardref17_Right.mono _ _ _)
   | (with_reducible exact LeO.refl _)
   | (with_reducible exact LeO.none _)
   | (with_reducible refine LeO.ite ?_ ?_)
   | (with_reducible refine LeO.bind ?_ (fun _ => ?_))
   | exact ih0 _ _
   | exact billiardref17_Right.mono _ _ _
   | exact LeO.none _
   | refine LeO.ite ?_ ?_
   | refine LeO.bind ?_ (fun _ => ?_)
theorem billiardref18_Right.mono : ∀ a0 a1 k, LeO (billiardref18_Right.f k a0 a1) (billiardref18_Right.f (k + 1) a0 a1) := by
 intro a0 a1 k
 have ih0 := billiardref18_Right.mono_l k
 unfold billiardref18_Right.f
 repeat' first
   | (with_reducible exact ih0 _ _)
   | (with_reducible exact billiardref17_Right.mono _ _ _)
   | (with_reducible exact LeO.refl _)
   | (with_reducible exact LeO.none _)
   | (with_reducible refine LeO.ite ?_ ?_)
   | (with_reducible refine LeO.bind ?_ (fun _ => ?_))
   | exact ih0 _ _
   | exact billiardref17_Right.mono _ _ _
   | exact LeO.none _
   | refine LeO.ite ?_ ?_
   | refine LeO.bind ?_ (fun _ => ?_)
set_option maxHeartbeats 8000000 in
set_option maxRecDepth 100000 in
theorem billiardref18_Right.calls (k : Nat) (A0 : Option Addr) (c0 : Nat) (l0 : List (S32)) (A1 : Option Addr) (c1 : Nat) (l1 : List (S37)) (r : Bool) (w : World) (hr0 : Kd.C k32 w A0 l0.length l0) (hc0 : l0.length ≤ c0) (hr1 : Kd.C k37 w A1 l1.length l1) (hc1 : l1.length ≤ c1) (h : billiardref18_Right.f k l0 l1 = some r) :
  Calls Try.prog 8 #[.slice A0 l0.length c0, .slice A1 l1.length c1] w fun e w' => e = .returned (.bool r) ∧ Below w.heap.size w w' := by
 have HR0 := aM hr0
 have HC0 := aM hc0
 clear hr0 hc0
 have HR1 := aM hr1
 have HC1 := aM hc1
 clear hr1 hc1
 have HB := aM (Below.refl w.heap.size w)
 have H : ((billiardref17_Right.f k l0 l1).bind fun t198 => (if t198 = true then (billiardref18_Right.l0 k l1 0) else (some false))) = some r := h
 clear h
 replace H := Option.bind_eq_some_iff.mp H
 obtain ⟨t198, A30, H⟩ := H
 try dsimp only at H
 have A3 := aM A30
 clear A30
 by_cases c4 : t198 = true
 ·subst c4
  rw [if_pos rfl] at H
  have H' := aM H
  clear H
  go_enter Try.func8, Try.ntmps8
  go_wp2_with (first | ((with_reducible refine gate_callee (f := 20) rfl ?_); refine goesL_ (some 8) rfl rfl Try.func20 (by kernel_rfl) rfl #[.slice A0 l0.length c0, .slice A1 l1.length c1] rfl (by (try simp only [List.map_toArray, List.map_cons, List.map_nil]); first | done | rfl | (simp only [List.length_drop, List.length_take]; rfl)) ?_; (with_reducible refine (billiardref17_Right.calls k _ _ l0 _ _ l1 true _ ?side1 ?side2 ?side3 ?side4 A3.out).mono ?_); (case side1 => repeat (first | exact HR0.out | (with_reducible refine Kd.C_alloc ?_ _) | (with_reducible refine Kd.C_drewN ?_ _) | (with_reducible refine Kd.C_drew ?_))); (case side2 => exact HC0.out); (case side3 => repeat (first | exact HR1.out | (with_reducible refine Kd.C_alloc ?_ _) | (with_reducible refine Kd.C_drewN ?_ _) | (with_reducible refine Kd.C_drew ?_))); (case side4 => exact HC1.out); rintro e w5 ⟨rfl, hb⟩; refine ⟨_, rfl, ?_⟩; have n0_ := aM (lT (by repeat (first | (with_reducible first | exact HB.out | apply lA | apply lN | apply lD) | exact HB.out)) hb); clear HB; have HB := n0_; clear n0_; (try clear hb); (try clear hb2); (try clear hk); (try clear hi)))
  go_loopg [5] k (fun kq v5 w' => ∃ (x5_1 : Int), v5 = .int .i64 x5_1 ∧ Aside0 (billiardref18_Right.l0 kq l1 x5_1 = some r) ∧ Aside0 (kq ≤ k) ∧ Aside0 (Below w.heap.size w w'))
  case atStart => exact ⟨(0), (by first | rfl | (simp; done) | (simp [*]; done)), H', ⟨Nat.le_refl _⟩, ⟨by repeat (first | (with_reducible first | exact HB.out | apply lA | apply lN | apply lD) | exact HB.out)⟩⟩
  case round =>
   clear H'
   try clear c1
   try clear c2
   try clear p2
   try clear c4
   obtain ⟨x5_1, rfl, HA, HK1, HB⟩ := hrel
   cases gk with
   | zero => exact absurd HA.out (by simp [billiardref18_Right.l0])
   | succ k1 =>
    have H := HA.out
    clear HA
    simp only [billiardref18_Right.l0] at H
    by_cases c6 : x5_1 < (l1.length : Int)
    ·rw [if_pos c6] at H
     have c6b0 : decide (x5_1 < (l1.length : Int)) = true := decide_eq_true c6
     clear c6
     by_cases c7 : 0 ≤ x5_1
     ·rw [if_pos c7] at H
      have c7b0 : decide (0 ≤ x5_1) = true := decide_eq_true c7
      clear c7
      by_cases c8 : ((rd_T37 l1 x5_1).f2) < 1
      ·rw [if_pos c8] at H
       have c8b0 : decide (((rd_T37 l1 x5_1).f2) < 1) = true := decide_eq_true c8
       clear c8
       obtain rfl := Option.some.inj H
       have p199 : 0 ≤ (x5_1 : Int) := of_decide_eq_true (by first | (with_reducible assumption) | assumption)
       have q199 : x5_1 < (l1.length : Int) := of_decide_eq_true (by first | (with_reducible assumption) | assumption)
       obtain ⟨ad199, e199, hx199_0, hx199_1, hx199_2, hx199_3, hx199_4⟩ := at_T37 HR1.out x5_1 p199 q199
       cases e199
       replace hx199_0 := (HB.out.cell (World.block_lt_of_cell? w _ hx199_0)).trans hx199_0
       replace hx199_1 := (HB.out.cell (World.block_lt_of_cell? w _ hx199_1)).trans hx199_1
       replace hx199_2 := (HB.out.cell (World.block_lt_of_cell? w _ hx199_2)).trans hx199_2
       replace hx199_3 := (HB.out.cell (World.block_lt_of_cell? w _ hx199_3)).trans hx199_3
       replace hx199_4 := (HB.out.cell (World.block_lt_of_cell? w _ hx199_4)).trans hx199_4
       replace p199 := eq_true p199
       replace q199 := eq_true q199
       go_wp2
       go_ret
       exact ⟨by first | rfl | (simp [errW_none, errW_some] <;> rfl) | (simp [*, errW_none, errW_some] <;> rfl), by repeat (first | (with_reducible first | exact HB.out | apply lA | apply lN | apply lD) | exact HB.out)⟩
      ·rw [if_neg c8] at H
       have c8b0 : decide (((rd_T37 l1 x5_1).f2) < 1) = false := decide_eq_false c8
       clear c8
       by_cases c9 : ((rd_T37 l1 x5_1).f2) > 16777216
       ·rw [if_pos c9] at H
        have c9b0 : decide (16777216 < ((rd_T37 l1 x5_1).f2)) = true := decide_eq_true c9
        clear c9
        obtain rfl := Option.some.inj H
        have p199 : 0 ≤ (x5_1 : Int) := of_decide_eq_true (by first | (with_reducible assumption) | assumption)
        have q199 : x5_1 < (l1.length : Int) := of_decide_eq_true (by first | (with_reducible assumption) | assumption)
        obtain ⟨ad199, e199, hx199_0, hx199_1, hx199_2, hx199_3, hx199_4⟩ := at_T37 HR1.out x5_1 p199 q199
        cases e199
        replace hx199_0 := (HB.out.cell (World.block_lt_of_cell? w _ hx199_0)).trans hx199_0
        replace hx199_1 := (HB.out.cell (World.block_lt_of_cell? w _ hx199_1)).trans hx199_1
        replace hx199_2 := (HB.out.cell (World.block_lt_of_cell? w _ hx199_2)).trans hx199_2
        replace hx199_3 := (HB.out.cell (World.block_lt_of_cell? w _ hx199_3)).trans hx199_3
        replace hx199_4 := (HB.out.cell (World.block_lt_of_cell? w _ hx199_4)).trans hx199_4
        replace p199 := eq_true p199
        replace q199 := eq_true q199
        have p200 : 0 ≤ (x5_1 : Int) := of_decide_eq_true (by first | (with_reducible assumption) | assumption)
        have q200 : x5_1 < (l1.length : Int) := of_decide_eq_true (by first | (with_reducible assumption) | assumption)
        obtain ⟨ad200, e200, hx200_0, hx200_1, hx200_2, hx200_3, hx200_4⟩ := at_T37 HR1.out x5_1 p200 q200
        obtain rfl : ad199 = ad200 := (by injection e200)
        replace hx200_0 := (HB.out.cell (World.block_lt_of_cell? w _ hx200_0)).trans hx200_0
        replace hx200_1 := (HB.out.cell (World.block_lt_of_cell? w _ hx200_1)).trans hx200_1
        replace hx200_2 := (HB.out.cell (World.block_lt_of_cell? w _ hx200_2)).trans hx200_2
        replace hx200_3 := (HB.out.cell (World.block_lt_of_cell? w _ hx200_3)).trans hx200_3
        replace hx200_4 := (HB.out.cell (World.block_lt_of_cell? w _ hx200_4)).trans hx200_4
        replace p200 := eq_true p200
        replace q200 := eq_true q200
        go_wp2
        go_ret
        exact ⟨by first | rfl | (simp [errW_none, errW_some] <;> rfl) | (simp [*, errW_none, errW_some] <;> rfl), by repeat (first | (with_reducible first | exact HB.out | apply lA | apply lN | apply lD) | exact HB.out)⟩
       ·rw [if_neg c9] at H
        have c9b0 : decide (16777216 < ((rd_T37 l1 x5_1).f2)) = false := decide_eq_false c9
        clear c9
        have H' := aM H
        clear H
        have p199 : 0 ≤ (x5_1 : Int) := of_decide_eq_true (by first | (with_reducible assumption) | assumption)
        have q199 : x5_1 < (l1.length : Int) := of_decide_eq_true (by first | (with_reducible assumption) | assumption)
        obtain ⟨ad199, e199, hx199_0, hx199_1, hx199_2, hx199_3, hx199_4⟩ := at_T37 HR1.out x5_1 p199 q199
        cases e199
        replace hx199_0 := (HB.out.cell (World.block_lt_of_cell? w _ hx199_0)).trans hx199_0
        replace hx199_1 := (HB.out.cell (World.block_lt_of_cell? w _ hx199_1)).trans hx199_1
        replace hx199_2 := (HB.out.cell (World.block_lt_of_cell? w _ hx199_2)).trans hx199_2
        replace hx199_3 := (HB.out.cell (World.block_lt_of_cell? w _ hx199_3)).trans hx199_3
        replace hx199_4 := (HB.out.cell (World.block_lt_of_cell? w _ hx199_4)).trans hx199_4
        replace p199 := eq_true p199
        replace q199 := eq_true q199
        have p200 : 0 ≤ (x5_1 : Int) := of_decide_eq_true (by first | (with_reducible assumption) | assumption)
        have q200 : x5_1 < (l1.length : Int) := of_decide_eq_true (by first | (with_reducible assumption) | assumption)
        obtain ⟨ad200, e200, hx200_0, hx200_1, hx200_2, hx200_3, hx200_4⟩ := at_T37 HR1.out x5_1 p200 q200
        obtain rfl : ad199 = ad200 := (by injection e200)
        replace hx200_0 := (HB.out.cell (World.block_lt_of_cell? w _ hx200_0)).trans hx200_0
        replace hx200_1 := (HB.out.cell (World.block_lt_of_cell? w _ hx200_1)).trans hx200_1
        replace hx200_2 := (HB.out.cell (World.block_lt_of_cell? w _ hx200_2)).trans hx200_2
        replace hx200_3 := (HB.out.cell (World.block_lt_of_cell? w _ hx200_3)).trans hx200_3
        replace hx200_4 := (HB.out.cell (World.block_lt_of_cell? w _ hx200_4)).trans hx200_4
        replace p200 := eq_true p200
        replace q200 := eq_true q200
        go_wp2
        go_roundg k1
        case measure => have := HK1.out; omega
        case rel => exact ⟨(wrap64 (x5_1 + 1)), (by first | rfl | (simp; done) | (simp [*]; done)), H', ⟨by have := HK1.out; omega⟩, ⟨by repeat (first | (with_reducible first | exact HB.out | apply lA | apply lN | apply lD) | exact HB.out)⟩⟩
     ·rw [if_neg c7] at H
      exact absurd H (by simp)
    ·rw [if_neg c6] at H
     have c6b0 : decide (x5_1 < (l1.length : Int)) = false := decide_eq_false c6
     clear c6
     obtain rfl := Option.some.inj H
     go_wp2
     go_ret
     exact ⟨by first | rfl | (simp [errW_none, errW_some] <;> rfl) | (simp [*, errW_none, errW_some] <;> rfl), by repeat (first | (with_reducible first | exact HB.out | apply lA | apply lN | apply lD) | exact HB.out)⟩
 ·replace c4 := Bool.eq_false_iff.mpr c4
  subst c4
  rw [if_neg (show ¬ (false = true) by decide)] at H
  obtain rfl := Option.some.inj H
  go_enter Try.func8, Try.ntmps8
  go_wp2_with (first | ((with_reducible refine gate_callee (f := 20) rfl ?_); refine goesL_ (some 8) rfl rfl Try.func20 (by kernel_rfl) rfl #[.slice A0 l0.length c0, .slice A1 l1.length c1] rfl (by (try simp only [List.map_toArray, List.map_cons, List.map_nil]); first | done | rfl | (simp only [List.length_drop, List.length_take]; rfl)) ?_; (with_reducible refine (billiardref17_Right.calls k _ _ l0 _ _ l1 false _ ?side1 ?side2 ?side3 ?side4 A3.out).mono ?_); (case side1 => repeat (first | exact HR0.out | (with_reducible refine Kd.C_alloc ?_ _) | (with_reducible refine Kd.C_drewN ?_ _) | (with_reducible refine Kd.C_drew ?_))); (case side2 => exact HC0.out); (case side3 => repeat (first | exact HR1.out | (with_reducible refine Kd.C_alloc ?_ _) | (with_reducible refine Kd.C_drewN ?_ _) | (with_reducible refine Kd.C_drew ?_))); (case side4 => exact HC1.out); rintro e w10 ⟨rfl, hb⟩; refine ⟨_, rfl, ?_⟩; have n0_ := aM (lT (by repeat (first | (with_reducible first | exact HB.out | apply lA | apply lN | apply lD) | exact HB.out)) hb); clear HB; have HB := n0_; clear n0_; (try clear hb); (try clear hb2); (try clear hk); (try clear hi)))
  go_ret
  exact ⟨by first | rfl | (simp [errW_none, errW_some] <;> rfl) | (simp [*, errW_none, errW_some] <;> rfl), by repeat (first | (with_reducible first | exact HB.out | apply lA | apply lN | apply lD) | exact HB.out)⟩

/-! ### billiardref18_Amount: function 11 -/
def billiardref18_Amount.f (a0_0 : Int) (a0_1 : Int) (a0_2 : Int) (a0_3 : Int) (a0_4 : Int) (a1_0 : Int) (a1_1 : Int) (a1_2 : Int) (a1_3 : Int) (a1_4 : Int) (a1_5 : Int) (a1_6 : Int) (a1_7 : Int) (a1_8 : Int) (a1_9 : Int) (a2_0 : Int) (a2_1 : Int) (a2_2 : Int) (a2_3 : Int) (a2_4 : Int) (a2_5 : Int) (a2_6 : Int) (a2_7 : Int) (a2_8 : Int) (a2_9 : Int) : Option (Int) := if a0_4 ≤ 1024 then (some 0) else (if (wrap32 (a1_4 + a2_4)) = 0 then (some 0) else ((billiardref01_Floor.f (wrap64 ((wrap64 ((wrap64 (a0_4)) - 1024)) * 26214)) 65536).bind fun t204 => (some t204)))
set_option maxHeartbeats 8000000 in
set_option maxRecDepth 100000 in
theorem billiardref18_Amount.calls (a0_0 : Int) (a0_1 : Int) (a0_2 : Int) (a0_3 : Int) (a0_4 : Int) (a1_0 : Int) (a1_1 : Int) (a1_2 : Int) (a1_3 : Int) (a1_4 : Int) (a1_5 : Int) (a1_6 : Int) (a1_7 : Int) (a1_8 : Int) (a1_9 : Int) (a2_0 : Int) (a2_1 : Int) (a2_2 : Int) (a2_3 : Int) (a2_4 : Int) (a2_5 : Int) (a2_6 : Int) (a2_7 : Int) (a2_8 : Int) (a2_9 : Int) (r : Int) (w : World) (h : billiardref18_Amount.f a0_0 a0_1 a0_2 a0_3 a0_4 a1_0 a1_1 a1_2 a1_3 a1_4 a1_5 a1_6 a1_7 a1_8 a1_9 a2_0 a2_1 a2_2 a2_3 a2_4 a2_5 a2_6 a2_7 a2_8 a2_9 = some r) :
  Calls Try.prog 11 #[.agg #[.int .u32 a0_0, .int .u32 a0_1, .int .i32 a0_2, .int .i32 a0_3, .int .i32 a0_4], .agg #[.int .u32 a1_0, .int .i32 a1_1, .int .i32 a1_2, .int .i32 a1_3, .int .i32 a1_4, .int .i32 a1_5, .int .i32 a1_6, .int .i32 a1_7, .int .i32 a1_8, .int .i32 a1_9], .agg #[.int .u32 a2_0, .int .i32 a2_1, .int .i32 a2_2, .int .i32 a2_3, .int .i32 a2_4, .int .i32 a2_5, .int .i32 a2_6, .int .i32 a2_7, .int .i32 a2_8, .int .i32 a2_9]] w fun e w' => e = .returned (.int .i64 r) ∧ Below w.heap.size w w' := by
 have hu37 := Try.underlying37
 have hu32 := Try.underlying32
 have HB := aM (Below.refl w.heap.size w)
 have H : (if a0_4 ≤ 1024 then (some 0) else (if (wrap32 (a1_4 + a2_4)) = 0 then (some 0) else ((billiardref01_Floor.f (wrap64 ((wrap64 ((wrap64 (a0_4)) - 1024)) * 26214)) 65536).bind fun t204 => (some t204)))) = some r := h
 clear h
 by_cases c4 : a0_4 ≤ 1024
 ·rw [if_pos c4] at H
  have c4b0 : decide (a0_4 ≤ 1024) = true := decide_eq_true c4
  clear c4
  obtain rfl := Option.some.inj H
  go_enter Try.func11, Try.ntmps11
  go_wp2_with (first | ((with_reducible refine gate_dst (N := 3) rfl ?_); refine box_event ?hg (N := 3) ?hd (cs := #[.int .u32 a0_0, .int .u32 a0_1, .int .i32 a0_2, .int .i32 a0_3, .int .i32 a0_4]) (t := 37) ?hr ?_; (case hd => rfl); (case hg => rfl); (case hr => first | (go_simp; done) | (go_simp; rfl)); intro b201 hg w5 hbox hb; have n0_ := aM (lT (by repeat (first | (with_reducible first | exact HB.out | apply lA | apply lN | apply lD) | exact HB.out)) hb); have n1_ := aM (hbox); have n2_ := aM ((by rw [hg]; exact (lZ (by repeat (first | (with_reducible first | exact HB.out | apply lA | apply lN | apply lD) | exact HB.out))) : w.heap.size ≤ b201)); have n3_ := aM ((by rw [hg]; exact (lZ (by repeat (first | (with_reducible first | exact HB.out | apply lA | apply lN | apply lD) | exact HB.out))) : w.heap.size ≤ b201)); clear HB; have HB := n0_; have BK201 := n1_; have GW201 := n2_; have GE201 := n3_; clear n0_ n1_ n2_ n3_; clear hb hbox hg) | ((with_reducible refine gate_dst (N := 4) rfl ?_); refine box_event ?hg (N := 4) ?hd (cs := #[.int .u32 a1_0, .int .i32 a1_1, .int .i32 a1_2, .int .i32 a1_3, .int .i32 a1_4, .int .i32 a1_5, .int .i32 a1_6, .int .i32 a1_7, .int .i32 a1_8, .int .i32 a1_9]) (t := 32) ?hr ?_; (case hd => rfl); (case hg => rfl); (case hr => first | (go_simp; done) | (go_simp; rfl)); intro b202 hg w6 hbox hb; have n0_ := aM (bB (by (with_reducible repeat first | apply bN | apply bD | apply bA); exact BK201.out) hb); have n1_ := aM (lT (by repeat (first | (with_reducible first | exact HB.out | apply lA | apply lN | apply lD | refine lS ?_ GE201.out) | exact HB.out)) hb); have n2_ := aM (hbox); have n3_ := aM ((by rw [hg]; exact (lZ (by repeat (first | (with_reducible first | exact HB.out | apply lA | apply lN | apply lD | refine lS ?_ GE201.out) | exact HB.out))) : w.heap.size ≤ b202)); have n4_ := aM ((by rw [hg]; exact (lZ (by repeat (first | (with_reducible first | exact HB.out | apply lA | apply lN | apply lD | refine lS ?_ GE201.out) | exact HB.out))) : w.heap.size ≤ b202)); have n5_ := aM ((by rw [hg]; exact Nat.ne_of_lt (bL (g := b201) (by (with_reducible repeat first | apply bN | apply bD | apply bA); exact BK201.out)) : b201 ≠ b202)); have n6_ := aM ((by rw [hg]; exact Nat.ne_of_gt (bL (g := b201) (by (with_reducible repeat first | apply bN | apply bD | apply bA); exact BK201.out)) : b202 ≠ b201)); clear BK201; clear HB; have BK201 := n0_; have HB := n1_; have BK202 := n2_; have GW202 := n3_; have GE202 := n4_; have N0_ := n5_; have N1_ := n6_; clear n0_ n1_ n2_ n3_ n4_ n5_ n6_; clear hb hbox hg) | ((with_reducible refine gate_dst (N := 5) rfl ?_); refine box_event ?hg (N := 5) ?hd (cs := #[.int .u32 a2_0, .int .i32 a2_1, .int .i32 a2_2, .int .i32 a2_3, .int .i32 a2_4, .int .i32 a2_5, .int .i32 a2_6, .int .i32 a2_7, .int .i32 a2_8, .int .i32 a2_9]) (t := 32) ?hr ?_; (case hd => rfl); (case hg => rfl); (case hr => first | (go_simp; done) | (go_simp; rfl)); intro b203 hg w7 hbox hb; have n0_ := aM (bB (by (with_reducible repeat first | apply bN | apply bD | apply bA); exact BK201.out) hb); have n1_ := aM (bB (by (with_reducible repeat first | apply bN | apply bD | apply bA); exact BK202.out) hb); have n2_ := aM (lT (by repeat (first | (with_reducible first | exact HB.out | apply lA | apply lN | apply lD | refine lS ?_ GE201.out | refine lS ?_ GE202.out) | exact HB.out)) hb); have n3_ := aM (hbox); have n4_ := aM ((by rw [hg]; exact (lZ (by repeat (first | (with_reducible first | exact HB.out | apply lA | apply lN | apply lD | refine lS ?_ GE201.out | refine lS ?_ GE202.out) | exact HB.out))) : w.heap.size ≤ b203)); have n5_ := aM ((by rw [hg]; exact (lZ (by repeat (first | (with_reducible first | exact HB.out | apply lA | apply lN | apply lD | refine lS ?_ GE201.out | refine lS ?_ GE202.out) | exact HB.out))) : w.heap.size ≤ b203)); have n6_ := aM ((by rw [hg]; exact Nat.ne_of_lt (bL (g := b201) (by (with_reducible repeat first | apply bN | apply bD | apply bA); exact BK201.out)) : b201 ≠ b203)); have n7_ := aM ((by rw [hg]; exact Nat.ne_of_gt (bL (g := b201) (by (with_reducible repeat first | apply bN | apply bD | apply bA); exact BK201.out)) : b203 ≠ b201)); have n8_ := aM ((by rw [hg]; exact Nat.ne_of_lt (bL (g := b202) (by (with_reducible repeat first | apply bN | apply bD | apply bA); exact BK202.out)) : b202 ≠ b203)); have n9_ := aM ((by rw [hg]; exact Nat.ne_of_gt (bL (g := b202) (by (with_reducible repeat first | apply bN | apply bD | apply bA); exact BK202.out)) : b203 ≠ b202)); clear BK201; clear BK202; clear HB; have BK201 := n0_; have BK202 := n1_; have HB := n2_; have BK203 := n3_; have GW203 := n4_; have GE203 := n5_; have N2_ := n6_; have N3_ := n7_; have N4_ := n8_; have N5_ := n9_; clear n0_ n1_ n2_ n3_ n4_ n5_ n6_ n7_ n8_ n9_; clear hb hbox hg; have hnb8 := N0_.out; have hnc8 := N1_.out; have hnb9 := N2_.out; have hnc9 := N3_.out; have hcz10_0 : w7.cell? ⟨b201, 0, none⟩ = some (.int .u32 a0_0) := (bC BK201.out 0).trans rfl; have hcz10_1 : w7.cell? ⟨b201, 1, none⟩ = some (.int .u32 a0_1) := (bC BK201.out 1).trans rfl; have hcz10_2 : w7.cell? ⟨b201, 2, none⟩ = some (.int .i32 a0_2) := (bC BK201.out 2).trans rfl; have hcz10_3 : w7.cell? ⟨b201, 3, none⟩ = some (.int .i32 a0_3) := (bC BK201.out 3).trans rfl; have hcz10_4 : w7.cell? ⟨b201, 4, none⟩ = some (.int .i32 a0_4) := (bC BK201.out 4).trans rfl; have hfz10_0 := bF BK201.out 0; have hfz10_1 := bF BK201.out 1; have hfz10_2 := bF BK201.out 2; have hfz10_3 := bF BK201.out 3; have hfz10_4 := bF BK201.out 4))
  go_ret
  exact ⟨by first | rfl | (simp [errW_none, errW_some] <;> rfl) | (simp [*, errW_none, errW_some] <;> rfl), by repeat (first | (with_reducible first | exact HB.out | apply lA | apply lN | apply lD | refine lS ?_ GE201.out | refine lS ?_ GE202.out | refine lS ?_ GE203.out) | exact HB.out)⟩
 ·rw [if_neg c4] at H
  have c4b0 : decide (a0_4 ≤ 1024) = false := decide_eq_false c4
  clear c4
  by_cases c11 : (wrap32 (a1_4 + a2_4)) = 0
  ·rw [if_pos c11] at H
   have c11b0 : ((wrap32 (a1_4 + a2_4)) == 0) = true := beq_iff_eq.mpr c11
   have c11b1 : ((wrap32 (a1_4 + a2_4)) != 0) = false := bne_eq_false_iff_eq.mpr c11
   clear c11
   obtain rfl := Option.some.inj H
   go_enter Try.func11, Try.ntmps11
   go_wp2_with (first | ((with_reducible refine gate_dst (N := 3) rfl ?_); refine box_event ?hg (N := 3) ?hd (cs := #[.int .u32 a0_0, .int .u32 a0_1, .int .i32 a0_2, .int .i32 a0_3, .int .i32 a0_4]) (t := 37) ?hr ?_; (case hd => rfl); (case hg => rfl); (case hr => first | (go_simp; done) | (go_simp; rfl)); intro b201 hg w12 hbox hb; have n0_ := aM (lT (by repeat (first | (with_reducible first | exact HB.out | apply lA | apply lN | apply lD) | exact HB.out)) hb); have n1_ := aM (hbox); have n2_ := aM ((by rw [hg]; exact (lZ (by repeat (first | (with_reducible first | exact HB.out | apply lA | apply lN | apply lD) | exact HB.out))) : w.heap.size ≤ b201)); have n3_ := aM ((by rw [hg]; exact (lZ (by repeat (first | (with_reducible first | exact HB.out | apply lA | apply lN | apply lD) | exact HB.out))) : w.heap.size ≤ b201)); clear HB; have HB := n0_; have BK201 := n1_; have GW201 := n2_; have GE201 := n3_; clear n0_ n1_ n2_ n3_; clear hb hbox hg) | ((with_reducible refine gate_dst (N := 4) rfl ?_); refine box_event ?hg (N := 4) ?hd (cs := #[.int .u32 a1_0, .int .i32 a1_1, .int .i32 a1_2, .int .i32 a1_3, .int .i32 a1_4, .int .i32 a1_5, .int .i32 a1_6, .int .i32 a1_7, .int .i32 a1_8, .int .i32 a1_9]) (t := 32) ?hr ?_; (case hd => rfl); (case hg => rfl); (case hr => first | (go_simp; done) | (go_simp; rfl)); intro b202 hg w13 hbox hb; have n0_ := aM (bB (by (with_reducible repeat first | apply bN | apply bD | apply bA); exact BK201.out) hb); have n1_ := aM (lT (by repeat (first | (with_reducible first | exact HB.out | apply lA | apply lN | apply lD | refine lS ?_ GE201.out) | exact HB.out)) hb); have n2_ := aM (hbox); have n3_ := aM ((by rw [hg]; exact (lZ (by repeat (first | (with_reducible first | exact HB.out | apply lA | apply lN | apply lD | refine lS ?_ GE201.out) | exact HB.out))) : w.heap.size ≤ b202)); have n4_ := aM ((by rw [hg]; exact (lZ (by repeat (first | (with_reducible first | exact HB.out | apply lA | apply lN | apply lD | refine lS ?_ GE201.out) | exact HB.out))) : w.heap.size ≤ b202)); have n5_ := aM ((by rw [hg]; exact Nat.ne_of_lt (bL (g := b201) (by (with_reducible repeat first | apply bN | apply bD | apply bA); exact BK201.out)) : b201 ≠ b202)); have n6_ := aM ((by rw [hg]; exact Nat.ne_of_gt (bL (g := b201) (by (with_reducible repeat first | apply bN | apply bD | apply bA); exact BK201.out)) : b202 ≠ b201)); clear BK201; clear HB; have BK201 := n0_; have HB := n1_; have BK202 := n2_; have GW202 := n3_; have GE202 := n4_; have N0_ := n5_; have N1_ := n6_; clear n0_ n1_ n2_ n3_ n4_ n5_ n6_; clear hb hbox hg) | ((with_reducible refine gate_dst (N := 5) rfl ?_); refine box_event ?hg (N := 5) ?hd (cs := #[.int .u32 a2_0, .int .i32 a2_1, .int .i32 a2_2, .int .i32 a2_3, .int .i32 a2_4, .int .i32 a2_5, .int .i32 a2_6, .int .i32 a2_7, .int .i32 a2_8, .int .i32 a2_9]) (t := 32) ?hr ?_; (case hd => rfl); (case hg => rfl); (case hr => first | (go_simp; done) | (go_simp; rfl)); intro b203 hg w14 hbox hb; have n0_ := aM (bB (by (with_reducible repeat first | apply bN | apply bD | apply bA); exact BK201.out) hb); have n1_ := aM (bB (by (with_reducible repeat first | apply bN | apply bD | apply bA); exact BK202.out) hb); have n2_ := aM (lT (by repeat (first | (with_reducible first | exact HB.out | apply lA | apply lN | apply lD | refine lS ?_ GE201.out | refine lS ?_ GE202.out) | exact HB.out)) hb); have n3_ := aM (hbox); have n4_ := aM ((by rw [hg]; exact (lZ (by repeat (first | (with_reducible first | exact HB.out | apply lA | apply lN | apply lD | refine lS ?_ GE201.out | refine lS ?_ GE202.out) | exact HB.out))) : w.heap.size ≤ b203)); have n5_ := aM ((by rw [hg]; exact (lZ (by repeat (first | (with_reducible first | exact HB.out | apply lA | apply lN | apply lD | refine lS ?_ GE201.out | refine lS ?_ GE202.out) | exact HB.out))) : w.heap.size ≤ b203)); have n6_ := aM ((by rw [hg]; exact Nat.ne_of_lt (bL (g := b201) (by (with_reducible repeat first | apply bN | apply bD | apply bA); exact BK201.out)) : b201 ≠ b203)); have n7_ := aM ((by rw [hg]; exact Nat.ne_of_gt (bL (g := b201) (by (with_reducible repeat first | apply bN | apply bD | apply bA); exact BK201.out)) : b203 ≠ b201)); have n8_ := aM ((by rw [hg]; exact Nat.ne_of_lt (bL (g := b202) (by (with_reducible repeat first | apply bN | apply bD | apply bA); exact BK202.out)) : b202 ≠ b203)); have n9_ := aM ((by rw [hg]; exact Nat.ne_of_gt (bL (g := b202) (by (with_reducible repeat first | apply bN | apply bD | apply bA); exact BK202.out)) : b203 ≠ b202)); clear BK201; clear BK202; clear HB; have BK201 := n0_; have BK202 := n1_; have HB := n2_; have BK203 := n3_; have GW203 := n4_; have GE203 := n5_; have N2_ := n6_; have N3_ := n7_; have N4_ := n8_; have N5_ := n9_; clear n0_ n1_ n2_ n3_ n4_ n5_ n6_ n7_ n8_ n9_; clear hb hbox hg; have hnb15 := N0_.out; have hnc15 := N1_.out; have hnb16 := N2_.out; have hnc16 := N3_.out; have hcz17_0 : w14.cell? ⟨b201, 0, none⟩ = some (.int .u32 a0_0) := (bC BK201.out 0).trans rfl; have hcz17_1 : w14.cell? ⟨b201, 1, none⟩ = some (.int .u32 a0_1) := (bC BK201.out 1).trans rfl; have hcz17_2 : w14.cell? ⟨b201, 2, none⟩ = some (.int .i32 a0_2) := (bC BK201.out 2).trans rfl; have hcz17_3 : w14.cell? ⟨b201, 3, none⟩ = some (.int .i32 a0_3) := (bC BK201.out 3).trans rfl; have hcz17_4 : w14.cell? ⟨b201, 4, none⟩ = some (.int .i32 a0_4) := (bC BK201.out 4).trans rfl; have hfz17_0 := bF BK201.out 0; have hfz17_1 := bF BK201.out 1; have hfz17_2 := bF BK201.out 2; have hfz17_3 := bF BK201.out 3; have hfz17_4 := bF BK201.out 4; have hnb18 := N4_.out; have hnc18 := N5_.out; have hcz19_0 : w14.cell? ⟨b202, 0, none⟩ = some (.int .u32 a1_0) := (bC BK202.out 0).trans rfl; have hcz19_1 : w14.cell? ⟨b202, 1, none⟩ = some (.int .i32 a1_1) := (bC BK202.out 1).trans rfl; have hcz19_2 : w14.cell? ⟨b202, 2, none⟩ = some (.int .i32 a1_2) := (bC BK202.out 2).trans rfl; have hcz19_3 : w14.cell? ⟨b202, 3, none⟩ = some (.int .i32 a1_3) := (bC BK202.out 3).trans rfl; have hcz19_4 : w14.cell? ⟨b202, 4, none⟩ = some (.int .i32 a1_4) := (bC BK202.out 4).trans rfl; have hcz19_5 : w14.cell? ⟨b202, 5, none⟩ = some (.int .i32 a1_5) := (bC BK202.out 5).trans rfl; have hcz19_6 : w14.cell? ⟨b202, 6, none⟩ = some (.int .i32 a1_6) := (bC BK202.out 6).trans rfl; have hcz19_7 : w14.cell? ⟨b202, 7, none⟩ = some (.int .i32 a1_7) := (bC BK202.out 7).trans rfl; have hcz19_8 : w14.cell? ⟨b202, 8, none⟩ = some (.int .i32 a1_8) := (bC BK202.out 8).trans rfl; have hcz19_9 : w14.cell? ⟨b202, 9, none⟩ = some (.int .i32 a1_9) := (bC BK202.out 9).trans rfl; have hfz19_0 := bF BK202.out 0; have hfz19_1 := bF BK202.out 1; have hfz19_2 := bF BK202.out 2; have hfz19_3 := bF BK202.out 3; have hfz19_4 := bF BK202.out 4; have hfz19_5 := bF BK202.out 5; have hfz19_6 := bF BK202.out 6; have hfz19_7 := bF BK202.out 7; have hfz19_8 := bF BK202.out 8; have hfz19_9 := bF BK202.out 9; have hcz20_0 : w14.cell? ⟨b203, 0, none⟩ = some (.int .u32 a2_0) := (bC BK203.out 0).trans rfl; have hcz20_1 : w14.cell? ⟨b203, 1, none⟩ = some (.int .i32 a2_1) := (bC BK203.out 1).trans rfl; have hcz20_2 : w14.cell? ⟨b203, 2, none⟩ = some (.int .i32 a2_2) := (bC BK203.out 2).trans rfl; have hcz20_3 : w14.cell? ⟨b203, 3, none⟩ = some (.int .i32 a2_3) := (bC BK203.out 3).trans rfl; have hcz20_4 : w14.cell? ⟨b203, 4, none⟩ = some (.int .i32 a2_4) := (bC BK203.out 4).trans rfl; have hcz20_5 : w14.cell? ⟨b203, 5, none⟩ = some (.int .i32 a2_5) := (bC BK203.out 5).trans rfl; have hcz20_6 : w14.cell? ⟨b203, 6, none⟩ = some (.int .i32 a2_6) := (bC BK203.out 6).trans rfl; have hcz20_7 : w14.cell? ⟨b203, 7, none⟩ = some (.int .i32 a2_7) := (bC BK203.out 7).trans rfl; have hcz20_8 : w14.cell? ⟨b203, 8, none⟩ = some (.int .i32 a2_8) := (bC BK203.out 8).trans rfl; have hcz20_9 : w14.cell? ⟨b203, 9, none⟩ = some (.int .i32 a2_9) := (bC BK203.out 9).trans rfl; have hfz20_0 := bF BK203.out 0; have hfz20_1 := bF BK203.out 1; have hfz20_2 := bF BK203.out 2; have hfz20_3 := bF BK203.out 3; have hfz20_4 := bF BK203.out 4; have hfz20_5 := bF BK203.out 5; have hfz20_6 := bF BK203.out 6; have hfz20_7 := bF BK203.out 7; have hfz20_8 := bF BK203.out 8; have hfz20_9 := bF BK203.out 9))
   go_ret
   exact ⟨by first | rfl | (simp [errW_none, errW_some] <;> rfl) | (simp [*, errW_none, errW_some] <;> rfl), by repeat (first | (with_reducible first | exact HB.out | apply lA | apply lN | apply lD | refine lS ?_ GE201.out | refine lS ?_ GE202.out | refine lS ?_ GE203.out) | exact HB.out)⟩
  ·rw [if_neg c11] at H
   have c11b0 : ((wrap32 (a1_4 + a2_4)) == 0) = false := beq_eq_false_iff_ne.mpr c11
   have c11b1 : ((wrap32 (a1_4 + a2_4)) != 0) = true := bne_iff_ne.mpr c11
   replace H := Option.bind_eq_some_iff.mp H
   obtain ⟨t204, A210, H⟩ := H
   try dsimp only at H
   have A21 := aM A210
   clear A210
   obtain rfl := Option.some.inj H
   go_enter Try.func11, Try.ntmps11
   go_wp2_with (first | ((with_reducible refine gate_dst (N := 3) rfl ?_); refine box_event ?hg (N := 3) ?hd (cs := #[.int .u32 a0_0, .int .u32 a0_1, .int .i32 a0_2, .int .i32 a0_3, .int .i32 a0_4]) (t := 37) ?hr ?_; (case hd => rfl); (case hg => rfl); (case hr => first | (go_simp; done) | (go_simp; rfl)); intro b201 hg w22 hbox hb; have n0_ := aM (lT (by repeat (first | (with_reducible first | exact HB.out | apply lA | apply lN | apply lD) | exact HB.out)) hb); have n1_ := aM (hbox); have n2_ := aM ((by rw [hg]; exact (lZ (by repeat (first | (with_reducible first | exact HB.out | apply lA | apply lN | apply lD) | exact HB.out))) : w.heap.size ≤ b201)); have n3_ := aM ((by rw [hg]; exact (lZ (by repeat (first | (with_reducible first | exact HB.out | apply lA | apply lN | apply lD) | exact HB.out))) : w.heap.size ≤ b201)); clear HB; have HB := n0_; have BK201 := n1_; have GW201 := n2_; have GE201 := n3_; clear n0_ n1_ n2_ n3_; clear hb hbox hg) | ((with_reducible refine gate_dst (N := 4) rfl ?_); refine box_event ?hg (N := 4) ?hd (cs := #[.int .u32 a1_0, .int .i32 a1_1, .int .i32 a1_2, .int .i32 a1_3, .int .i32 a1_4, .int .i32 a1_5, .int .i32 a1_6, .int .i32 a1_7, .int .i32 a1_8, .int .i32 a1_9]) (t := 32) ?hr ?_; (case hd => rfl); (case hg => rfl); (case hr => first | (go_simp; done) | (go_simp; rfl)); intro b202 hg w23 hbox hb; have n0_ := aM (bB (by (with_reducible repeat first | apply bN | apply bD | apply bA); exact BK201.out) hb); have n1_ := aM (lT (by repeat (first | (with_reducible first | exact HB.out | apply lA | apply lN | apply lD | refine lS ?_ GE201.out) | exact HB.out)) hb); have n2_ := aM (hbox); have n3_ := aM ((by rw [hg]; exact (lZ (by repeat (first | (with_reducible first | exact HB.out | apply lA | apply lN | apply lD | refine lS ?_ GE201.out) | exact HB.out))) : w.heap.size ≤ b202)); have n4_ := aM ((by rw [hg]; exact (lZ (by repeat (first | (with_reducible first | exact HB.out | apply lA | apply lN | apply lD | refine lS ?_ GE201.out) | exact HB.out))) : w.heap.size ≤ b202)); have n5_ := aM ((by rw [hg]; exact Nat.ne_of_lt (bL (g := b201) (by (with_reducible repeat first | apply bN | apply bD | apply bA); exact BK201.out)) : b201 ≠ b202)); have n6_ := aM ((by rw [hg]; exact Nat.ne_of_gt (bL (g := b201) (by (with_reducible repeat first | apply bN | apply bD | apply bA); exact BK201.out)) : b202 ≠ b201)); clear BK201; clear HB; have BK201 := n0_; have HB := n1_; have BK202 := n2_; have GW202 := n3_; have GE202 := n4_; have N0_ := n5_; have N1_ := n6_; clear n0_ n1_ n2_ n3_ n4_ n5_ n6_; clear hb hbox hg) | ((with_reducible refine gate_dst (N := 5) rfl ?_); refine box_event ?hg (N := 5) ?hd (cs := #[.int .u32 a2_0, .int .i32 a2_1, .int .i32 a2_2, .int .i32 a2_3, .int .i32 a2_4, .int .i32 a2_5, .int .i32 a2_6, .int .i32 a2_7, .int .i32 a2_8, .int .i32 a2_9]) (t := 32) ?hr ?_; (case hd => rfl); (case hg => rfl); (case hr => first | (go_simp; done) | (go_simp; rfl)); intro b203 hg w24 hbox hb; have n0_ := aM (bB (by (with_reducible repeat first | apply bN | apply bD | apply bA); exact BK201.out) hb); have n1_ := aM (bB (by (with_reducible repeat first | apply bN | apply bD | apply bA); exact BK202.out) hb); have n2_ := aM (lT (by repeat (first | (with_reducible first | exact HB.out | apply lA | apply lN | apply lD | refine lS ?_ GE201.out | refine lS ?_ GE202.out) | exact HB.out)) hb); have n3_ := aM (hbox); have n4_ := aM ((by rw [hg]; exact (lZ (by repeat (first | (with_reducible first | exact HB.out | apply lA | apply lN | apply lD | refine lS ?_ GE201.out | refine lS ?_ GE202.out) | exact HB.out))) : w.heap.size ≤ b203)); have n5_ := aM ((by rw [hg]; exact (lZ (by repeat (first | (with_reducible first | exact HB.out | apply lA | apply lN | apply lD | refine lS ?_ GE201.out | refine lS ?_ GE202.out) | exact HB.out))) : w.heap.size ≤ b203)); have n6_ := aM ((by rw [hg]; exact Nat.ne_of_lt (bL (g := b201) (by (with_reducible repeat first | apply bN | apply bD | apply bA); exact BK201.out)) : b201 ≠ b203)); have n7_ := aM ((by rw [hg]; exact Nat.ne_of_gt (bL (g := b201) (by (with_reducible repeat first | apply bN | apply bD | apply bA); exact BK201.out)) : b203 ≠ b201)); have n8_ := aM ((by rw [hg]; exact Nat.ne_of_lt (bL (g := b202) (by (with_reducible repeat first | apply bN | apply bD | apply bA); exact BK202.out)) : b202 ≠ b203)); have n9_ := aM ((by rw [hg]; exact Nat.ne_of_gt (bL (g := b202) (by (with_reducible repeat first | apply bN | apply bD | apply bA); exact BK202.out)) : b203 ≠ b202)); clear BK201; clear BK202; clear HB; have BK201 := n0_; have BK202 := n1_; have HB := n2_; have BK203 := n3_; have GW203 := n4_; have GE203 := n5_; have N2_ := n6_; have N3_ := n7_; have N4_ := n8_; have N5_ := n9_; clear n0_ n1_ n2_ n3_ n4_ n5_ n6_ n7_ n8_ n9_; clear hb hbox hg; have hnb25 := N0_.out; have hnc25 := N1_.out; have hnb26 := N2_.out; have hnc26 := N3_.out; have hcz27_0 : w24.cell? ⟨b201, 0, none⟩ = some (.int .u32 a0_0) := (bC BK201.out 0).trans rfl; have hcz27_1 : w24.cell? ⟨b201, 1, none⟩ = some (.int .u32 a0_1) := (bC BK201.out 1).trans rfl; have hcz27_2 : w24.cell? ⟨b201, 2, none⟩ = some (.int .i32 a0_2) := (bC BK201.out 2).trans rfl; have hcz27_3 : w24.cell? ⟨b201, 3, none⟩ = some (.int .i32 a0_3) := (bC BK201.out 3).trans rfl; have hcz27_4 : w24.cell? ⟨b201, 4, none⟩ = some (.int .i32 a0_4) := (bC BK201.out 4).trans rfl; have hfz27_0 := bF BK201.out 0; have hfz27_1 := bF BK201.out 1; have hfz27_2 := bF BK201.out 2; have hfz27_3 := bF BK201.out 3; have hfz27_4 := bF BK201.out 4; have hnb28 := N4_.out; have hnc28 := N5_.out; have hcz29_0 : w24.cell? ⟨b202, 0, none⟩ = some (.int .u32 a1_0) := (bC BK202.out 0).trans rfl; have hcz29_1 : w24.cell? ⟨b202, 1, none⟩ = some (.int .i32 a1_1) := (bC BK202.out 1).trans rfl; have hcz29_2 : w24.cell? ⟨b202, 2, none⟩ = some (.int .i32 a1_2) := (bC BK202.out 2).trans rfl; have hcz29_3 : w24.cell? ⟨b202, 3, none⟩ = some (.int .i32 a1_3) := (bC BK202.out 3).trans rfl; have hcz29_4 : w24.cell? ⟨b202, 4, none⟩ = some (.int .i32 a1_4) := (bC BK202.out 4).trans rfl; have hcz29_5 : w24.cell? ⟨b202, 5, none⟩ = some (.int .i32 a1_5) := (bC BK202.out 5).trans rfl; have hcz29_6 : w24.cell? ⟨b202, 6, none⟩ = some (.int .i32 a1_6) := (bC BK202.out 6).trans rfl; have hcz29_7 : w24.cell? ⟨b202, 7, none⟩ = some (.int .i32 a1_7) := (bC BK202.out 7).trans rfl; have hcz29_8 : w24.cell? ⟨b202, 8, none⟩ = some (.int .i32 a1_8) := (bC BK202.out 8).trans rfl; have hcz29_9 : w24.cell? ⟨b202, 9, none⟩ = some (.int .i32 a1_9) := (bC BK202.out 9).trans rfl; have hfz29_0 := bF BK202.out 0; have hfz29_1 := bF BK202.out 1; have hfz29_2 := bF BK202.out 2; have hfz29_3 := bF BK202.out 3; have hfz29_4 := bF BK202.out 4; have hfz29_5 := bF BK202.out 5; have hfz29_6 := bF BK202.out 6; have hfz29_7 := bF BK202.out 7; have hfz29_8 := bF BK202.out 8; have hfz29_9 := bF BK202.out 9; have hcz30_0 : w24.cell? ⟨b203, 0, none⟩ = some (.int .u32 a2_0) := (bC BK203.out 0).trans rfl; have hcz30_1 : w24.cell? ⟨b203, 1, none⟩ = some (.int .i32 a2_1) := (bC BK203.out 1).trans rfl; have hcz30_2 : w24.cell? ⟨b203, 2, none⟩ = some (.int .i32 a2_2) := (bC BK203.out 2).trans rfl; have hcz30_3 : w24.cell? ⟨b203, 3, none⟩ = some (.int .i32 a2_3) := (bC BK203.out 3).trans rfl; have hcz30_4 : w24.cell? ⟨b203, 4, none⟩ = some (.int .i32 a2_4) := (bC BK203.out 4).trans rfl; have hcz30_5 : w24.cell? ⟨b203, 5, none⟩ = some (.int .i32 a2_5) := (bC BK203.out 5).trans rfl; have hcz30_6 : w24.cell? ⟨b203, 6, none⟩ = some (.int .i32 a2_6) := (bC BK203.out 6).trans rfl; have hcz30_7 : w24.cell? ⟨b203, 7, none⟩ = some (.int .i32 a2_7) := (bC BK203.out 7).trans rfl; have hcz30_8 : w24.cell? ⟨b203, 8, none⟩ = some (.int .i32 a2_8) := (bC BK203.out 8).trans rfl; have hcz30_9 : w24.cell? ⟨b203, 9, none⟩ = some (.int .i32 a2_9) := (bC BK203.out 9).trans rfl; have hfz30_0 := bF BK203.out 0; have hfz30_1 := bF BK203.out 1; have hfz30_2 := bF BK203.out 2; have hfz30_3 := bF BK203.out 3; have hfz30_4 := bF BK203.out 4; have hfz30_5 := bF BK203.out 5; have hfz30_6 := bF BK203.out 6; have hfz30_7 := bF BK203.out 7; have hfz30_8 := bF BK203.out 8; have hfz30_9 := bF BK203.out 9) | ((with_reducible refine gate_callee (f := 21) rfl ?_); refine goesL_ (some 23) rfl rfl Try.func21 (by kernel_rfl) rfl #[.int .i64 (wrap64 ((wrap64 ((wrap64 (a0_4)) - 1024)) * 26214)), .int .i64 65536] rfl (by (try simp only [List.map_toArray, List.map_cons, List.map_nil]); first | done | rfl | (simp only [List.length_drop, List.length_take]; rfl)) ?_; (with_reducible refine (billiardref01_Floor.calls (wrap64 ((wrap64 ((wrap64 (a0_4)) - 1024)) * 26214)) 65536 t204 _ A21.out).mono ?_); rintro e w' ⟨rfl, ⟨nd, rfl⟩⟩; refine ⟨_, rfl, ?_⟩))
   go_ret
   exact ⟨by first | rfl | (simp [errW_none, errW_some] <;> rfl) | (simp [*, errW_none, errW_some] <;> rfl), by repeat (first | (with_reducible first | exact HB.out | apply lA | apply lN | apply lD | refine lS ?_ GE201.out | refine lS ?_ GE202.out | refine lS ?_ GE203.out) | exact HB.out)⟩

/-! ### billiardref18_Share: function 13 -/
def billiardref18_Share.f (a0_0 : Int) (a0_1 : Int) (a0_2 : Int) (a0_3 : Int) (a0_4 : Int) (a1_0 : Int) (a1_1 : Int) (a1_2 : Int) (a1_3 : Int) (a1_4 : Int) (a1_5 : Int) (a1_6 : Int) (a1_7 : Int) (a1_8 : Int) (a1_9 : Int) (a2_0 : Int) (a2_1 : Int) (a2_2 : Int) (a2_3 : Int) (a2_4 : Int) (a2_5 : Int) (a2_6 : Int) (a2_7 : Int) (a2_8 : Int) (a2_9 : Int) (a3 : Int) : Option (Int) := (billiardref18_Amount.f a0_0 a0_1 a0_2 a0_3 a0_4 a1_0 a1_1 a1_2 a1_3 a1_4 a1_5 a1_6 a1_7 a1_8 a1_9 a2_0 a2_1 a2_2 a2_3 a2_4 a2_5 a2_6 a2_7 a2_8 a2_9).bind fun t208 => (if t208 = 0 then (some 0) else ((billiardref01_Floor.f (wrap64 (t208 * (wrap64 (a3)))) (wrap64 ((wrap64 (a1_4)) + (wrap64 (a2_4))))).bind fun t209 => (some t209)))
set_option maxHeartbeats 8000000 in
set_option maxRecDepth 100000 in
theorem billiardref18_Share.calls (a0_0 : Int) (a0_1 : Int) (a0_2 : Int) (a0_3 : Int) (a0_4 : Int) (a1_0 : Int) (a1_1 : Int) (a1_2 : Int) (a1_3 : Int) (a1_4 : Int) (a1_5 : Int) (a1_6 : Int) (a1_7 : Int) (a1_8 : Int) (a1_9 : Int) (a2_0 : Int) (a2_1 : Int) (a2_2 : Int) (a2_3 : Int) (a2_4 : Int) (a2_5 : Int) (a2_6 : Int) (a2_7 : Int) (a2_8 : Int) (a2_9 : Int) (a3 : Int) (r : Int) (w : World) (h : billiardref18_Share.f a0_0 a0_1 a0_2 a0_3 a0_4 a1_0 a1_1 a1_2 a1_3 a1_4 a1_5 a1_6 a1_7 a1_8 a1_9 a2_0 a2_1 a2_2 a2_3 a2_4 a2_5 a2_6 a2_7 a2_8 a2_9 a3 = some r) :
  Calls Try.prog 13 #[.agg #[.int .u32 a0_0, .int .u32 a0_1, .int .i32 a0_2, .int .i32 a0_3, .int .i32 a0_4], .agg #[.int .u32 a1_0, .int .i32 a1_1, .int .i32 a1_2, .int .i32 a1_3, .int .i32 a1_4, .int .i32 a1_5, .int .i32 a1_6, .int .i32 a1_7, .int .i32 a1_8, .int .i32 a1_9], .agg #[.int .u32 a2_0, .int .i32 a2_1, .int .i32 a2_2, .int .i32 a2_3, .int .i32 a2_4, .int .i32 a2_5, .int .i32 a2_6, .int .i32 a2_7, .int .i32 a2_8, .int .i32 a2_9], .int .i32 a3] w fun e w' => e = .returned (.int .i64 r) ∧ Below w.heap.size w w' := by
 have hu37 := Try.underlying37
 have hu32 := Try.underlying32
 have HB := aM (Below.refl w.heap.size w)
 have H : ((billiardref18_Amount.f a0_0 a0_1 a0_2 a0_3 a0_4 a1_0 a1_1 a1_2 a1_3 a1_4 a1_5 a1_6 a1_7 a1_8 a1_9 a2_0 a2_1 a2_2 a2_3 a2_4 a2_5 a2_6 a2_7 a2_8 a2_9).bind fun t208 => (if t208 = 0 then (some 0) else ((billiardref01_Floor.f (wrap64 (t208 * (wrap64 (a3)))) (wrap64 ((wrap64 (a1_4)) + (wrap64 (a2_4))))).bind fun t209 => (some t209)))) = some r := h
 clear h
 replace H := Option.bind_eq_some_iff.mp H
 obtain ⟨t208, A50, H⟩ := H
 try dsimp only at H
 have A5 := aM A50
 clear A50
 by_cases c6 : t208 = 0
 ·rw [if_pos c6] at H
  have c6b0 : (t208 == 0) = true := beq_iff_eq.mpr c6
  have c6b1 : (t208 != 0) = false := bne_eq_false_iff_eq.mpr c6
  clear c6
  obtain rfl := Option.some.inj H
  go_enter Try.func13, Try.ntmps13
  go_wp2_with (first | ((with_reducible refine gate_dst (N := 4) rfl ?_); refine box_event ?hg (N := 4) ?hd (cs := #[.int .u32 a0_0, .int .u32 a0_1, .int .i32 a0_2, .int .i32 a0_3, .int .i32 a0_4]) (t := 37) ?hr ?_; (case hd => rfl); (case hg => rfl); (case hr => first | (go_simp; done) | (go_simp; rfl)); intro b205 hg w7 hbox hb; have n0_ := aM (lT (by repeat (first | (with_reducible first | exact HB.out | apply lA | apply lN | apply lD) | exact HB.out)) hb); have n1_ := aM (hbox); have n2_ := aM ((by rw [hg]; exact (lZ (by repeat (first | (with_reducible first | exact HB.out | apply lA | apply lN | apply lD) | exact HB.out))) : w.heap.size ≤ b205)); have n3_ := aM ((by rw [hg]; exact (lZ (by repeat (first | (with_reducible first | exact HB.out | apply lA | apply lN | apply lD) | exact HB.out))) : w.heap.size ≤ b205)); clear HB; have HB := n0_; have BK205 := n1_; have GW205 := n2_; have GE205 := n3_; clear n0_ n1_ n2_ n3_; clear hb hbox hg) | ((with_reducible refine gate_dst (N := 5) rfl ?_); refine box_event ?hg (N := 5) ?hd (cs := #[.int .u32 a1_0, .int .i32 a1_1, .int .i32 a1_2, .int .i32 a1_3, .int .i32 a1_4, .int .i32 a1_5, .int .i32 a1_6, .int .i32 a1_7, .int .i32 a1_8, .int .i32 a1_9]) (t := 32) ?hr ?_; (case hd => rfl); (case hg => rfl); (case hr => first | (go_simp; done) | (go_simp; rfl)); intro b206 hg w8 hbox hb; have n0_ := aM (bB (by (with_reducible repeat first | apply bN | apply bD | apply bA); exact BK205.out) hb); have n1_ := aM (lT (by repeat (first | (with_reducible first | exact HB.out | apply lA | apply lN | apply lD | refine lS ?_ GE205.out) | exact HB.out)) hb); have n2_ := aM (hbox); have n3_ := aM ((by rw [hg]; exact (lZ (by repeat (first | (with_reducible first | exact HB.out | apply lA | apply lN | apply lD | refine lS ?_ GE205.out) | exact HB.out))) : w.heap.size ≤ b206)); have n4_ := aM ((by rw [hg]; exact (lZ (by repeat (first | (with_reducible first | exact HB.out | apply lA | apply lN | apply lD | refine lS ?_ GE205.out) | exact HB.out))) : w.heap.size ≤ b206)); have n5_ := aM ((by rw [hg]; exact Nat.ne_of_lt (bL (g := b205) (by (with_reducible repeat first | apply bN | apply bD | apply bA); exact BK205.out)) : b205 ≠ b206)); have n6_ := aM ((by rw [hg]; exact Nat.ne_of_gt (bL (g := b205) (by (with_reducible repeat first | apply bN | apply bD | apply bA); exact BK205.out)) : b206 ≠ b205)); clear BK205; clear HB; have BK205 := n0_; have HB := n1_; have BK206 := n2_; have GW206 := n3_; have GE206 := n4_; have N6_ := n5_; have N7_ := n6_; clear n0_ n1_ n2_ n3_ n4_ n5_ n6_; clear hb hbox hg) | ((with_reducible refine gate_dst (N := 6) rfl ?_); refine box_event ?hg (N := 6) ?hd (cs := #[.int .u32 a2_0, .int .i32 a2_1, .int .i32 a2_2, .int .i32 a2_3, .int .i32 a2_4, .int .i32 a2_5, .int .i32 a2_6, .int .i32 a2_7, .int .i32 a2_8, .int .i32 a2_9]) (t := 32) ?hr ?_; (case hd => rfl); (case hg => rfl); (case hr => first | (go_simp; done) | (go_simp; rfl)); intro b207 hg w9 hbox hb; have n0_ := aM (bB (by (with_reducible repeat first | apply bN | apply bD | apply bA); exact BK205.out) hb); have n1_ := aM (bB (by (with_reducible repeat first | apply bN | apply bD | apply bA); exact BK206.out) hb); have n2_ := aM (lT (by repeat (first | (with_reducible first | exact HB.out | apply lA | apply lN | apply lD | refine lS ?_ GE205.out | refine lS ?_ GE206.out) | exact HB.out)) hb); have n3_ := aM (hbox); have n4_ := aM ((by rw [hg]; exact (lZ (by repeat (first | (with_reducible first | exact HB.out | apply lA | apply lN | apply lD | refine lS ?_ GE205.out | refine lS ?_ GE206.out) | exact HB.out))) : w.heap.size ≤ b207)); have n5_ := aM ((by rw [hg]; exact (lZ (by repeat (first | (with_reducible first | exact HB.out | apply lA | apply lN | apply lD | refine lS ?_ GE205.out | refine lS ?_ GE206.out) | exact HB.out))) : w.heap.size ≤ b207)); have n6_ := aM ((by rw [hg]; exact Nat.ne_of_lt (bL (g := b205) (by (with_reducible repeat first | apply bN | apply bD | apply bA); exact BK205.out)) : b205 ≠ b207)); have n7_ := aM ((by rw [hg]; exact Nat.ne_of_gt (bL (g := b205) (by (with_reducible repeat first | apply bN | apply bD | apply bA); exact BK205.out)) : b207 ≠ b205)); have n8_ := aM ((by rw [hg]; exact Nat.ne_of_lt (bL (g := b206) (by (with_reducible repeat first | apply bN | apply bD | apply bA); exact BK206.out)) : b206 ≠ b207)); have n9_ := aM ((by rw [hg]; exact Nat.ne_of_gt (bL (g := b206) (by (with_reducible repeat first | apply bN | apply bD | apply bA); exact BK206.out)) : b207 ≠ b206)); clear BK205; clear BK206; clear HB; have BK205 := n0_; have BK206 := n1_; have HB := n2_; have BK207 := n3_; have GW207 := n4_; have GE207 := n5_; have N8_ := n6_; have N9_ := n7_; have N10_ := n8_; have N11_ := n9_; clear n0_ n1_ n2_ n3_ n4_ n5_ n6_ n7_ n8_ n9_; clear hb hbox hg; have hnb10 := N6_.out; have hnc10 := N7_.out; have hnb11 := N8_.out; have hnc11 := N9_.out; have hcz12_0 : w9.cell? ⟨b205, 0, none⟩ = some (.int .u32 a0_0) := (bC BK205.out 0).trans rfl; have hcz12_1 : w9.cell? ⟨b205, 1, none⟩ = some (.int .u32 a0_1) := (bC BK205.out 1).trans rfl; have hcz12_2 : w9.cell? ⟨b205, 2, none⟩ = some (.int .i32 a0_2) := (bC BK205.out 2).trans rfl; have hcz12_3 : w9.cell? ⟨b205, 3, none⟩ = some (.int .i32 a0_3) := (bC BK205.out 3).trans rfl; have hcz12_4 : w9.cell? ⟨b205, 4, none⟩ = some (.int .i32 a0_4) := (bC BK205.out 4).trans rfl; have hfz12_0 := bF BK205.out 0; have hfz12_1 := bF BK205.out 1; have hfz12_2 := bF BK205.out 2; have hfz12_3 := bF BK205.out 3; have hfz12_4 := bF BK205.out 4; have hnb13 := N10_.out; have hnc13 := N11_.out; have hcz14_0 : w9.cell? ⟨b206, 0, none⟩ = some (.int .u32 a1_0) := (bC BK206.out 0).trans rfl; have hcz14_1 : w9.cell? ⟨b206, 1, none⟩ = some (.int .i32 a1_1) := (bC BK206.out 1).trans rfl; have hcz14_2 : w9.cell? ⟨b206, 2, none⟩ = some (.int .i32 a1_2) := (bC BK206.out 2).trans rfl; have hcz14_3 : w9.cell? ⟨b206, 3, none⟩ = some (.int .i32 a1_3) := (bC BK206.out 3).trans rfl; have hcz14_4 : w9.cell? ⟨b206, 4, none⟩ = some (.int .i32 a1_4) := (bC BK206.out 4).trans rfl; have hcz14_5 : w9.cell? ⟨b206, 5, none⟩ = some (.int .i32 a1_5) := (bC BK206.out 5).trans rfl; have hcz14_6 : w9.cell? ⟨b206, 6, none⟩ = some (.int .i32 a1_6) := (bC BK206.out 6).trans rfl; have hcz14_7 : w9.cell? ⟨b206, 7, none⟩ = some (.int .i32 a1_7) := (bC BK206.out 7).trans rfl; have hcz14_8 : w9.cell? ⟨b206, 8, none⟩ = some (.int .i32 a1_8) := (bC BK206.out 8).trans rfl; have hcz14_9 : w9.cell? ⟨b206, 9, none⟩ = some (.int .i32 a1_9) := (bC BK206.out 9).trans rfl; have hfz14_0 := bF BK206.out 0; have hfz14_1 := bF BK206.out 1; have hfz14_2 := bF BK206.out 2; have hfz14_3 := bF BK206.out 3; have hfz14_4 := bF BK206.out 4; have hfz14_5 := bF BK206.out 5; have hfz14_6 := bF BK206.out 6; have hfz14_7 := bF BK206.out 7; have hfz14_8 := bF BK206.out 8; have hfz14_9 := bF BK206.out 9; have hcz15_0 : w9.cell? ⟨b207, 0, none⟩ = some (.int .u32 a2_0) := (bC BK207.out 0).trans rfl; have hcz15_1 : w9.cell? ⟨b207, 1, none⟩ = some (.int .i32 a2_1) := (bC BK207.out 1).trans rfl; have hcz15_2 : w9.cell? ⟨b207, 2, none⟩ = some (.int .i32 a2_2) := (bC BK207.out 2).trans rfl; have hcz15_3 : w9.cell? ⟨b207, 3, none⟩ = some (.int .i32 a2_3) := (bC BK207.out 3).trans rfl; have hcz15_4 : w9.cell? ⟨b207, 4, none⟩ = some (.int .i32 a2_4) := (bC BK207.out 4).trans rfl; have hcz15_5 : w9.cell? ⟨b207, 5, none⟩ = some (.int .i32 a2_5) := (bC BK207.out 5).trans rfl; have hcz15_6 : w9.cell? ⟨b207, 6, none⟩ = some (.int .i32 a2_6) := (bC BK207.out 6).trans rfl; have hcz15_7 : w9.cell? ⟨b207, 7, none⟩ = some (.int .i32 a2_7) := (bC BK207.out 7).trans rfl; have hcz15_8 : w9.cell? ⟨b207, 8, none⟩ = some (.int .i32 a2_8) := (bC BK207.out 8).trans rfl; have hcz15_9 : w9.cell? ⟨b207, 9, none⟩ = some (.int .i32 a2_9) := (bC BK207.out 9).trans rfl; have hfz15_0 := bF BK207.out 0; have hfz15_1 := bF BK207.out 1; have hfz15_2 := bF BK207.out 2; have hfz15_3 := bF BK207.out 3; have hfz15_4 := bF BK207.out 4; have hfz15_5 := bF BK207.out 5; have hfz15_6 := bF BK207.out 6; have hfz15_7 := bF BK207.out 7; have hfz15_8 := bF BK207.out 8; have hfz15_9 := bF BK207.out 9) | ((with_reducible refine gate_callee (f := 11) rfl ?_); refine goesL_ (some 13) rfl rfl Try.func11 (by kernel_rfl) rfl #[.agg #[.int .u32 a0_0, .int .u32 a0_1, .int .i32 a0_2, .int .i32 a0_3, .int .i32 a0_4], .agg #[.int .u32 a1_0, .int .i32 a1_1, .int .i32 a1_2, .int .i32 a1_3, .int .i32 a1_4, .int .i32 a1_5, .int .i32 a1_6, .int .i32 a1_7, .int .i32 a1_8, .int .i32 a1_9], .agg #[.int .u32 a2_0, .int .i32 a2_1, .int .i32 a2_2, .int .i32 a2_3, .int .i32 a2_4, .int .i32 a2_5, .int .i32 a2_6, .int .i32 a2_7, .int .i32 a2_8, .int .i32 a2_9]] rfl (by (try simp only [List.map_toArray, List.map_cons, List.map_nil]); first | done | rfl | (simp only [List.length_drop, List.length_take]; rfl)) ?_; (with_reducible refine (billiardref18_Amount.calls a0_0 a0_1 a0_2 a0_3 a0_4 a1_0 a1_1 a1_2 a1_3 a1_4 a1_5 a1_6 a1_7 a1_8 a1_9 a2_0 a2_1 a2_2 a2_3 a2_4 a2_5 a2_6 a2_7 a2_8 a2_9 t208 _ A5.out).mono ?_); rintro e w16 ⟨rfl, hb⟩; refine ⟨_, rfl, ?_⟩; have n_ := kB3 BK205 BK206 BK207 HB (by repeat first | exact lR _ _ | apply lN | apply lD | apply lA) hb; clear BK205 BK206 BK207 HB; obtain ⟨BK205, BK206, BK207, HB⟩ := n_; (try clear hb); (try clear hb2); (try clear hk); (try clear hi)))
  go_ret
  exact ⟨by first | rfl | (simp [errW_none, errW_some] <;> rfl) | (simp [*, errW_none, errW_some] <;> rfl), by repeat (first | (with_reducible first | exact HB.out | apply lA | apply lN | apply lD | refine lS ?_ GE205.out | refine lS ?_ GE206.out | refine lS ?_ GE207.out) | exact HB.out)⟩
 ·rw [if_neg c6] at H
  have c6b0 : (t208 == 0) = false := beq_eq_false_iff_ne.mpr c6
  have c6b1 : (t208 != 0) = true := bne_iff_ne.mpr c6
  replace H := Option.bind_eq_some_iff.mp H
  obtain ⟨t209, A170, H⟩ := H
  try dsimp only at H
  have A17 := aM A170
  clear A170
  obtain rfl := Option.some.inj H
  go_enter Try.func13, Try.ntmps13
  go_wp2_with (first | ((with_reducible refine gate_dst (N := 4) rfl ?_); refine box_event ?hg (N := 4) ?hd (cs := #[.int .u32 a0_0, .int .u32 a0_1, .int .i32 a0_2, .int .i32 a0_3, .int .i32 a0_4]) (t := 37) ?hr ?_; (case hd => rfl); (case hg => rfl); (case hr => first | (go_simp; done) | (go_simp; rfl)); intro b205 hg w18 hbox hb; have n0_ := aM (lT (by repeat (first | (with_reducible first | exact HB.out | apply lA | apply lN | apply lD) | exact HB.out)) hb); have n1_ := aM (hbox); have n2_ := aM ((by rw [hg]; exact (lZ (by repeat (first | (with_reducible first | exact HB.out | apply lA | apply lN | apply lD) | exact HB.out))) : w.heap.size ≤ b205)); have n3_ := aM ((by rw [hg]; exact (lZ (by repeat (first | (with_reducible first | exact HB.out | apply lA | apply lN | apply lD) | exact HB.out))) : w.heap.size ≤ b205)); clear HB; have HB := n0_; have BK205 := n1_; have GW205 := n2_; have GE205 := n3_; clear n0_ n1_ n2_ n3_; clear hb hbox hg) | ((with_reducible refine gate_dst (N := 5) rfl ?_); refine box_event ?hg (N := 5) ?hd (cs := #[.int .u32 a1_0, .int .i32 a1_1, .int .i32 a1_2, .int .i32 a1_3, .int .i32 a1_4, .int .i32 a1_5, .int .i32 a1_6, .int .i32 a1_7, .int .i32 a1_8, .int .i32 a1_9]) (t := 32) ?hr ?_; (case hd => rfl); (case hg => rfl); (case hr => first | (go_simp; done) | (go_simp; rfl)); intro b206 hg w19 hbox hb; have n0_ := aM (bB (by (with_reducible repeat first | apply bN | apply bD | apply bA); exact BK205.out) hb); have n1_ := aM (lT (by repeat (first | (with_reducible first | exact HB.out | apply lA | apply lN | apply lD | refine lS ?_ GE205.out) | exact HB.out)) hb); have n2_ := aM (hbox); have n3_ := aM ((by rw [hg]; exact (lZ (by repeat (first | (with_reducible first | exact HB.out | apply lA | apply lN | apply lD | refine lS ?_ GE205.out) | exact HB.out))) : w.heap.size ≤ b206)); have n4_ := aM ((by rw [hg]; exact (lZ (by repeat (first | (with_reducible first | exact HB.out | apply lA | apply lN | apply lD | refine lS ?_ GE205.out) | exact HB.out))) : w.heap.size ≤ b206)); have n5_ := aM ((by rw [hg]; exact Nat.ne_of_lt (bL (g := b205) (by (with_reducible repeat first | apply bN | apply bD | apply bA); exact BK205.out)) : b205 ≠ b206)); have n6_ := aM ((by rw [hg]; exact Nat.ne_of_gt (bL (g := b205) (by (with_reducible repeat first | apply bN | apply bD | apply bA); exact BK205.out)) : b206 ≠ b205)); clear BK205; clear HB; have BK205 := n0_; have HB := n1_; have BK206 := n2_; have GW206 := n3_; have GE206 := n4_; have N6_ := n5_; have N7_ := n6_; clear n0_ n1_ n2_ n3_ n4_ n5_ n6_; clear hb hbox hg) | ((with_reducible refine gate_dst (N := 6) rfl ?_); refine box_event ?hg (N := 6) ?hd (cs := #[.int .u32 a2_0, .int .i32 a2_1, .int .i32 a2_2, .int .i32 a2_3, .int .i32 a2_4, .int .i32 a2_5, .int .i32 a2_6, .int .i32 a2_7, .int .i32 a2_8, .int .i32 a2_9]) (t := 32) ?hr ?_; (case hd => rfl); (case hg => rfl); (case hr => first | (go_simp; done) | (go_simp; rfl)); intro b207 hg w20 hbox hb; have n0_ := aM (bB (by (with_reducible repeat first | apply bN | apply bD | apply bA); exact BK205.out) hb); have n1_ := aM (bB (by (with_reducible repeat first | apply bN | apply bD | apply bA); exact BK206.out) hb); have n2_ := aM (lT (by repeat (first | (with_reducible first | exact HB.out | apply lA | apply lN | apply lD | refine lS ?_ GE205.out | refine lS ?_ GE206.out) | exact HB.out)) hb); have n3_ := aM (hbox); have n4_ := aM ((by rw [hg]; exact (lZ (by repeat (first | (with_reducible first | exact HB.out | apply lA | apply lN | apply lD | refine lS ?_ GE205.out | refine lS ?_ GE206.out) | exact HB.out))) : w.heap.size ≤ b207)); have n5_ := aM ((by rw [hg]; exact (lZ (by repeat (first | (with_reducible first | exact HB.out | apply lA | apply lN | apply lD | refine lS ?_ GE205.out | refine lS ?_ GE206.out) | exact HB.out))) : w.heap.size ≤ b207)); have n6_ := aM ((by rw [hg]; exact Nat.ne_of_lt (bL (g := b205) (by (with_reducible repeat first | apply bN | apply bD | apply bA); exact BK205.out)) : b205 ≠ b207)); have n7_ := aM ((by rw [hg]; exact Nat.ne_of_gt (bL (g := b205) (by (with_reducible repeat first | apply bN | apply bD | apply bA); exact BK205.out)) : b207 ≠ b205)); have n8_ := aM ((by rw [hg]; exact Nat.ne_of_lt (bL (g := b206) (by (with_reducible repeat first | apply bN | apply bD | apply bA); exact BK206.out)) : b206 ≠ b207)); have n9_ := aM ((by rw [hg]; exact Nat.ne_of_gt (bL (g := b206) (by (with_reducible repeat first | apply bN | apply bD | apply bA); exact BK206.out)) : b207 ≠ b206)); clear BK205; clear BK206; clear HB; have BK205 := n0_; have BK206 := n1_; have HB := n2_; have BK207 := n3_; have GW207 := n4_; have GE207 := n5_; have N8_ := n6_; have N9_ := n7_; have N10_ := n8_; have N11_ := n9_; clear n0_ n1_ n2_ n3_ n4_ n5_ n6_ n7_ n8_ n9_; clear hb hbox hg; have hnb21 := N6_.out; have hnc21 := N7_.out; have hnb22 := N8_.out; have hnc22 := N9_.out; have hcz23_0 : w20.cell? ⟨b205, 0, none⟩ = some (.int .u32 a0_0) := (bC BK205.out 0).trans rfl; have hcz23_1 : w20.cell? ⟨b205, 1, none⟩ = some (.int .u32 a0_1) := (bC BK205.out 1).trans rfl; have hcz23_2 : w20.cell? ⟨b205, 2, none⟩ = some (.int .i32 a0_2) := (bC BK205.out 2).trans rfl; have hcz23_3 : w20.cell? ⟨b205, 3, none⟩ = some (.int .i32 a0_3) := (bC BK205.out 3).trans rfl; have hcz23_4 : w20.cell? ⟨b205, 4, none⟩ = some (.int .i32 a0_4) := (bC BK205.out 4).trans rfl; have hfz23_0 := bF BK205.out 0; have hfz23_1 := bF BK205.out 1; have hfz23_2 := bF BK205.out 2; have hfz23_3 := bF BK205.out 3; have hfz23_4 := bF BK205.out 4; have hnb24 := N10_.out; have hnc24 := N11_.out; have hcz25_0 : w20.cell? ⟨b206, 0, none⟩ = some (.int .u32 a1_0) := (bC BK206.out 0).trans rfl; have hcz25_1 : w20.cell? ⟨b206, 1, none⟩ = some (.int .i32 a1_1) := (bC BK206.out 1).trans rfl; have hcz25_2 : w20.cell? ⟨b206, 2, none⟩ = some (.int .i32 a1_2) := (bC BK206.out 2).trans rfl; have hcz25_3 : w20.cell? ⟨b206, 3, none⟩ = some (.int .i32 a1_3) := (bC BK206.out 3).trans rfl; have hcz25_4 : w20.cell? ⟨b206, 4, none⟩ = some (.int .i32 a1_4) := (bC BK206.out 4).trans rfl; have hcz25_5 : w20.cell? ⟨b206, 5, none⟩ = some (.int .i32 a1_5) := (bC BK206.out 5).trans rfl; have hcz25_6 : w20.cell? ⟨b206, 6, none⟩ = some (.int .i32 a1_6) := (bC BK206.out 6).trans rfl; have hcz25_7 : w20.cell? ⟨b206, 7, none⟩ = some (.int .i32 a1_7) := (bC BK206.out 7).trans rfl; have hcz25_8 : w20.cell? ⟨b206, 8, none⟩ = some (.int .i32 a1_8) := (bC BK206.out 8).trans rfl; have hcz25_9 : w20.cell? ⟨b206, 9, none⟩ = some (.int .i32 a1_9) := (bC BK206.out 9).trans rfl; have hfz25_0 := bF BK206.out 0; have hfz25_1 := bF BK206.out 1; have hfz25_2 := bF BK206.out 2; have hfz25_3 := bF BK206.out 3; have hfz25_4 := bF BK206.out 4; have hfz25_5 := bF BK206.out 5; have hfz25_6 := bF BK206.out 6; have hfz25_7 := bF BK206.out 7; have hfz25_8 := bF BK206.out 8; have hfz25_9 := bF BK206.out 9; have hcz26_0 : w20.cell? ⟨b207, 0, none⟩ = some (.int .u32 a2_0) := (bC BK207.out 0).trans rfl; have hcz26_1 : w20.cell? ⟨b207, 1, none⟩ = some (.int .i32 a2_1) := (bC BK207.out 1).trans rfl; have hcz26_2 : w20.cell? ⟨b207, 2, none⟩ = some (.int .i32 a2_2) := (bC BK207.out 2).trans rfl; have hcz26_3 : w20.cell? ⟨b207, 3, none⟩ = some (.int .i32 a2_3) := (bC BK207.out 3).trans rfl; have hcz26_4 : w20.cell? ⟨b207, 4, none⟩ = some (.int .i32 a2_4) := (bC BK207.out 4).trans rfl; have hcz26_5 : w20.cell? ⟨b207, 5, none⟩ = some (.int .i32 a2_5) := (bC BK207.out 5).trans rfl; have hcz26_6 : w20.cell? ⟨b207, 6, none⟩ = some (.int .i32 a2_6) := (bC BK207.out 6).trans rfl; have hcz26_7 : w20.cell? ⟨b207, 7, none⟩ = some (.int .i32 a2_7) := (bC BK207.out 7).trans rfl; have hcz26_8 : w20.cell? ⟨b207, 8, none⟩ = some (.int .i32 a2_8) := (bC BK207.out 8).trans rfl; have hcz26_9 : w20.cell? ⟨b207, 9, none⟩ = some (.int .i32 a2_9) := (bC BK207.out 9).trans rfl; have hfz26_0 := bF BK207.out 0; have hfz26_1 := bF BK207.out 1; have hfz26_2 := bF BK207.out 2; have hfz26_3 := bF BK207.out 3; have hfz26_4 := bF BK207.out 4; have hfz26_5 := bF BK207.out 5; have hfz26_6 := bF BK207.out 6; have hfz26_7 := bF BK207.out 7; have hfz26_8 := bF BK207.out 8; have hfz26_9 := bF BK207.out 9) | ((with_reducible refine gate_callee (f := 11) rfl ?_); refine goesL_ (some 13) rfl rfl Try.func11 (by kernel_rfl) rfl #[.agg #[.int .u32 a0_0, .int .u32 a0_1, .int .i32 a0_2, .int .i32 a0_3, .int .i32 a0_4], .agg #[.int .u32 a1_0, .int .i32 a1_1, .int .i32 a1_2, .int .i32 a1_3, .int .i32 a1_4, .int .i32 a1_5, .int .i32 a1_6, .int .i32 a1_7, .int .i32 a1_8, .int .i32 a1_9], .agg #[.int .u32 a2_0, .int .i32 a2_1, .int .i32 a2_2, .int .i32 a2_3, .int .i32 a2_4, .int .i32 a2_5, .int .i32 a2_6, .int .i32 a2_7, .int .i32 a2_8, .int .i32 a2_9]] rfl (by (try simp only [List.map_toArray, List.map_cons, List.map_nil]); first | done | rfl | (simp only [List.length_drop, List.length_take]; rfl)) ?_; (with_reducible refine (billiardref18_Amount.calls a0_0 a0_1 a0_2 a0_3 a0_4 a1_0 a1_1 a1_2 a1_3 a1_4 a1_5 a1_6 a1_7 a1_8 a1_9 a2_0 a2_1 a2_2 a2_3 a2_4 a2_5 a2_6 a2_7 a2_8 a2_9 t208 _ A5.out).mono ?_); rintro e w27 ⟨rfl, hb⟩; refine ⟨_, rfl, ?_⟩; have n_ := kB3 BK205 BK206 BK207 HB (by repeat first | exact lR _ _ | apply lN | apply lD | apply lA) hb; clear BK205 BK206 BK207 HB; obtain ⟨BK205, BK206, BK207, HB⟩ := n_; (try clear hb); (try clear hb2); (try clear hk); (try clear hi); have hcz28_0 : w27.cell? ⟨b206, 0, none⟩ = some (.int .u32 a1_0) := (bC BK206.out 0).trans rfl; have hcz28_1 : w27.cell? ⟨b206, 1, none⟩ = some (.int .i32 a1_1) := (bC BK206.out 1).trans rfl; have hcz28_2 : w27.cell? ⟨b206, 2, none⟩ = some (.int .i32 a1_2) := (bC BK206.out 2).trans rfl; have hcz28_3 : w27.cell? ⟨b206, 3, none⟩ = some (.int .i32 a1_3) := (bC BK206.out 3).trans rfl; have hcz28_4 : w27.cell? ⟨b206, 4, none⟩ = some (.int .i32 a1_4) := (bC BK206.out 4).trans rfl; have hcz28_5 : w27.cell? ⟨b206, 5, none⟩ = some (.int .i32 a1_5) := (bC BK206.out 5).trans rfl; have hcz28_6 : w27.cell? ⟨b206, 6, none⟩ = some (.int .i32 a1_6) := (bC BK206.out 6).trans rfl; have hcz28_7 : w27.cell? ⟨b206, 7, none⟩ = some (.int .i32 a1_7) := (bC BK206.out 7).trans rfl; have hcz28_8 : w27.cell? ⟨b206, 8, none⟩ = some (.int .i32 a1_8) := (bC BK206.out 8).trans rfl; have hcz28_9 : w27.cell? ⟨b206, 9, none⟩ = some (.int .i32 a1_9) := (bC BK206.out 9).trans rfl; have hfz28_0 := bF BK206.out 0; have hfz28_1 := bF BK206.out 1; have hfz28_2 := bF BK206.out 2; have hfz28_3 := bF BK206.out 3; have hfz28_4 := bF BK206.out 4; have hfz28_5 := bF BK206.out 5; have hfz28_6 := bF BK206.out 6; have hfz28_7 := bF BK206.out 7; have hfz28_8 := bF BK206.out 8; have hfz28_9 := bF BK206.out 9; have hcz29_0 : w27.cell? ⟨b207, 0, none⟩ = some (.int .u32 a2_0) := (bC BK207.out 0).trans rfl; have hcz29_1 : w27.cell? ⟨b207, 1, none⟩ = some (.int .i32 a2_1) := (bC BK207.out 1).trans rfl; have hcz29_2 : w27.cell? ⟨b207, 2, none⟩ = some (.int .i32 a2_2) := (bC BK207.out 2).trans rfl; have hcz29_3 : w27.cell? ⟨b207, 3, none⟩ = some (.int .i32 a2_3) := (bC BK207.out 3).trans rfl; have hcz29_4 : w27.cell? ⟨b207, 4, none⟩ = some (.int .i32 a2_4) := (bC BK207.out 4).trans rfl; have hcz29_5 : w27.cell? ⟨b207, 5, none⟩ = some (.int .i32 a2_5) := (bC BK207.out 5).trans rfl; have hcz29_6 : w27.cell? ⟨b207, 6, none⟩ = some (.int .i32 a2_6) := (bC BK207.out 6).trans rfl; have hcz29_7 : w27.cell? ⟨b207, 7, none⟩ = some (.int .i32 a2_7) := (bC BK207.out 7).trans rfl; have hcz29_8 : w27.cell? ⟨b207, 8, none⟩ = some (.int .i32 a2_8) := (bC BK207.out 8).trans rfl; have hcz29_9 : w27.cell? ⟨b207, 9, none⟩ = some (.int .i32 a2_9) := (bC BK207.out 9).trans rfl; have hfz29_0 := bF BK207.out 0; have hfz29_1 := bF BK207.out 1; have hfz29_2 := bF BK207.out 2; have hfz29_3 := bF BK207.out 3; have hfz29_4 := bF BK207.out 4; have hfz29_5 := bF BK207.out 5; have hfz29_6 := bF BK207.out 6; have hfz29_7 := bF BK207.out 7; have hfz29_8 := bF BK207.out 8; have hfz29_9 := bF BK207.out 9) | ((with_reducible refine gate_callee (f := 21) rfl ?_); refine goesL_ (some 27) rfl rfl Try.func21 (by kernel_rfl) rfl #[.int .i64 (wrap64 (t208 * (wrap64 (a3)))), .int .i64 (wrap64 ((wrap64 (a1_4)) + (wrap64 (a2_4))))] rfl (by (try simp only [List.map_toArray, List.map_cons, List.map_nil]); first | done | rfl | (simp only [List.length_drop, List.length_take]; rfl)) ?_; (with_reducible refine (billiardref01_Floor.calls (wrap64 (t208 * (wrap64 (a3)))) (wrap64 ((wrap64 (a1_4)) + (wrap64 (a2_4)))) t209 _ A17.out).mono ?_); rintro e w' ⟨rfl, ⟨nd, rfl⟩⟩; refine ⟨_, rfl, ?_⟩))
  go_ret
  exact ⟨by first | rfl | (simp [errW_none, errW_some] <;> rfl) | (simp [*, errW_none, errW_some] <;> rfl), by repeat (first | (with_reducible first | exact HB.out | apply lA | apply lN | apply lD | refine lS ?_ GE205.out | refine lS ?_ GE206.out | refine lS ?_ GE207.out) | exact HB.out)⟩

end Go.Proofs.Ytplmeknmeobanaa.Q
