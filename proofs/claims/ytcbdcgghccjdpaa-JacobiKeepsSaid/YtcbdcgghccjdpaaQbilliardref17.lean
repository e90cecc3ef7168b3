-- PRINTED by print.py (a twelfth state) out of the translation. Not trusted: Lean checks it.
import Derived.Test.YtcbdcgghccjdpaaQ0
import Derived.Test.YtcbdcgghccjdpaaMspec
import Derived.Test.YtcbdcgghccjdpaaQbilliardref06
namespace Go.Proofs.Ytcbdcgghccjdpaa.Q
open Go.RowKit Go.Proofs.YtcbdcgghccjdpaaW.PrintWords Go.Proofs.YtcbdcgghccjdpaaW.PrintLast Go.Proofs.YtcbdcgghccjdpaaW.PrintMore
open Go.Proofs.YtcbdcgghccjdpaaW.PrintWords renaming blk_drewN → bN, blk_drew → bD, blk_alloc → bA, blk_cell → bC, blk_frozen → bF, blk_put → bP, below_alloc → lA, pw_below_drewN → lN, below_drew1 → lD, below_set → lS, below_step → lT, below_size → lZ, Aside0.mk → aM
open List renaming setIfInBounds_toArray → sA, set_cons_zero → sB, set_cons_succ → sC
open Bool renaming true → T, false → F
attribute [local go_sem] max2_int min2_int max_two min_two max_three min_three max_four min_four   -- for this text's walks alone
set_option linter.unusedVariables false
set_option linter.unusedSimpArgs false

/-! ### billiardref17_Numbers: function 16 -/
def billiardref17_Numbers.l0 : Nat → List Int → List Int → Int → Option (Bool)
 | 0, _, _, _ => none
 | k + 1, x0, x1, x5 => if x5 < (x0.length : Int) then (if 0 ≤ x5 then (if x5 < (x1.length : Int) then (if (rd x0 x5) = (rd x1 x5) then (billiardref17_Numbers.l0 k x0 x1 (wrap64 (x5 + 1))) else (some false)) else (none)) else (none)) else (some true)
def billiardref17_Numbers.f (k : Nat) (l0 : List Int) (l1 : List Int) : Option (Bool) := if (l0.length : Int) = (l1.length : Int) then (billiardref17_Numbers.l0 k l0 l1 0) else (some false)
theorem billiardref17_Numbers.mono_l : ∀ k, (∀ y0 y1 y2, LeO (billiardref17_Numbers.l0 k y0 y1 y2) (billiardref17_Numbers.l0 (k + 1) y0 y1 y2))
 | 0 => fun _ _ _ r h => by simp [billiardref17_Numbers.l0] at h
 | k + 1 => by
  have ih0 := billiardref17_Numbers.mono_l k
  ·intro y0 y1 y2
   unfold billiardref17_Numbers.l0
   repeat' first
   | (with_reducible exact ih0 _ _ _)
   | (with_reducible exact LeO.refl _)
   | (with_reducible exact LeO.none _)
   | (with_reducible refine LeO.ite ?_ ?_)
   | (with_reducible refine LeO.bind ?_ (fun _ => ?_))
   | exact ih0 _ _ _
   | exact LeO.none _
   | refine LeO.ite ?_ ?_
   | refine LeO.bind ?_ (fun _ => ?_)
theorem billiardref17_Numbers.mono : ∀ a0 a1 k, LeO (billiardref17_Numbers.f k a0 a1) (billiardref17_Numbers.f (k + 1) a0 a1) := by
 intro a0 a1 k
 have ih0 := billiardref17_Numbers.mono_l k
 unfold billiardref17_Numbers.f
 repeat' first
   | (with_reducible exact ih0 _ _ _)
   | (with_reducible exact LeO.refl _)
   | (with_reducible exact LeO.none _)
   | (with_reducible refine LeO.ite ?_ ?_)
   | (with_reducible refine LeO.bind ?_ (fun _ => ?_))
   | exact ih0 _ _ _
   | exact LeO.none _
   | refine LeO.ite ?_ ?_
   | refine LeO.bind ?_ (fun _ => ?_)
set_option maxHeartbeats 8000000 in
set_option maxRecDepth 100000 in
theorem billiardref17_Numbers.calls (k : Nat) (A0 : Option Addr) (c0 : Nat) (l0 : List Int) (A1 : Option Addr) (c1 : Nat) (l1 : List Int) (r : Bool) (w : World) (hr0 : Kd.C (Kd.int .i64) w A0 l0.length l0) (hc0 : l0.length ≤ c0) (hr1 : Kd.C (Kd.int .i64) w A1 l1.length l1) (hc1 : l1.length ≤ c1) (h : billiardref17_Numbers.f k l0 l1 = some r) :
  Calls Try.prog 16 #[.slice A0 l0.length c0, .slice A1 l1.length c1] w fun e w' => e = .returned (.bool r) ∧ Drawn0 w w' := by
 have HR0 := aM hr0
 have HC0 := aM hc0
 clear hr0 hc0
 have HR1 := aM hr1
 have HC1 := aM hc1
 clear hr1 hc1
 have H : (if (l0.length : Int) = (l1.length : Int) then (billiardref17_Numbers.l0 k l0 l1 0) else (some false)) = some r := h
 clear h
 by_cases c3 : (l0.length : Int) = (l1.length : Int)
 ·rw [if_pos c3] at H
  have c3b0 : ((l0.length : Int) == (l1.length : Int)) = true := beq_iff_eq.mpr c3
  have c3b1 : ((l0.length : Int) != (l1.length : Int)) = false := bne_eq_false_iff_eq.mpr c3
  have c3b2 : (l0.length == l1.length) = true := by first | simpa using c3 | (simp at c3 ⊢; omega)
  clear c3
  have H' := aM H
  clear H
  go_enter Try.func16, Try.ntmps16
  go_wp2
  repeat (go_quiet (fail); try go_wp2)
  go_loopg [5] k (fun kq v5 w' => ∃ (x5_1 : Int), v5 = .int .i64 x5_1 ∧ Aside0 (billiardref17_Numbers.l0 kq l0 l1 x5_1 = some r) ∧ Aside0 (kq ≤ k) ∧ Drawn0 w w')
  case atStart => exact ⟨(0), (by first | rfl | (simp; done) | (simp [*]; done)), H', ⟨Nat.le_refl _⟩, by repeat (first | exact Drawn0.refl _ | apply Drawn0.step)⟩
  case round =>
   clear H'
   try clear c1
   try clear p2
   try clear c3
   try clear c3b0
   try clear c3b1
   try clear c3b2
   obtain ⟨x5_1, rfl, HA, HK1, ⟨m1, rfl⟩⟩ := hrel
   cases gk with
   | zero => exact absurd HA.out (by simp [billiardref17_Numbers.l0])
   | succ k1 =>
    have H := HA.out
    clear HA
    simp only [billiardref17_Numbers.l0] at H
    by_cases c4 : x5_1 < (l0.length : Int)
    ·rw [if_pos c4] at H
     have c4b0 : decide (x5_1 < (l0.length : Int)) = true := decide_eq_true c4
     clear c4
     by_cases c5 : 0 ≤ x5_1
     ·rw [if_pos c5] at H
      have c5b0 : decide (0 ≤ x5_1) = true := decide_eq_true c5
      clear c5
      by_cases c6 : x5_1 < (l1.length : Int)
      ·rw [if_pos c6] at H
       have c6b0 : decide (x5_1 < (l1.length : Int)) = true := decide_eq_true c6
       clear c6
       by_cases c7 : (rd l0 x5_1) = (rd l1 x5_1)
       ·rw [if_pos c7] at H
        have c7b0 : ((rd l0 x5_1) == (rd l1 x5_1)) = true := beq_iff_eq.mpr c7
        have c7b1 : ((rd l0 x5_1) != (rd l1 x5_1)) = false := bne_eq_false_iff_eq.mpr c7
        clear c7
        have H' := aM H
        clear H
        have p191 : 0 ≤ (x5_1 : Int) := of_decide_eq_true (by first | (with_reducible assumption) | assumption)
        have q191 : x5_1 < (l0.length : Int) := of_decide_eq_true (by first | (with_reducible assumption) | assumption)
        obtain ⟨ad191, e191, hx191_0⟩ := Kd.at_int HR0.out x5_1 p191 q191
        cases e191
        replace p191 := eq_true p191
        replace q191 := eq_true q191
        have p192 : 0 ≤ (x5_1 : Int) := of_decide_eq_true (by first | (with_reducible assumption) | assumption)
        have q192 : x5_1 < (l1.length : Int) := of_decide_eq_true (by first | (with_reducible assumption) | assumption)
        obtain ⟨ad192, e192, hx192_0⟩ := Kd.at_int HR1.out x5_1 p192 q192
        cases e192
        replace p192 := eq_true p192
        replace q192 := eq_true q192
        go_wp2
        repeat (go_quiet (fail); try go_wp2)
        go_roundg k1
        case measure => have := HK1.out; omega
        case rel => exact ⟨(wrap64 (x5_1 + 1)), (by first | rfl | (simp; done) | (simp [*]; done)), H', ⟨by have := HK1.out; omega⟩, by repeat (first | exact Drawn0.refl _ | apply Drawn0.step)⟩
       ·rw [if_neg c7] at H
        have c7b0 : ((rd l0 x5_1) == (rd l1 x5_1)) = false := beq_eq_false_iff_ne.mpr c7
        have c7b1 : ((rd l0 x5_1) != (rd l1 x5_1)) = true := bne_iff_ne.mpr c7
        obtain rfl := Option.some.inj H
        have p191 : 0 ≤ (x5_1 : Int) := of_decide_eq_true (by first | (with_reducible assumption) | assumption)
        have q191 : x5_1 < (l0.length : Int) := of_decide_eq_true (by first | (with_reducible assumption) | assumption)
        obtain ⟨ad191, e191, hx191_0⟩ := Kd.at_int HR0.out x5_1 p191 q191
        cases e191
        replace p191 := eq_true p191
        replace q191 := eq_true q191
        have p192 : 0 ≤ (x5_1 : Int) := of_decide_eq_true (by first | (with_reducible assumption) | assumption)
        have q192 : x5_1 < (l1.length : Int) := of_decide_eq_true (by first | (with_reducible assumption) | assumption)
        obtain ⟨ad192, e192, hx192_0⟩ := Kd.at_int HR1.out x5_1 p192 q192
        cases e192
        replace p192 := eq_true p192
        replace q192 := eq_true q192
        go_wp2
        repeat (go_quiet (fail); try go_wp2)
        go_ret
        exact ⟨by first | rfl | (simp; done) | (simp [*]; done), by repeat (first | exact Drawn0.refl _ | apply Drawn0.step)⟩
      ·rw [if_neg c6] at H
       exact absurd H (by simp)
     ·rw [if_neg c5] at H
      exact absurd H (by simp)
    ·rw [if_neg c4] at H
     have c4b0 : decide (x5_1 < (l0.length : Int)) = false := decide_eq_false c4
     clear c4
     obtain rfl := Option.some.inj H
     go_wp2
     repeat (go_quiet (fail); try go_wp2)
     go_ret
     exact ⟨by first | rfl | (simp; done) | (simp [*]; done), by repeat (first | exact Drawn0.refl _ | apply Drawn0.step)⟩
 ·rw [if_neg c3] at H
  have c3b0 : ((l0.length : Int) == (l1.length : Int)) = false := beq_eq_false_iff_ne.mpr c3
  have c3b1 : ((l0.length : Int) != (l1.length : Int)) = true := bne_iff_ne.mpr c3
  have c3b2 : (l0.length == l1.length) = false := by first | simpa using c3 | (simp at c3 ⊢; omega)
  obtain rfl := Option.some.inj H
  go_enter Try.func16, Try.ntmps16
  go_wp2
  repeat (go_quiet (fail); try go_wp2)
  go_ret
  exact ⟨by first | rfl | (simp; done) | (simp [*]; done), by repeat (first | exact Drawn0.refl _ | apply Drawn0.step)⟩

/-! ### billiardref17_Right: function 10 -/
mutual
def billiardref17_Right.l0 : Nat → List (S44) → List (S41) → Int → Option (Bool)
 | 0, _, _, _ => none
 | k + 1, x0, x1, x5 => if x5 < (x1.length : Int) then (if 0 ≤ x5 then (if ((rd_T41 x1 x5).f0.f0) ≥ ((rd_T41 x1 x5).f0.f1) then (billiardref17_Right.j1 k x0 x1 x5 true ((rd_T41 x1 x5).f0.f0) ((rd_T41 x1 x5).f0.f1) ((rd_T41 x1 x5).f1.f0) ((rd_T41 x1 x5).f1.f1) ((rd_T41 x1 x5).f2)) else ((billiardref06_Find.f k x0 ((rd_T41 x1 x5).f0.f0)).bind fun t228 => (if t228 < 0 then (billiardref17_Right.j1 k x0 x1 x5 true ((rd_T41 x1 x5).f0.f0) ((rd_T41 x1 x5).f0.f1) ((rd_T41 x1 x5).f1.f0) ((rd_T41 x1 x5).f1.f1) ((rd_T41 x1 x5).f2)) else ((billiardref06_Find.f k x0 ((rd_T41 x1 x5).f0.f1)).bind fun t229 => (billiardref17_Right.j1 k x0 x1 x5 (decide (t229 < 0)) ((rd_T41 x1 x5).f0.f0) ((rd_T41 x1 x5).f0.f1) ((rd_T41 x1 x5).f1.f0) ((rd_T41 x1 x5).f1.f1) ((rd_T41 x1 x5).f2)))))) else (none)) else (some true)
def billiardref17_Right.j1 : Nat → List (S44) → List (S41) → Int → Bool → Int → Int → Int → Int → Int → Option (Bool)
 | 0, _, _, _, _, _, _, _, _, _ => none
 | k + 1, x0, x1, x5, x42, x228000, x228001, x228002, x228003, x228004 => if x42 = true then (some false) else (if x228002 < (-65536) then (some false) else (if x228002 > 65536 then (some false) else (if x228003 < (-65536) then (some false) else (if x228003 > 65536 then (some false) else (billiardref17_Right.l0 k x0 x1 (wrap64 (x5 + 1)))))))
end
def billiardref17_Right.f (k : Nat) (l0 : List (S44)) (l1 : List (S41)) : Option (Bool) := if (l1.length : Int) > 100 then (some false) else (billiardref17_Right.l0 k l0 l1 0)
theorem billiardref17_Right.mono_l : ∀ k, (∀ y0 y1 y2, LeO (billiardref17_Right.l0 k y0 y1 y2) (billiardref17_Right.l0 (k + 1) y0 y1 y2)) ∧ (∀ y0 y1 y2 y3 y4 y5 y6 y7 y8, LeO (billiardref17_Right.j1 k y0 y1 y2 y3 y4 y5 y6 y7 y8) (billiardref17_Right.j1 (k + 1) y0 y1 y2 y3 y4 y5 y6 y7 y8))
 | 0 => ⟨fun _ _ _ r h => by simp [billiardref17_Right.l0] at h, fun _ _ _ _ _ _ _ _ _ r h => by simp [billiardref17_Right.j1] at h⟩
 | k + 1 => by
  obtain ⟨ih0, ih1⟩ := billiardref17_Right.mono_l k
  refine ⟨?_, ?_⟩
  ·intro y0 y1 y2
   unfold billiardref17_Right.l0
   repeat' first
   | (with_reducible exact ih0 _ _ _)
   | (with_reducible exact ih1 _ _ _ _ _ _ _ _ _)
   | (with_reducible exact billiardref06_Find.mono _ _ _)
   | (with_reducible exact LeO.refl _)
   | (with_reducible exact LeO.none _)
   | (with_reducible refine LeO.ite ?_ ?_)
   | (with_reducible refine LeO.bind ?_ (fun _ => ?_))
   | exact ih0 _ _ _
   | exact ih1 _ _ _ _ _ _ _ _ _
   | exact billiardref06_Find.mono _ _ _
   | exact LeO.none _
   | refine LeO.ite ?_ ?_
   | refine LeO.bind ?_ (fun _ => ?_)
  ·intro y0 y1 y2 y3 y4 y5 y6 y7 y8
   unfold billiardref17_Right.j1
   repeat' first
   | (with_reducible exact ih0 _ _ _)
   | (with_reducible exact ih1 _ _ _ _ _ _ _ _ _)
   | (with_reducible exact billiardref06_Find.mono _ _ _)
   | (with_reducible exact LeO.refl _)
   | (with_reducible exact LeO.none _)
   | (with_reducible refine LeO.ite ?_ ?_)
   | (with_reducible refine LeO.bind ?_ (fun _ => ?_))
   | exact ih0 _ _ _
   | exact ih1 _ _ _ _ _ _ _ _ _
   | exact billiardref06_Find.mono _ _ _
   | exact LeO.none _
   | refine LeO.ite ?_ ?_
   | refine LeO.bind ?_ (fun _ => ?_)
theorem billiardref17_Right.mono : ∀ a0 a1 k, LeO (billiardref17_Right.f k a0 a1) (billiardref17_Right.f (k + 1) a0 a1) := by
 intro a0 a1 k
 obtain ⟨ih0, ih1⟩ := billiardref17_Right.mono_l k
 unfold billiardref17_Right.f
 repeat' first
   | (with_reducible exact ih0 _ _ _)
   | (with_reducible exact ih1 _ _ _ _ _ _ _ _ _)
   | (with_reducible exact billiardref06_Find.mono _ _ _)
   | (with_reducible exact LeO.refl _)
   | (with_reducible exact LeO.none _)
   | (with_reducible refine LeO.ite ?_ ?_)
   | (with_reducible refine LeO.bind ?_ (fun _ => ?_))
   | exact ih0 _ _ _
   | exact ih1 _ _ _ _ _ _ _ _ _
   | exact billiardref06_Find.mono _ _ _
   | exact LeO.none _
   | refine LeO.ite ?_ ?_
   | refine LeO.bind ?_ (fun _ => ?_)
set_option maxHeartbeats 8000000 in
set_option maxRecDepth 100000 in
theorem billiardref17_Right.calls (k : Nat) (A0 : Option Addr) (c0 : Nat) (l0 : List (S44)) (A1 : Option Addr) (c1 : Nat) (l1 : List (S41)) (r : Bool) (w : World) (hr0 : Kd.C k44 w A0 l0.length l0) (hc0 : l0.length ≤ c0) (hr1 : Kd.C k41 w A1 l1.length l1) (hc1 : l1.length ≤ c1) (h : billiardref17_Right.f k l0 l1 = some r) :
  Calls Try.prog 10 #[.slice A0 l0.length c0, .slice A1 l1.length c1] w fun e w' => e = .returned (.bool r) ∧ Below w.heap.size w w' := by
 have hu41 := Try.underlying41
 have HR0 := aM hr0
 have HC0 := aM hc0
 clear hr0 hc0
 have HR1 := aM hr1
 have HC1 := aM hc1
 clear hr1 hc1
 have HB := aM (Below.refl w.heap.size w)
 have H : (if (l1.length : Int) > 100 then (some false) else (billiardref17_Right.l0 k l0 l1 0)) = some r := h
 clear h
 by_cases c3 : (l1.length : Int) > 100
 ·rw [if_pos c3] at H
  have c3b0 : decide (100 < (l1.length : Int)) = true := decide_eq_true c3
  have c3b1 : decide (100 < l1.length) = true := decide_eq_true (by omega)
  clear c3
  obtain rfl := Option.some.inj H
  go_enter Try.func10, Try.ntmps10
  go_wp2
  go_ret
  exact ⟨by first | rfl | (simp [errW_none, errW_some] <;> rfl) | (simp [*, errW_none, errW_some] <;> rfl), by repeat (first | (with_reducible first | exact HB.out | apply lA | apply lN | apply lD) | exact HB.out)⟩
 ·rw [if_neg c3] at H
  have c3b0 : decide (100 < (l1.length : Int)) = false := decide_eq_false c3
  have c3b1 : decide (100 < l1.length) = false := decide_eq_false (by omega)
  clear c3
  have H' := aM H
  clear H
  go_enter Try.func10, Try.ntmps10
  go_wp2
  go_loopg [5] k (fun kq v5 w' => ∃ (x5_1 : Int), v5 = .int .i64 x5_1 ∧ Aside0 (billiardref17_Right.l0 kq l0 l1 x5_1 = some r) ∧ Aside0 (kq ≤ k) ∧ Aside0 (Below w.heap.size w w'))
  case atStart => exact ⟨(0), (by first | rfl | (simp; done) | (simp [*]; done)), H', ⟨Nat.le_refl _⟩, ⟨by repeat (first | (with_reducible first | exact HB.out | apply lA | apply lN | apply lD) | exact HB.out)⟩⟩
  case round =>
   clear H'
   try clear c1
   try clear p2
   try clear c3
   try clear c3b0
   try clear c3b1
   obtain ⟨x5_1, rfl, HA, HK1, HB⟩ := hrel
   cases gk with
   | zero => exact absurd HA.out (by simp [billiardref17_Right.l0])
   | succ k1 =>
    have H := HA.out
    clear HA
    simp only [billiardref17_Right.l0] at H
    by_cases c4 : x5_1 < (l1.length : Int)
    ·rw [if_pos c4] at H
     have c4b0 : decide (x5_1 < (l1.length : Int)) = true := decide_eq_true c4
     clear c4
     by_cases c5 : 0 ≤ x5_1
     ·rw [if_pos c5] at H
      have c5b0 : decide (0 ≤ x5_1) = true := decide_eq_true c5
      clear c5
      have HC6 := aM H
      clear H
      have p226 : 0 ≤ (x5_1 : Int) := of_decide_eq_true (by first | (with_reducible assumption) | assumption)
      have q226 : x5_1 < (l1.length : Int) := of_decide_eq_true (by first | (with_reducible assumption) | assumption)
      obtain ⟨ad226, e226, hx226_0, hx226_1, hx226_2, hx226_3, hx226_4⟩ := at_T41 HR1.out x5_1 p226 q226
      cases e226
      replace hx226_0 := (HB.out.cell (World.block_lt_of_cell? w _ hx226_0)).trans hx226_0
      replace hx226_1 := (HB.out.cell (World.block_lt_of_cell? w _ hx226_1)).trans hx226_1
      replace hx226_2 := (HB.out.cell (World.block_lt_of_cell? w _ hx226_2)).trans hx226_2
      replace hx226_3 := (HB.out.cell (World.block_lt_of_cell? w _ hx226_3)).trans hx226_3
      replace hx226_4 := (HB.out.cell (World.block_lt_of_cell? w _ hx226_4)).trans hx226_4
      replace p226 := eq_true p226
      replace q226 := eq_true q226
      go_upto_region 7 with (first | ((with_reducible refine gate_dst (N := 6) rfl ?_); refine box_event ?hg (N := 6) ?hd (cs := #[.int .u32 0, .int .u32 0, .int .i32 0, .int .i32 0, .int .i32 0]) (t := 41) ?hr ?_; (case hd => rfl); (case hg => rfl); (case hr => first | (go_simp; done) | (go_simp; rfl)); intro b227 hg w7 hbox hb; have n0_ := aM (lT (by repeat (first | (with_reducible first | exact HB.out | apply lA | apply lN | apply lD) | exact HB.out)) hb); have n1_ := aM (hbox); have n2_ := aM ((by rw [hg]; exact (lZ (by repeat (first | (with_reducible first | exact HB.out | apply lA | apply lN | apply lD) | exact HB.out))) : w.heap.size ≤ b227)); have n3_ := aM ((by rw [hg]; exact (lZ (by repeat (first | (with_reducible first | exact HB.out | apply lA | apply lN | apply lD) | exact HB.out))) : w.heap.size ≤ b227)); clear HB; have HB := n0_; have BK227 := n1_; have GW227 := n2_; have GE227 := n3_; clear n0_ n1_ n2_ n3_; clear hb hbox hg; have hcz8_0 : w7.cell? ⟨b227, 0, none⟩ = some (.int .u32 0) := (bC BK227.out 0).trans rfl; have hcz8_1 : w7.cell? ⟨b227, 1, none⟩ = some (.int .u32 0) := (bC BK227.out 1).trans rfl; have hcz8_2 : w7.cell? ⟨b227, 2, none⟩ = some (.int .i32 0) := (bC BK227.out 2).trans rfl; have hcz8_3 : w7.cell? ⟨b227, 3, none⟩ = some (.int .i32 0) := (bC BK227.out 3).trans rfl; have hcz8_4 : w7.cell? ⟨b227, 4, none⟩ = some (.int .i32 0) := (bC BK227.out 4).trans rfl; have hfz8_0 := bF BK227.out 0; have hfz8_1 := bF BK227.out 1; have hfz8_2 := bF BK227.out 2; have hfz8_3 := bF BK227.out 3; have hfz8_4 := bF BK227.out 4))
      (try simp only [Act.put, sA, sB, sC])
      go_cut [42] (fun v42 wc => ∃ (kq : Nat) (x42_5 : Bool), v42 = .bool x42_5 ∧ Aside0 (billiardref17_Right.j1 kq l0 l1 x5_1 x42_5 ((rd_T41 l1 x5_1).f0.f0) ((rd_T41 l1 x5_1).f0.f1) ((rd_T41 l1 x5_1).f1.f0) ((rd_T41 l1 x5_1).f1.f1) ((rd_T41 l1 x5_1).f2) = some r) ∧ Aside0 (kq ≤ k1) ∧ Aside0 (wc.heap[b227]? = some (.cells #[.int .u32 ((rd_T41 l1 x5_1).f0.f0), .int .u32 ((rd_T41 l1 x5_1).f0.f1), .int .i32 ((rd_T41 l1 x5_1).f1.f0), .int .i32 ((rd_T41 l1 x5_1).f1.f1), .int .i32 ((rd_T41 l1 x5_1).f2)] 41 (0, 0))) ∧ Aside0 (Below w.heap.size w wc))
      case first =>
       have H := HC6.out
       clear HC6
       by_cases c9 : ((rd_T41 l1 x5_1).f0.f0) ≥ ((rd_T41 l1 x5_1).f0.f1)
       ·rw [if_pos c9] at H
        have c9b0 : decide (((rd_T41 l1 x5_1).f0.f1) ≤ ((rd_T41 l1 x5_1).f0.f0)) = true := decide_eq_true c9
        clear c9
        (first | rw [c9b0] | (simp only [i64_w, i32_w]; rw [c9b0]) | skip)
        have H' := aM H
        clear H
        have hcz10_0 : w7.cell? ⟨b227, 0, none⟩ = some (.int .u32 0) := (bC BK227.out 0).trans rfl
        have hcz10_1 : w7.cell? ⟨b227, 1, none⟩ = some (.int .u32 0) := (bC BK227.out 1).trans rfl
        have hcz10_2 : w7.cell? ⟨b227, 2, none⟩ = some (.int .i32 0) := (bC BK227.out 2).trans rfl
        have hcz10_3 : w7.cell? ⟨b227, 3, none⟩ = some (.int .i32 0) := (bC BK227.out 3).trans rfl
        have hcz10_4 : w7.cell? ⟨b227, 4, none⟩ = some (.int .i32 0) := (bC BK227.out 4).trans rfl
        have hfz10_0 := bF BK227.out 0
        have hfz10_1 := bF BK227.out 1
        have hfz10_2 := bF BK227.out 2
        have hfz10_3 := bF BK227.out 3
        have hfz10_4 := bF BK227.out 4
        go_wp2
        go_meet
        case rel => exact ⟨_, (true), (by first | rfl | (simp; done) | (simp [*]; done)), H', ⟨by have := HK1.out; first | omega | exact Nat.le_refl _⟩, ⟨by (with_reducible repeat first | apply bN | apply bD | apply bA); refine bP (cs := #[.int .u32 ((rd_T41 l1 x5_1).f0.f0), .int .u32 ((rd_T41 l1 x5_1).f0.f1), .int .i32 ((rd_T41 l1 x5_1).f1.f0), .int .i32 ((rd_T41 l1 x5_1).f1.f1), .int .i32 0]) ?_ 4 _ rfl; (with_reducible repeat first | apply bN | apply bD | apply bA); refine bP (cs := #[.int .u32 ((rd_T41 l1 x5_1).f0.f0), .int .u32 ((rd_T41 l1 x5_1).f0.f1), .int .i32 ((rd_T41 l1 x5_1).f1.f0), .int .i32 0, .int .i32 0]) ?_ 3 _ rfl; (with_reducible repeat first | apply bN | apply bD | apply bA); refine bP (cs := #[.int .u32 ((rd_T41 l1 x5_1).f0.f0), .int .u32 ((rd_T41 l1 x5_1).f0.f1), .int .i32 0, .int .i32 0, .int .i32 0]) ?_ 2 _ rfl; (with_reducible repeat first | apply bN | apply bD | apply bA); refine bP (cs := #[.int .u32 ((rd_T41 l1 x5_1).f0.f0), .int .u32 0, .int .i32 0, .int .i32 0, .int .i32 0]) ?_ 1 _ rfl; (with_reducible repeat first | apply bN | apply bD | apply bA); refine bP (cs := #[.int .u32 0, .int .u32 0, .int .i32 0, .int .i32 0, .int .i32 0]) ?_ 0 _ rfl; (with_reducible repeat first | apply bN | apply bD | apply bA); exact BK227.out⟩, ⟨by repeat (first | (with_reducible first | exact HB.out | apply lA | apply lN | apply lD | refine lS ?_ GE227.out) | exact HB.out)⟩⟩
       ·rw [if_neg c9] at H
        have c9b0 : decide (((rd_T41 l1 x5_1).f0.f1) ≤ ((rd_T41 l1 x5_1).f0.f0)) = false := decide_eq_false c9
        clear c9
        (first | rw [c9b0] | (simp only [i64_w, i32_w]; rw [c9b0]) | skip)
        replace H := Option.bind_eq_some_iff.mp H
        obtain ⟨t228, A110, H⟩ := H
        try dsimp only at H
        have A11 := aM A110
        clear A110
        by_cases c12 : t228 < 0
        ·rw [if_pos c12] at H
         have c12b0 : decide (t228 < 0) = true := decide_eq_true c12
         clear c12
         have H' := aM H
         clear H
         have hcz13_0 : w7.cell? ⟨b227, 0, none⟩ = some (.int .u32 0) := (bC BK227.out 0).trans rfl
         have hcz13_1 : w7.cell? ⟨b227, 1, none⟩ = some (.int .u32 0) := (bC BK227.out 1).trans rfl
         have hcz13_2 : w7.cell? ⟨b227, 2, none⟩ = some (.int .i32 0) := (bC BK227.out 2).trans rfl
         have hcz13_3 : w7.cell? ⟨b227, 3, none⟩ = some (.int .i32 0) := (bC BK227.out 3).trans rfl
         have hcz13_4 : w7.cell? ⟨b227, 4, none⟩ = some (.int .i32 0) := (bC BK227.out 4).trans rfl
         have hfz13_0 := bF BK227.out 0
         have hfz13_1 := bF BK227.out 1
         have hfz13_2 := bF BK227.out 2
         have hfz13_3 := bF BK227.out 3
         have hfz13_4 := bF BK227.out 4
         go_wp2_with (first | (go_at_call 20; (with_reducible refine (billiardref06_Find.calls k1 _ _ l0 ((rd_T41 l1 x5_1).f0.f0) t228 _ ?side1 ?side2 A11.out).mono ?_); (case side1 => exact Kd.C_below HR0.out (by repeat (first | (with_reducible first | exact HB.out | apply lA | apply lN | apply lD | refine lS ?_ GE227.out) | exact HB.out))); (case side2 => exact HC0.out); rintro e w' ⟨rfl, ⟨nd, rfl⟩⟩))
         go_meet
         case rel => exact ⟨_, (true), (by first | rfl | (simp; done) | (simp [*]; done)), H', ⟨by have := HK1.out; first | omega | exact Nat.le_refl _⟩, ⟨by (with_reducible repeat first | apply bN | apply bD | apply bA); refine bP (cs := #[.int .u32 ((rd_T41 l1 x5_1).f0.f0), .int .u32 ((rd_T41 l1 x5_1).f0.f1), .int .i32 ((rd_T41 l1 x5_1).f1.f0), .int .i32 ((rd_T41 l1 x5_1).f1.f1), .int .i32 0]) ?_ 4 _ rfl; (with_reducible repeat first | apply bN | apply bD | apply bA); refine bP (cs := #[.int .u32 ((rd_T41 l1 x5_1).f0.f0), .int .u32 ((rd_T41 l1 x5_1).f0.f1), .int .i32 ((rd_T41 l1 x5_1).f1.f0), .int .i32 0, .int .i32 0]) ?_ 3 _ rfl; (with_reducible repeat first | apply bN | apply bD | apply bA); refine bP (cs := #[.int .u32 ((rd_T41 l1 x5_1).f0.f0), .int .u32 ((rd_T41 l1 x5_1).f0.f1), .int .i32 0, .int .i32 0, .int .i32 0]) ?_ 2 _ rfl; (with_reducible repeat first | apply bN | apply bD | apply bA); refine bP (cs := #[.int .u32 ((rd_T41 l1 x5_1).f0.f0), .int .u32 0, .int .i32 0, .int .i32 0, .int .i32 0]) ?_ 1 _ rfl; (with_reducible repeat first | apply bN | apply bD | apply bA); refine bP (cs := #[.int .u32 0, .int .u32 0, .int .i32 0, .int .i32 0, .int .i32 0]) ?_ 0 _ rfl; (with_reducible repeat first | apply bN | apply bD | apply bA); exact BK227.out⟩, ⟨by repeat (first | (with_reducible first | exact HB.out | apply lA | apply lN | apply lD | refine lS ?_ GE227.out) | exact HB.out)⟩⟩
        ·rw [if_neg c12] at H
         have c12b0 : decide (t228 < 0) = false := decide_eq_false c12
         clear c12
         replace H := Option.bind_eq_some_iff.mp H
         obtain ⟨t229, A140, H⟩ := H
         try dsimp only at H
         have A14 := aM A140
         clear A140
         have H' := aM H
         clear H
         have hcz15_0 : w7.cell? ⟨b227, 0, none⟩ = some (.int .u32 0) := (bC BK227.out 0).trans rfl
         have hcz15_1 : w7.cell? ⟨b227, 1, none⟩ = some (.int .u32 0) := (bC BK227.out 1).trans rfl
         have hcz15_2 : w7.cell? ⟨b227, 2, none⟩ = some (.int .i32 0) := (bC BK227.out 2).trans rfl
         have hcz15_3 : w7.cell? ⟨b227, 3, none⟩ = some (.int .i32 0) := (bC BK227.out 3).trans rfl
         have hcz15_4 : w7.cell? ⟨b227, 4, none⟩ = some (.int .i32 0) := (bC BK227.out 4).trans rfl
         have hfz15_0 := bF BK227.out 0
         have hfz15_1 := bF BK227.out 1
         have hfz15_2 := bF BK227.out 2
         have hfz15_3 := bF BK227.out 3
         have hfz15_4 := bF BK227.out 4
         go_wp2_with (first | (go_at_call 20; (with_reducible refine (billiardref06_Find.calls k1 _ _ l0 ((rd_T41 l1 x5_1).f0.f0) t228 _ ?side1 ?side2 A11.out).mono ?_); (case side1 => exact Kd.C_below HR0.out (by repeat (first | (with_reducible first | exact HB.out | apply lA | apply lN | apply lD | refine lS ?_ GE227.out) | exact HB.out))); (case side2 => exact HC0.out); rintro e w' ⟨rfl, ⟨nd, rfl⟩⟩) | (go_at_call 20; (with_reducible refine (billiardref06_Find.calls k1 _ _ l0 ((rd_T41 l1 x5_1).f0.f1) t229 _ ?side1 ?side2 A14.out).mono ?_); (case side1 => exact Kd.C_below HR0.out (by repeat (first | (with_reducible first | exact HB.out | apply lA | apply lN | apply lD | refine lS ?_ GE227.out) | exact HB.out))); (case side2 => exact HC0.out); rintro e w' ⟨rfl, ⟨nd, rfl⟩⟩))
         go_meet
         case rel => exact ⟨_, (decide (t229 < 0)), (by first | rfl | (simp; done) | (simp [*]; done)), H', ⟨by have := HK1.out; first | omega | exact Nat.le_refl _⟩, ⟨by (with_reducible repeat first | apply bN | apply bD | apply bA); refine bP (cs := #[.int .u32 ((rd_T41 l1 x5_1).f0.f0), .int .u32 ((rd_T41 l1 x5_1).f0.f1), .int .i32 ((rd_T41 l1 x5_1).f1.f0), .int .i32 ((rd_T41 l1 x5_1).f1.f1), .int .i32 0]) ?_ 4 _ rfl; (with_reducible repeat first | apply bN | apply bD | apply bA); refine bP (cs := #[.int .u32 ((rd_T41 l1 x5_1).f0.f0), .int .u32 ((rd_T41 l1 x5_1).f0.f1), .int .i32 ((rd_T41 l1 x5_1).f1.f0), .int .i32 0, .int .i32 0]) ?_ 3 _ rfl; (with_reducible repeat first | apply bN | apply bD | apply bA); refine bP (cs := #[.int .u32 ((rd_T41 l1 x5_1).f0.f0), .int .u32 ((rd_T41 l1 x5_1).f0.f1), .int .i32 0, .int .i32 0, .int .i32 0]) ?_ 2 _ rfl; (with_reducible repeat first | apply bN | apply bD | apply bA); refine bP (cs := #[.int .u32 ((rd_T41 l1 x5_1).f0.f0), .int .u32 0, .int .i32 0, .int .i32 0, .int .i32 0]) ?_ 1 _ rfl; (with_reducible repeat first | apply bN | apply bD | apply bA); refine bP (cs := #[.int .u32 0, .int .u32 0, .int .i32 0, .int .i32 0, .int .i32 0]) ?_ 0 _ rfl; (with_reducible repeat first | apply bN | apply bD | apply bA); exact BK227.out⟩, ⟨by repeat (first | (with_reducible first | exact HB.out | apply lA | apply lN | apply lD | refine lS ?_ GE227.out) | exact HB.out)⟩⟩
      case rest =>
       clear HC6
       try clear c1
       try clear p2
       try clear q2
       try clear hx2
       try clear c3
       try clear c3b0
       try clear c3b1
       try clear c4
       try clear c4b0
       try clear c5
       try clear c5b0
       try clear c9
       try clear c9b0
       try clear c10
       try clear c12
       try clear c12b0
       try clear hcz10_0
       try clear hcz10_1
       try clear hcz10_2
       try clear hcz10_3
       try clear hcz10_4
       try clear hcz13_0
       try clear hcz13_1
       try clear hcz13_2
       try clear hcz13_3
       try clear hcz13_4
       try clear hcz15_0
       try clear hcz15_1
       try clear hcz15_2
       try clear hcz15_3
       try clear hcz15_4
       try clear hcz8_0
       try clear hcz8_1
       try clear hcz8_2
       try clear hcz8_3
       try clear hcz8_4
       try clear hfz10_0
       try clear hfz10_1
       try clear hfz10_2
       try clear hfz10_3
       try clear hfz10_4
       try clear hfz13_0
       try clear hfz13_1
       try clear hfz13_2
       try clear hfz13_3
       try clear hfz13_4
       try clear hfz15_0
       try clear hfz15_1
       try clear hfz15_2
       try clear hfz15_3
       try clear hfz15_4
       try clear hfz8_0
       try clear hfz8_1
       try clear hfz8_2
       try clear hfz8_3
       try clear hfz8_4
       try clear hx226_0
       try clear hx226_1
       try clear hx226_2
       try clear hx226_3
       try clear hx226_4
       try clear p2
       try clear p226
       try clear q226
       obtain ⟨kq, x42_5, rfl, HA, HJ5, BK227, HB⟩ := hcut
       cases kq with
       | zero => exact absurd HA.out (by simp [billiardref17_Right.j1])
       | succ kj5 =>
        have H := HA.out
        clear HA
        simp only [billiardref17_Right.j1] at H
        by_cases c16 : x42_5 = true
        ·subst c16
         rw [if_pos rfl] at H
         obtain rfl := Option.some.inj H
         go_wp2
         go_ret
         exact ⟨by first | rfl | (simp [errW_none, errW_some] <;> rfl) | (simp [*, errW_none, errW_some] <;> rfl), by repeat (first | (with_reducible first | exact HB.out | apply lA | apply lN | apply lD | refine lS ?_ GE227.out) | exact HB.out)⟩
        ·replace c16 := Bool.eq_false_iff.mpr c16
         subst c16
         rw [if_neg (show ¬ (false = true) by decide)] at H
         by_cases c17 : ((rd_T41 l1 x5_1).f1.f0) < (-65536)
         ·rw [if_pos c17] at H
          have c17b0 : decide (((rd_T41 l1 x5_1).f1.f0) < (-65536)) = true := decide_eq_true c17
          clear c17
          obtain rfl := Option.some.inj H
          have hcz18_0 : wc.cell? ⟨b227, 0, none⟩ = some (.int .u32 ((rd_T41 l1 x5_1).f0.f0)) := (bC BK227.out 0).trans rfl
          have hcz18_1 : wc.cell? ⟨b227, 1, none⟩ = some (.int .u32 ((rd_T41 l1 x5_1).f0.f1)) := (bC BK227.out 1).trans rfl
          have hcz18_2 : wc.cell? ⟨b227, 2, none⟩ = some (.int .i32 ((rd_T41 l1 x5_1).f1.f0)) := (bC BK227.out 2).trans rfl
          have hcz18_3 : wc.cell? ⟨b227, 3, none⟩ = some (.int .i32 ((rd_T41 l1 x5_1).f1.f1)) := (bC BK227.out 3).trans rfl
          have hcz18_4 : wc.cell? ⟨b227, 4, none⟩ = some (.int .i32 ((rd_T41 l1 x5_1).f2)) := (bC BK227.out 4).trans rfl
          have hfz18_0 := bF BK227.out 0
          have hfz18_1 := bF BK227.out 1
          have hfz18_2 := bF BK227.out 2
          have hfz18_3 := bF BK227.out 3
          have hfz18_4 := bF BK227.out 4
          go_wp2
          go_ret
          exact ⟨by first | rfl | (simp [errW_none, errW_some] <;> rfl) | (simp [*, errW_none, errW_some] <;> rfl), by repeat (first | (with_reducible first | exact HB.out | apply lA | apply lN | apply lD | refine lS ?_ GE227.out) | exact HB.out)⟩
         ·rw [if_neg c17] at H
          have c17b0 : decide (((rd_T41 l1 x5_1).f1.f0) < (-65536)) = false := decide_eq_false c17
          clear c17
          by_cases c19 : ((rd_T41 l1 x5_1).f1.f0) > 65536
          ·rw [if_pos c19] at H
           have c19b0 : decide (65536 < ((rd_T41 l1 x5_1).f1.f0)) = true := decide_eq_true c19
           clear c19
           obtain rfl := Option.some.inj H
           have hcz20_0 : wc.cell? ⟨b227, 0, none⟩ = some (.int .u32 ((rd_T41 l1 x5_1).f0.f0)) := (bC BK227.out 0).trans rfl
           have hcz20_1 : wc.cell? ⟨b227, 1, none⟩ = some (.int .u32 ((rd_T41 l1 x5_1).f0.f1)) := (bC BK227.out 1).trans rfl
           have hcz20_2 : wc.cell? ⟨b227, 2, none⟩ = some (.int .i32 ((rd_T41 l1 x5_1).f1.f0)) := (bC BK227.out 2).trans rfl
           have hcz20_3 : wc.cell? ⟨b227, 3, none⟩ = some (.int .i32 ((rd_T41 l1 x5_1).f1.f1)) := (bC BK227.out 3).trans rfl
           have hcz20_4 : wc.cell? ⟨b227, 4, none⟩ = some (.int .i32 ((rd_T41 l1 x5_1).f2)) := (bC BK227.out 4).trans rfl
           have hfz20_0 := bF BK227.out 0
           have hfz20_1 := bF BK227.out 1
           have hfz20_2 := bF BK227.out 2
           have hfz20_3 := bF BK227.out 3
           have hfz20_4 := bF BK227.out 4
           go_wp2
           go_ret
           exact ⟨by first | rfl | (simp [errW_none, errW_some] <;> rfl) | (simp [*, errW_none, errW_some] <;> rfl), by repeat (first | (with_reducible first | exact HB.out | apply lA | apply lN | apply lD | refine lS ?_ GE227.out) | exact HB.out)⟩
          ·rw [if_neg c19] at H
           have c19b0 : decide (65536 < ((rd_T41 l1 x5_1).f1.f0)) = false := decide_eq_false c19
           clear c19
           by_cases c21 : ((rd_T41 l1 x5_1).f1.f1) < (-65536)
           ·rw [if_pos c21] at H
            have c21b0 : decide (((rd_T41 l1 x5_1).f1.f1) < (-65536)) = true := decide_eq_true c21
            clear c21
            obtain rfl := Option.some.inj H
            have hcz22_0 : wc.cell? ⟨b227, 0, none⟩ = some (.int .u32 ((rd_T41 l1 x5_1).f0.f0)) := (bC BK227.out 0).trans rfl
            have hcz22_1 : wc.cell? ⟨b227, 1, none⟩ = some (.int .u32 ((rd_T41 l1 x5_1).f0.f1)) := (bC BK227.out 1).trans rfl
            have hcz22_2 : wc.cell? ⟨b227, 2, none⟩ = some (.int .i32 ((rd_T41 l1 x5_1).f1.f0)) := (bC BK227.out 2).trans rfl
            have hcz22_3 : wc.cell? ⟨b227, 3, none⟩ = some (.int .i32 ((rd_T41 l1 x5_1).f1.f1)) := (bC BK227.out 3).trans rfl
            have hcz22_4 : wc.cell? ⟨b227, 4, none⟩ = some (.int .i32 ((rd_T41 l1 x5_1).f2)) := (bC BK227.out 4).trans rfl
            have hfz22_0 := bF BK227.out 0
            have hfz22_1 := bF BK227.out 1
            have hfz22_2 := bF BK227.out 2
            have hfz22_3 := bF BK227.out 3
            have hfz22_4 := bF BK227.out 4
            go_wp2
            go_ret
            exact ⟨by first | rfl | (simp [errW_none, errW_some] <;> rfl) | (simp [*, errW_none, errW_some] <;> rfl), by repeat (first | (with_reducible first | exact HB.out | apply lA | apply lN | apply lD | refine lS ?_ GE227.out) | exact HB.out)⟩
           ·rw [if_neg c21] at H
            have c21b0 : decide (((rd_T41 l1 x5_1).f1.f1) < (-65536)) = false := decide_eq_false c21
            clear c21
            by_cases c23 : ((rd_T41 l1 x5_1).f1.f1) > 65536
            ·rw [if_pos c23] at H
             have c23b0 : decide (65536 < ((rd_T41 l1 x5_1).f1.f1)) = true := decide_eq_true c23
             clear c23
             obtain rfl := Option.some.inj H
             have hcz24_0 : wc.cell? ⟨b227, 0, none⟩ = some (.int .u32 ((rd_T41 l1 x5_1).f0.f0)) := (bC BK227.out 0).trans rfl
             have hcz24_1 : wc.cell? ⟨b227, 1, none⟩ = some (.int .u32 ((rd_T41 l1 x5_1).f0.f1)) := (bC BK227.out 1).trans rfl
             have hcz24_2 : wc.cell? ⟨b227, 2, none⟩ = some (.int .i32 ((rd_T41 l1 x5_1).f1.f0)) := (bC BK227.out 2).trans rfl
             have hcz24_3 : wc.cell? ⟨b227, 3, none⟩ = some (.int .i32 ((rd_T41 l1 x5_1).f1.f1)) := (bC BK227.out 3).trans rfl
             have hcz24_4 : wc.cell? ⟨b227, 4, none⟩ = some (.int .i32 ((rd_T41 l1 x5_1).f2)) := (bC BK227.out 4).trans rfl
             have hfz24_0 := bF BK227.out 0
             have hfz24_1 := bF BK227.out 1
             have hfz24_2 := bF BK227.out 2
             have hfz24_3 := bF BK227.out 3
             have hfz24_4 := bF BK227.out 4
             go_wp2
             go_ret
             exact ⟨by first | rfl | (simp [errW_none, errW_some] <;> rfl) | (simp [*, errW_none, errW_some] <;> rfl), by repeat (first | (with_reducible first | exact HB.out | apply lA | apply lN | apply lD | refine lS ?_ GE227.out) | exact HB.out)⟩
            ·rw [if_neg c23] at H
             have c23b0 : decide (65536 < ((rd_T41 l1 x5_1).f1.f1)) = false := decide_eq_false c23
             clear c23
             have H' := aM H
             clear H
             have hcz25_0 : wc.cell? ⟨b227, 0, none⟩ = some (.int .u32 ((rd_T41 l1 x5_1).f0.f0)) := (bC BK227.out 0).trans rfl
             have hcz25_1 : wc.cell? ⟨b227, 1, none⟩ = some (.int .u32 ((rd_T41 l1 x5_1).f0.f1)) := (bC BK227.out 1).trans rfl
             have hcz25_2 : wc.cell? ⟨b227, 2, none⟩ = some (.int .i32 ((rd_T41 l1 x5_1).f1.f0)) := (bC BK227.out 2).trans rfl
             have hcz25_3 : wc.cell? ⟨b227, 3, none⟩ = some (.int .i32 ((rd_T41 l1 x5_1).f1.f1)) := (bC BK227.out 3).trans rfl
             have hcz25_4 : wc.cell? ⟨b227, 4, none⟩ = some (.int .i32 ((rd_T41 l1 x5_1).f2)) := (bC BK227.out 4).trans rfl
             have hfz25_0 := bF BK227.out 0
             have hfz25_1 := bF BK227.out 1
             have hfz25_2 := bF BK227.out 2
             have hfz25_3 := bF BK227.out 3
             have hfz25_4 := bF BK227.out 4
             go_wp2
             go_roundg kj5
             case measure => have := HK1.out; have := HJ5.out; omega
             case rel => exact ⟨(wrap64 (x5_1 + 1)), (by first | rfl | (simp; done) | (simp [*]; done)), H', ⟨by have := HK1.out; have := HJ5.out; omega⟩, ⟨by repeat (first | (with_reducible first | exact HB.out | apply lA | apply lN | apply lD | refine lS ?_ GE227.out) | exact HB.out)⟩⟩
     ·rw [if_neg c5] at H
      exact absurd H (by simp)
    ·rw [if_neg c4] at H
     have c4b0 : decide (x5_1 < (l1.length : Int)) = false := decide_eq_false c4
     clear c4
     obtain rfl := Option.some.inj H
     go_wp2
     go_ret
     exact ⟨by first | rfl | (simp [errW_none, errW_some] <;> rfl) | (simp [*, errW_none, errW_some] <;> rfl), by repeat (first | (with_reducible first | exact HB.out | apply lA | apply lN | apply lD) | exact HB.out)⟩

end Go.Proofs.Ytcbdcgghccjdpaa.Q
