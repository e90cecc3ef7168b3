-- PRINTED by print.py (a twelfth state) out of the translation. Not trusted: Lean checks it.
import Derived.Test.YtplmeknmeobanaaQ0
import Derived.Test.YtplmeknmeobanaaMkeep
import Derived.Test.YtplmeknmeobanaaQbilliardref01
import Derived.Test.YtplmeknmeobanaaQbilliardref06
import Derived.Test.YtplmeknmeobanaaQbilliardref18
namespace Go.Proofs.Ytplmeknmeobanaa.Q
open Go.RowKit Go.Proofs.YtplmeknmeobanaaW.PrintWords Go.Proofs.YtplmeknmeobanaaW.PrintLast Go.Proofs.YtplmeknmeobanaaW.PrintMore
open Go.Proofs.YtplmeknmeobanaaW.PrintWords renaming blk_drewN → bN, blk_drew → bD, blk_alloc → bA, blk_below → bB, blk_cell → bC, blk_frozen → bF, blk_far → bR, blk_lt → bL, blk_put → bP, cell_far → cF, below_alloc → lA, pw_below_drewN → lN, below_drew1 → lD, below_set → lS, below_step → lT, below_size → lZ, Aside0.mk → aM
open List renaming setIfInBounds_toArray → sA, set_cons_zero → sB, set_cons_succ → sC
open Bool renaming true → T, false → F
attribute [local go_sem] max2_int min2_int max_two min_two max_three min_three max_four min_four   -- for this text's walks alone
set_option linter.unusedVariables false
set_option linter.unusedSimpArgs false

/-! ### billiardref18_Shifts: function 17 -/
mutual
def billiardref18_Shifts.l0 : Nat → List (S32) → List (S37) → List (S53) → Int → Option ((List (S53)))
 | 0, _, _, _, _ => none
 | k + 1, x0, x1, x5, x6 => if x6 < (x0.length : Int) then (billiardref18_Shifts.l1 k x0 x1 x5 x6 0 0 0) else (some x5)
def billiardref18_Shifts.l1 : Nat → List (S32) → List (S37) → List (S53) → Int → Int → Int → Int → Option ((List (S53)))
 | 0, _, _, _, _, _, _, _ => none
 | k + 1, x0, x1, x5, x6, x8, x211000, x211001 => if x8 < (x1.length : Int) then (if 0 ≤ x8 then (if 0 ≤ x6 then (if x6 < (x0.length : Int) then (if ((rd_T37 x1 x8).f0.f0) = ((rd_T32 x0 x6).f0) then (billiardref18_Shifts.j2 k x0 x1 x5 x6 x8 false x211000 x211001 ((rd_T37 x1 x8).f0.f0) ((rd_T37 x1 x8).f0.f1) ((rd_T37 x1 x8).f1.f0) ((rd_T37 x1 x8).f1.f1) ((rd_T37 x1 x8).f2)) else (billiardref18_Shifts.j2 k x0 x1 x5 x6 x8 (((rd_T37 x1 x8).f0.f1) != ((rd_T32 x0 x6).f0)) x211000 x211001 ((rd_T37 x1 x8).f0.f0) ((rd_T37 x1 x8).f0.f1) ((rd_T37 x1 x8).f1.f0) ((rd_T37 x1 x8).f1.f1) ((rd_T37 x1 x8).f2))) else (none)) else (none)) else (none)) else (if x5.length < 8796093022208 then (billiardref18_Shifts.l0 k x0 x1 (x5 ++ [(⟨x211000, x211001⟩ : S53)]) (wrap64 (x6 + 1))) else (none))
def billiardref18_Shifts.j2 : Nat → List (S32) → List (S37) → List (S53) → Int → Int → Bool → Int → Int → Int → Int → Int → Int → Int → Option ((List (S53)))
 | 0, _, _, _, _, _, _, _, _, _, _, _, _, _ => none
 | k + 1, x0, x1, x5, x6, x8, x50, x211000, x211001, x216000, x216001, x216002, x216003, x216004 => if x50 = true then (billiardref18_Shifts.l1 k x0 x1 x5 x6 (wrap64 (x8 + 1)) x211000 x211001) else ((billiardref06_Find.f k x0 x216000).bind fun t218 => (if 0 ≤ t218 then (if t218 < (x0.length : Int) then ((billiardref06_Find.f k x0 x216001).bind fun t221 => (if 0 ≤ t221 then (if t221 < (x0.length : Int) then (if 0 ≤ x6 then (if x6 < (x0.length : Int) then ((billiardref18_Share.f x216000 x216001 x216002 x216003 x216004 ((rd_T32 x0 t218).f0) ((rd_T32 x0 t218).f1) ((rd_T32 x0 t218).f2.f0) ((rd_T32 x0 t218).f2.f1) ((rd_T32 x0 t218).f3) ((rd_T32 x0 t218).f4) ((rd_T32 x0 t218).f5.f0) ((rd_T32 x0 t218).f5.f1) ((rd_T32 x0 t218).f6.f0) ((rd_T32 x0 t218).f6.f1) ((rd_T32 x0 t221).f0) ((rd_T32 x0 t221).f1) ((rd_T32 x0 t221).f2.f0) ((rd_T32 x0 t221).f2.f1) ((rd_T32 x0 t221).f3) ((rd_T32 x0 t221).f4) ((rd_T32 x0 t221).f5.f0) ((rd_T32 x0 t221).f5.f1) ((rd_T32 x0 t221).f6.f0) ((rd_T32 x0 t221).f6.f1) ((rd_T32 x0 x6).f3)).bind fun t225 => ((billiardref01_Floor.f (wrap64 (t225 * (wrap64 (x216002)))) 65536).bind fun t226 => ((billiardref01_Floor.f (wrap64 (t225 * (wrap64 (x216003)))) 65536).bind fun t227 => (if x216000 = ((rd_T32 x0 x6).f0) then (billiardref18_Shifts.l1 k x0 x1 x5 x6 (wrap64 (x8 + 1)) (wrap64 (x211000 + (wrap64 (-t226)))) (wrap64 (x211001 + (wrap64 (-t227))))) else (billiardref18_Shifts.l1 k x0 x1 x5 x6 (wrap64 (x8 + 1)) (wrap64 (x211000 + t226)) (wrap64 (x211001 + t227))))))) else (none)) else (none)) else (none)) else (none))) else (none)) else (none)))
end
def billiardref18_Shifts.f (k : Nat) (l0 : List (S32)) (l1 : List (S37)) : Option ((List (S53))) := billiardref18_Shifts.l0 k l0 l1 ([] : List (S53)) 0
theorem billiardref18_Shifts.mono_l : ∀ k, (∀ y0 y1 y2 y3, LeO (billiardref18_Shifts.l0 k y0 y1 y2 y3) (billiardref18_Shifts.l0 (k + 1) y0 y1 y2 y3)) ∧ (∀ y0 y1 y2 y3 y4 y5 y6, LeO (billiardref18_Shifts.l1 k y0 y1 y2 y3 y4 y5 y6) (billiardref18_Shifts.l1 (k + 1) y0 y1 y2 y3 y4 y5 y6)) ∧ (∀ y0 y1 y2 y3 y4 y5 y6 y7 y8 y9 y10 y11 y12, LeO (billiardref18_Shifts.j2 k y0 y1 y2 y3 y4 y5 y6 y7 y8 y9 y10 y11 y12) (billiardref18_Shifts.j2 (k + 1) y0 y1 y2 y3 y4 y5 y6 y7 y8 y9 y10 y11 y12))
 | 0 => ⟨fun _ _ _ _ r h => by simp [billiardref18_Shifts.l0] at h, fun _ _ _ _ _ _ _ r h => by simp [billiardref18_Shifts.l1] at h, fun _ _ _ _ _ _ _ _ _ _ _ _ _ r h => by simp [billiardref18_Shifts.j2] at h⟩
 | k + 1 => by
  obtain ⟨ih0, ih1, ih2⟩ := billiardref18_Shifts.mono_l k
  refine ⟨?_, ?_, ?_⟩
  ·intro y0 y1 y2 y3
   unfold billiardref18_Shifts.l0
   repeat' first
   | (with_reducible exact ih0 _ _ _ _)
   | (with_reducible exact ih1 _ _ _ _ _ _ _)
   | (with_reducible exact ih2 _ _ _ _ _ _ _ _ _ _ _ _ _)
   | (with_reducible exact billiardref06_Find.mono _ _ _)
   | (with_reducible exact LeO.refl _)
   | (with_reducible exact LeO.none _)
   | (with_reducible refine LeO.ite ?_ ?_)
   | (with_reducible refine LeO.bind ?_ (fun _ => ?_))
   | exact ih0 _ _ _ _
   | exact ih1 _ _ _ _ _ _ _
   | exact ih2 _ _ _ _ _ _ _ _ _ _ _ _ _
   | exact billiardref06_Find.mono _ _ _
   | exact LeO.none _
   | refine LeO.ite ?_ ?_
   | refine LeO.bind ?_ (fun _ => ?_)
  ·intro y0 y1 y2 y3 y4 y5 y6
   unfold billiardref18_Shifts.l1
   repeat' first
   | (with_reducible exact ih0 _ _ _ _)
   | (with_reducible exact ih1 _ _ _ _ _ _ _)
   | (with_reducible exact ih2 _ _ _ _ _ _ _ _ _ _ _ _ _)
   | (with_reducible exact billiardref06_Find.mono _ _ _)
   | (with_reducible exact LeO.refl _)
   | (with_reducible exact LeO.none _)
   | (with_reducible refine LeO.ite ?_ ?_)
   | (with_reducible refine LeO.bind ?_ (fun _ => ?_))
   | exact ih0 _ _ _ _
   | exact ih1 _ _ _ _ _ _ _
   | exact ih2 _ _ _ _ _ _ _ _ _ _ _ _ _
   | exact billiardref06_Find.mono _ _ _
   | exact LeO.none _
   | refine LeO.ite ?_ ?_
   | refine LeO.bind ?_ (fun _ => ?_)
  ·intro y0 y1 y2 y3 y4 y5 y6 y7 y8 y9 y10 y11 y12
   unfold billiardref18_Shifts.j2
   repeat' first
   | (with_reducible exact ih0 _ _ _ _)
   | (with_reducible exact ih1 _ _ _ _ _ _ _)
   | (with_reducible exact ih2 _ _ _ _ _ _ _ _ _ _ _ _ _)
   | (with_reducible exact billiardref06_Find.mono _ _ _)
   | (with_reducible exact LeO.refl _)
   | (with_reducible exact LeO.none _)
   | (with_reducible refine LeO.ite ?_ ?_)
   | (with_reducible refine LeO.bind ?_ (fun _ => ?_))
   | exact ih0 _ _ _ _
   | exact ih1 _ _ _ _ _ _ _
   | exact ih2 _ _ _ _ _ _ _ _ _ _ _ _ _
   | exact billiardref06_Find.mono _ _ _
   | exact LeO.none _
   | refine LeO.ite ?_ ?_
   | refine LeO.bind ?_ (fun _ => ?_)
theorem billiardref18_Shifts.mono : ∀ a0 a1 k, LeO (billiardref18_Shifts.f k a0 a1) (billiardref18_Shifts.f (k + 1) a0 a1) := by
 intro a0 a1 k
 obtain ⟨ih0, ih1, ih2⟩ := billiardref18_Shifts.mono_l k
 unfold billiardref18_Shifts.f
 repeat' first
   | (with_reducible exact ih0 _ _ _ _)
   | (with_reducible exact ih1 _ _ _ _ _ _ _)
   | (with_reducible exact ih2 _ _ _ _ _ _ _ _ _ _ _ _ _)
   | (with_reducible exact billiardref06_Find.mono _ _ _)
   | (with_reducible exact LeO.refl _)
   | (with_reducible exact LeO.none _)
   | (with_reducible refine LeO.ite ?_ ?_)
   | (with_reducible refine LeO.bind ?_ (fun _ => ?_))
   | exact ih0 _ _ _ _
   | exact ih1 _ _ _ _ _ _ _
   | exact ih2 _ _ _ _ _ _ _ _ _ _ _ _ _
   | exact billiardref06_Find.mono _ _ _
   | exact LeO.none _
   | refine LeO.ite ?_ ?_
   | refine LeO.bind ?_ (fun _ => ?_)
def billiardref18_Shifts.T10 : Bool × List (List Nat × List Nat) := (true, [([], []), ([0], [0]), ([1], [1]), ([], []), ([], []), ([3, 4], [3, 4]), ([5], [5]), ([6], [6]), ([2, 7], [2, 7]), ([8], [8]), ([9], [9]), ([10, 9], [9, 10]), ([11, 9], [9, 11]), ([9], [9]), ([9], [9]), ([13, 14, 9], [9, 13, 14]), ([15, 9], [9, 15]), ([16, 9], [9, 16]), ([12, 17, 9], [9, 12, 17]), ([9, 18], [9, 18])])
def billiardref18_Shifts.B10 : List Nat := [0, 1, 3, 0, 0, 24, 56, 120, 255, 511, 1023, 2047, 4095, 1023, 1023, 25599, 58367, 123903, 262143, 524287]
theorem billiardref18_Shifts.tab10 : rtab .any (opsOf Try.f17 10) = billiardref18_Shifts.T10 := by kernel_rfl
theorem billiardref18_Shifts.bits10 : waitsOk billiardref18_Shifts.T10.2 billiardref18_Shifts.B10 = true := by kernel_rfl
def billiardref18_Shifts.T13 : Bool × List (List Nat × List Nat) := (true, [([], []), ([], []), ([], []), ([], []), ([], []), ([3, 4], [3, 4]), ([5], [5]), ([6], [6]), ([0, 1, 2, 7], [0, 1, 2, 7]), ([8, 8, 0, 1, 2, 3, 4, 5, 6, 7, 8], [8])])
def billiardref18_Shifts.B13 : List Nat := [0, 0, 0, 0, 0, 24, 56, 120, 255, 511]
theorem billiardref18_Shifts.tab13 : rtab .any (opsOf Try.f17 13) = billiardref18_Shifts.T13 := by kernel_rfl
theorem billiardref18_Shifts.bits13 : waitsOk billiardref18_Shifts.T13.2 billiardref18_Shifts.B13 = true := by kernel_rfl
def billiardref18_Shifts.T16 : Bool × List (List Nat × List Nat) := (true, [([], []), ([0], [0]), ([1], [1]), ([], []), ([], []), ([3, 4], [3, 4]), ([5], [5]), ([6], [6]), ([2, 7], [2, 7])])
def billiardref18_Shifts.B16 : List Nat := [0, 1, 3, 0, 0, 24, 56, 120, 255]
theorem billiardref18_Shifts.tab16 : rtab .any (opsOf Try.f17 16) = billiardref18_Shifts.T16 := by kernel_rfl
theorem billiardref18_Shifts.bits16 : waitsOk billiardref18_Shifts.T16.2 billiardref18_Shifts.B16 = true := by kernel_rfl
set_option maxHeartbeats 30000000 in
set_option maxRecDepth 100000 in
theorem billiardref18_Shifts.calls (k : Nat) (A0 : Option Addr) (c0 : Nat) (l0 : List (S32)) (A1 : Option Addr) (c1 : Nat) (l1 : List (S37)) (r : List (S53)) (w : World) (hr0 : Kd.C k32 w A0 l0.length l0) (hc0 : l0.length ≤ c0) (hr1 : Kd.C k37 w A1 l1.length l1) (hc1 : l1.length ≤ c1) (h : billiardref18_Shifts.f k l0 l1 = some r) :
  Calls Try.prog 17 #[.slice A0 l0.length c0, .slice A1 l1.length c1] w fun e w' => ∃ v0_ : Value, e = .returned (v0_) ∧ Kd.R k53 53 w' w.heap.size (fun _ => True) v0_ r ∧ Below w.heap.size w w' := by
 have hu53 := Try.underlying53
 have hu37 := Try.underlying37
 have hu32 := Try.underlying32
 have HR0 := aM hr0
 have HC0 := aM hc0
 clear hr0 hc0
 have HR1 := aM hr1
 have HC1 := aM hc1
 clear hr1 hc1
 have HB := aM (Below.refl w.heap.size w)
 have H : (billiardref18_Shifts.l0 k l0 l1 ([] : List (S53)) 0) = some r := h
 clear h
 have H' := aM H
 clear H
 go_enter Try.func17, Try.ntmps17
 go_wp2
 go_loopg [5, 6] k (fun kq v5 v6 w' => ∃ (x5_1 : List (S53)) (x6_1 : Int), v6 = .int .i64 x6_1 ∧ Aside0 (billiardref18_Shifts.l0 kq l0 l1 x5_1 x6_1 = some r) ∧ Aside0 (kq ≤ k) ∧ Aside0 (Kd.R k53 53 w' w.heap.size (fun _ => True) v5 x5_1) ∧ Aside0 (Below w.heap.size w w'))
 case atStart => exact ⟨(([] : List (S53))), (0), (by first | rfl | (simp; done) | (simp [*]; done)), H', ⟨Nat.le_refl _⟩, ⟨by first | exact Kd.R_nil _ _ _ _ _ | exact Kd.N_nil _ _ _ _ _ | exact Kd.V_nil _ _ _ _ _ | exact Kd.Q_nil _ _ _ _ _ | exact Kd.S_nil _ _ _ _ _⟩, ⟨by repeat (first | (with_reducible first | exact HB.out | apply lA | apply lN | apply lD) | exact HB.out)⟩⟩
 case round =>
  clear H'
  try clear c1
  try clear p2
  obtain ⟨x5_1, x6_1, rfl, HA, HK1, HO_5, HB⟩ := hrel
  cases gk with
  | zero => exact absurd HA.out (by simp [billiardref18_Shifts.l0])
  | succ k1 =>
   have H := HA.out
   clear HA
   simp only [billiardref18_Shifts.l0] at H
   by_cases c3 : x6_1 < (l0.length : Int)
   ·rw [if_pos c3] at H
    have c3b0 : decide (x6_1 < (l0.length : Int)) = true := decide_eq_true c3
    clear c3
    have H' := aM H
    clear H
    go_wp2_with (first | ((with_reducible refine gate_dst (N := 7) rfl ?_); refine box_event ?hg (N := 7) ?hd (cs := #[.int .i64 0, .int .i64 0]) (t := 53) ?hr ?_; (case hd => rfl); (case hg => rfl); (case hr => first | (go_simp; done) | (go_simp; rfl)); intro b210 hg w4 hbox hb; have n0_ := aM (Kd.R_below (Kd.R_elderB (by (with_reducible repeat (first | apply Kd.R_alloc | apply Kd.R_drewN | apply Kd.R_drew)); exact HO_5.out) b210 (Nat.le_of_eq hg.symm)) hb); have n1_ := aM (lT (by repeat (first | (with_reducible first | exact HB.out | apply lA | apply lN | apply lD) | exact HB.out)) hb); have n2_ := aM (hbox); have n3_ := aM ((by rw [hg]; exact (lZ (by repeat (first | (with_reducible first | exact HB.out | apply lA | apply lN | apply lD) | exact HB.out))) : w.heap.size ≤ b210)); have n4_ := aM ((by rw [hg]; exact (lZ (by repeat (first | (with_reducible first | exact HB.out | apply lA | apply lN | apply lD) | exact HB.out))) : w.heap.size ≤ b210)); clear HO_5; clear HB; have HO_5 := n0_; have HB := n1_; have BK210 := n2_; have GW210 := n3_; have GE210 := n4_; clear n0_ n1_ n2_ n3_ n4_; clear hb hbox hg))
    go_loopg [8] k1 (fun kq v8 w' => ∃ (x8_2 : Int) (x211000_2 : Int) (x211001_2 : Int), v8 = .int .i64 x8_2 ∧ Aside0 (billiardref18_Shifts.l1 kq l0 l1 x5_1 x6_1 x8_2 x211000_2 x211001_2 = some r) ∧ Aside0 (kq ≤ k1) ∧ Aside0 (Kd.R k53 53 w' w.heap.size (fun k_ => k_ ≠ b210) u5 x5_1) ∧ Aside0 (w'.heap[b210]? = some (.cells #[.int .i64 x211000_2, .int .i64 x211001_2] 53 (0, 0))) ∧ Aside0 (Below w.heap.size w w'))
    case atStart => exact ⟨(0), (0), (0), (by first | rfl | (simp; done) | (simp [*]; done)), H', ⟨Nat.le_refl _⟩, ⟨by (with_reducible repeat (first | apply Kd.R_alloc | apply Kd.R_drewN | apply Kd.R_drew)); exact Kd.R_mono HO_5.out (fun _ hk => hk.2)⟩, ⟨by (with_reducible repeat first | apply bN | apply bD | apply bA); exact BK210.out⟩, ⟨by repeat (first | (with_reducible first | exact HB.out | apply lA | apply lN | apply lD | refine lS ?_ GE210.out) | exact HB.out)⟩⟩
    case round =>
     clear H'
     try clear c1
     try clear p2
     try clear c3
     try clear c3b0
     try clear p2
     obtain ⟨x8_2, x211000_2, x211001_2, rfl, HA, HK2, HO_5, BK210, HB⟩ := hrel
     cases gk with
     | zero => exact absurd HA.out (by simp [billiardref18_Shifts.l1])
     | succ k2 =>
      have H := HA.out
      clear HA
      simp only [billiardref18_Shifts.l1] at H
      by_cases c5 : x8_2 < (l1.length : Int)
      ·rw [if_pos c5] at H
       have c5b0 : decide (x8_2 < (l1.length : Int)) = true := decide_eq_true c5
       clear c5
       by_cases c6 : 0 ≤ x8_2
       ·rw [if_pos c6] at H
        have c6b0 : decide (0 ≤ x8_2) = true := decide_eq_true c6
        clear c6
        have HC7 := aM H
        clear H
        have p214 : 0 ≤ (x8_2 : Int) := of_decide_eq_true (by first | (with_reducible assumption) | assumption)
        have q214 : x8_2 < (l1.length : Int) := of_decide_eq_true (by first | (with_reducible assumption) | assumption)
        obtain ⟨ad214, e214, hx214_0, hx214_1, hx214_2, hx214_3, hx214_4⟩ := at_T37 HR1.out x8_2 p214 q214
        cases e214
        replace hx214_0 := (HB.out.cell (World.block_lt_of_cell? w _ hx214_0)).trans hx214_0
        replace hx214_1 := (HB.out.cell (World.block_lt_of_cell? w _ hx214_1)).trans hx214_1
        replace hx214_2 := (HB.out.cell (World.block_lt_of_cell? w _ hx214_2)).trans hx214_2
        replace hx214_3 := (HB.out.cell (World.block_lt_of_cell? w _ hx214_3)).trans hx214_3
        replace hx214_4 := (HB.out.cell (World.block_lt_of_cell? w _ hx214_4)).trans hx214_4
        replace p214 := eq_true p214
        replace q214 := eq_true q214
        go_upto_region 10 with (first | ((with_reducible refine gate_dst (N := 9) rfl ?_); refine box_event ?hg (N := 9) ?hd (cs := #[.int .u32 0, .int .u32 0, .int .i32 0, .int .i32 0, .int .i32 0]) (t := 37) ?hr ?_; (case hd => rfl); (case hg => rfl); (case hr => first | (go_simp; done) | (go_simp; rfl)); intro b215 hg w8 hbox hb; have n0_ := aM (Kd.R_below (by (with_reducible repeat (first | apply Kd.R_alloc | apply Kd.R_drewN | apply Kd.R_drew)); exact HO_5.out) hb); have n1_ := aM (bB (by (with_reducible repeat first | apply bN | apply bD | apply bA); exact BK210.out) hb); have n2_ := aM (lT (by repeat (first | (with_reducible first | exact HB.out | apply lA | apply lN | apply lD | refine lS ?_ GE210.out) | exact HB.out)) hb); have n3_ := aM (hbox); have n4_ := aM ((by rw [hg]; exact (lZ (by repeat (first | (with_reducible first | exact HB.out | apply lA | apply lN | apply lD | refine lS ?_ GE210.out) | exact HB.out))) : w.heap.size ≤ b215)); have n5_ := aM ((by rw [hg]; exact (lZ (by repeat (first | (with_reducible first | exact HB.out | apply lA | apply lN | apply lD | refine lS ?_ GE210.out) | exact HB.out))) : w.heap.size ≤ b215)); have n6_ := aM ((by rw [hg]; exact Nat.ne_of_lt (bL (g := b210) (by (with_reducible repeat first | apply bN | apply bD | apply bA); exact BK210.out)) : b210 ≠ b215)); have n7_ := aM ((by rw [hg]; exact Nat.ne_of_gt (bL (g := b210) (by (with_reducible repeat first | apply bN | apply bD | apply bA); exact BK210.out)) : b215 ≠ b210)); clear HO_5; clear BK210; clear HB; have HO_5 := n0_; have BK210 := n1_; have HB := n2_; have BK215 := n3_; have GW215 := n4_; have GE215 := n5_; have N0_ := n6_; have N1_ := n7_; clear n0_ n1_ n2_ n3_ n4_ n5_ n6_ n7_; clear hb hbox hg; have hnb9 := N1_.out; have hnc9 := N0_.out; have hcz10_0 : w8.cell? ⟨b215, 0, none⟩ = some (.int .u32 0) := (bC BK215.out 0).trans rfl; have hcz10_1 : w8.cell? ⟨b215, 1, none⟩ = some (.int .u32 0) := (bC BK215.out 1).trans rfl; have hcz10_2 : w8.cell? ⟨b215, 2, none⟩ = some (.int .i32 0) := (bC BK215.out 2).trans rfl; have hcz10_3 : w8.cell? ⟨b215, 3, none⟩ = some (.int .i32 0) := (bC BK215.out 3).trans rfl; have hcz10_4 : w8.cell? ⟨b215, 4, none⟩ = some (.int .i32 0) := (bC BK215.out 4).trans rfl; have hfz10_0 := bF BK215.out 0; have hfz10_1 := bF BK215.out 1; have hfz10_2 := bF BK215.out 2; have hfz10_3 := bF BK215.out 3; have hfz10_4 := bF BK215.out 4))
        (try simp only [Act.put, sA, sB, sC])
        go_cut [50] (fun v50 wc => ∃ (kq : Nat) (x50_6 : Bool), v50 = .bool x50_6 ∧ Aside0 (billiardref18_Shifts.j2 kq l0 l1 x5_1 x6_1 x8_2 x50_6 x211000_2 x211001_2 ((rd_T37 l1 x8_2).f0.f0) ((rd_T37 l1 x8_2).f0.f1) ((rd_T37 l1 x8_2).f1.f0) ((rd_T37 l1 x8_2).f1.f1) ((rd_T37 l1 x8_2).f2) = some r) ∧ Aside0 (kq ≤ k2) ∧ Aside0 (Kd.R k53 53 wc w.heap.size (fun k_ => k_ ≠ b210) u5 x5_1) ∧ Aside0 (wc.heap[b210]? = some (.cells #[.int .i64 x211000_2, .int .i64 x211001_2] 53 (0, 0))) ∧ Aside0 (wc.heap[b215]? = some (.cells #[.int .u32 ((rd_T37 l1 x8_2).f0.f0), .int .u32 ((rd_T37 l1 x8_2).f0.f1), .int .i32 ((rd_T37 l1 x8_2).f1.f0), .int .i32 ((rd_T37 l1 x8_2).f1.f1), .int .i32 ((rd_T37 l1 x8_2).f2)] 37 (0, 0))) ∧ Aside0 (Below w.heap.size w wc))
        case first =>
         have H := HC7.out
         clear HC7
         by_cases c11 : 0 ≤ x6_1
         ·rw [if_pos c11] at H
          have c11b0 : decide (0 ≤ x6_1) = true := decide_eq_true c11
          clear c11
          (first | rw [c11b0] | (simp only [i64_w, i32_w]; rw [c11b0]) | skip)
          by_cases c12 : x6_1 < (l0.length : Int)
          ·rw [if_pos c12] at H
           have c12b0 : decide (x6_1 < (l0.length : Int)) = true := decide_eq_true c12
           clear c12
           by_cases c13 : ((rd_T37 l1 x8_2).f0.f0) = ((rd_T32 l0 x6_1).f0)
           ·rw [if_pos c13] at H
            have c13b0 : (((rd_T37 l1 x8_2).f0.f0) == ((rd_T32 l0 x6_1).f0)) = true := beq_iff_eq.mpr c13
            have c13b1 : (((rd_T37 l1 x8_2).f0.f0) != ((rd_T32 l0 x6_1).f0)) = false := bne_eq_false_iff_eq.mpr c13
            clear c13
            have H' := aM H
            clear H
            try go_wp2
            have n0_ : Aside0 (Kd.R k53 53 (((((w8.setCell ⟨b215, 0, none⟩ (.int .u32 ((rd_T37 l1 x8_2).f0.f0))).setCell ⟨b215, 1, none⟩ (.int .u32 ((rd_T37 l1 x8_2).f0.f1))).setCell ⟨b215, 2, none⟩ (.int .i32 ((rd_T37 l1 x8_2).f1.f0))).setCell ⟨b215, 3, none⟩ (.int .i32 ((rd_T37 l1 x8_2).f1.f1))).setCell ⟨b215, 4, none⟩ (.int .i32 ((rd_T37 l1 x8_2).f2))) w.heap.size (fun k_ => k_ ≠ b210) u5 x5_1) := ⟨by (with_reducible repeat (first | apply Kd.R_alloc | apply Kd.R_drewN | apply Kd.R_drew)); exact Kd.R_mono (Kd.R_far (p := ⟨b215, 4, none⟩) (Kd.R_far (p := ⟨b215, 3, none⟩) (Kd.R_far (p := ⟨b215, 2, none⟩) (Kd.R_far (p := ⟨b215, 1, none⟩) (Kd.R_far (p := ⟨b215, 0, none⟩) (Kd.R_types HO_5.out BK215.out (by decide)) (fun _ hk => hk.2) (.int .u32 ((rd_T37 l1 x8_2).f0.f0))) (fun _ hk => hk.2) (.int .u32 ((rd_T37 l1 x8_2).f0.f1))) (fun _ hk => hk.2) (.int .i32 ((rd_T37 l1 x8_2).f1.f0))) (fun _ hk => hk.2) (.int .i32 ((rd_T37 l1 x8_2).f1.f1))) (fun _ hk => hk.2) (.int .i32 ((rd_T37 l1 x8_2).f2))) (fun _ hk => hk.1)⟩
            have n1_ : Aside0 ((((((w8.setCell ⟨b215, 0, none⟩ (.int .u32 ((rd_T37 l1 x8_2).f0.f0))).setCell ⟨b215, 1, none⟩ (.int .u32 ((rd_T37 l1 x8_2).f0.f1))).setCell ⟨b215, 2, none⟩ (.int .i32 ((rd_T37 l1 x8_2).f1.f0))).setCell ⟨b215, 3, none⟩ (.int .i32 ((rd_T37 l1 x8_2).f1.f1))).setCell ⟨b215, 4, none⟩ (.int .i32 ((rd_T37 l1 x8_2).f2))).heap[b210]? = some (.cells #[.int .i64 x211000_2, .int .i64 x211001_2] 53 (0, 0))) := ⟨by (with_reducible repeat first | apply bN | apply bD | apply bA); refine bR ?_ N0_.out _; (with_reducible repeat first | apply bN | apply bD | apply bA); refine bR ?_ N0_.out _; (with_reducible repeat first | apply bN | apply bD | apply bA); refine bR ?_ N0_.out _; (with_reducible repeat first | apply bN | apply bD | apply bA); refine bR ?_ N0_.out _; (with_reducible repeat first | apply bN | apply bD | apply bA); refine bR ?_ N0_.out _; (with_reducible repeat first | apply bN | apply bD | apply bA); exact BK210.out⟩
            have n2_ : Aside0 ((((((w8.setCell ⟨b215, 0, none⟩ (.int .u32 ((rd_T37 l1 x8_2).f0.f0))).setCell ⟨b215, 1, none⟩ (.int .u32 ((rd_T37 l1 x8_2).f0.f1))).setCell ⟨b215, 2, none⟩ (.int .i32 ((rd_T37 l1 x8_2).f1.f0))).setCell ⟨b215, 3, none⟩ (.int .i32 ((rd_T37 l1 x8_2).f1.f1))).setCell ⟨b215, 4, none⟩ (.int .i32 ((rd_T37 l1 x8_2).f2))).heap[b215]? = some (.cells #[.int .u32 ((rd_T37 l1 x8_2).f0.f0), .int .u32 ((rd_T37 l1 x8_2).f0.f1), .int .i32 ((rd_T37 l1 x8_2).f1.f0), .int .i32 ((rd_T37 l1 x8_2).f1.f1), .int .i32 ((rd_T37 l1 x8_2).f2)] 37 (0, 0))) := ⟨by (with_reducible repeat first | apply bN | apply bD | apply bA); refine bP (cs := #[.int .u32 ((rd_T37 l1 x8_2).f0.f0), .int .u32 ((rd_T37 l1 x8_2).f0.f1), .int .i32 ((rd_T37 l1 x8_2).f1.f0), .int .i32 ((rd_T37 l1 x8_2).f1.f1), .int .i32 0]) ?_ 4 _ rfl; (with_reducible repeat first | apply bN | apply bD | apply bA); refine bP (cs := #[.int .u32 ((rd_T37 l1 x8_2).f0.f0), .int .u32 ((rd_T37 l1 x8_2).f0.f1), .int .i32 ((rd_T37 l1 x8_2).f1.f0), .int .i32 0, .int .i32 0]) ?_ 3 _ rfl; (with_reducible repeat first | apply bN | apply bD | apply bA); refine bP (cs := #[.int .u32 ((rd_T37 l1 x8_2).f0.f0), .int .u32 ((rd_T37 l1 x8_2).f0.f1), .int .i32 0, .int .i32 0, .int .i32 0]) ?_ 2 _ rfl; (with_reducible repeat first | apply bN | apply bD | apply bA); refine bP (cs := #[.int .u32 ((rd_T37 l1 x8_2).f0.f0), .int .u32 0, .int .i32 0, .int .i32 0, .int .i32 0]) ?_ 1 _ rfl; (with_reducible repeat first | apply bN | apply bD | apply bA); refine bP (cs := #[.int .u32 0, .int .u32 0, .int .i32 0, .int .i32 0, .int .i32 0]) ?_ 0 _ rfl; (with_reducible repeat first | apply bN | apply bD | apply bA); exact BK215.out⟩
            have n3_ : Aside0 (Below w.heap.size w (((((w8.setCell ⟨b215, 0, none⟩ (.int .u32 ((rd_T37 l1 x8_2).f0.f0))).setCell ⟨b215, 1, none⟩ (.int .u32 ((rd_T37 l1 x8_2).f0.f1))).setCell ⟨b215, 2, none⟩ (.int .i32 ((rd_T37 l1 x8_2).f1.f0))).setCell ⟨b215, 3, none⟩ (.int .i32 ((rd_T37 l1 x8_2).f1.f1))).setCell ⟨b215, 4, none⟩ (.int .i32 ((rd_T37 l1 x8_2).f2)))) := ⟨by repeat (first | (with_reducible first | exact HB.out | apply lA | apply lN | apply lD | refine lS ?_ GE210.out | refine lS ?_ GE215.out) | exact HB.out)⟩
            (try clear HO_5)
            (try clear BK210)
            (try clear BK215)
            (try clear HB)
            generalize (((((w8.setCell ⟨b215, 0, none⟩ (.int .u32 ((rd_T37 l1 x8_2).f0.f0))).setCell ⟨b215, 1, none⟩ (.int .u32 ((rd_T37 l1 x8_2).f0.f1))).setCell ⟨b215, 2, none⟩ (.int .i32 ((rd_T37 l1 x8_2).f1.f0))).setCell ⟨b215, 3, none⟩ (.int .i32 ((rd_T37 l1 x8_2).f1.f1))).setCell ⟨b215, 4, none⟩ (.int .i32 ((rd_T37 l1 x8_2).f2))) = w14 at n0_ n1_ n2_ n3_ ⊢
            have HO_5 := n0_
            have BK210 := n1_
            have BK215 := n2_
            have HB := n3_
            clear n0_ n1_ n2_ n3_
            have n0_ := aM (Kd.R_drew HO_5.out)
            have n1_ := aM (bD BK210.out)
            have n2_ := aM (bD BK215.out)
            have n3_ := aM (lD HB.out)
            clear HO_5
            clear BK210
            clear BK215
            clear HB
            have HO_5 := n0_
            have BK210 := n1_
            have BK215 := n2_
            have HB := n3_
            clear n0_ n1_ n2_ n3_
            have p216 : 0 ≤ (x6_1 : Int) := of_decide_eq_true (by first | (with_reducible assumption) | assumption)
            have q216 : x6_1 < (l0.length : Int) := of_decide_eq_true (by first | (with_reducible assumption) | assumption)
            obtain ⟨ad216, e216, hx216_0, hx216_1, hx216_2, hx216_3, hx216_4, hx216_5, hx216_6, hx216_7, hx216_8, hx216_9⟩ := at_T32 HR0.out x6_1 p216 q216
            have hw216_9 := hx216_9
            have hw216_8 := hx216_8
            have hw216_7 := hx216_7
            have hw216_6 := hx216_6
            have hw216_5 := hx216_5
            have hw216_4 := hx216_4
            have hw216_3 := hx216_3
            have hw216_2 := hx216_2
            have hw216_1 := hx216_1
            have hw216_0 := hx216_0
            cases e216
            replace hx216_0 := (HB.out.cell (World.block_lt_of_cell? w _ hx216_0)).trans hx216_0
            replace hx216_1 := (HB.out.cell (World.block_lt_of_cell? w _ hx216_1)).trans hx216_1
            replace hx216_2 := (HB.out.cell (World.block_lt_of_cell? w _ hx216_2)).trans hx216_2
            replace hx216_3 := (HB.out.cell (World.block_lt_of_cell? w _ hx216_3)).trans hx216_3
            replace hx216_4 := (HB.out.cell (World.block_lt_of_cell? w _ hx216_4)).trans hx216_4
            replace hx216_5 := (HB.out.cell (World.block_lt_of_cell? w _ hx216_5)).trans hx216_5
            replace hx216_6 := (HB.out.cell (World.block_lt_of_cell? w _ hx216_6)).trans hx216_6
            replace hx216_7 := (HB.out.cell (World.block_lt_of_cell? w _ hx216_7)).trans hx216_7
            replace hx216_8 := (HB.out.cell (World.block_lt_of_cell? w _ hx216_8)).trans hx216_8
            replace hx216_9 := (HB.out.cell (World.block_lt_of_cell? w _ hx216_9)).trans hx216_9
            replace p216 := eq_true p216
            replace q216 := eq_true q216
            refine start_ (n := 20) (S := fun w' => w'.cell? ⟨b215, 0, none⟩ = some (.int .u32 ((rd_T37 l1 x8_2).f0.f0)) ∧ w'.cell? ⟨b215, 1, none⟩ = some (.int .u32 ((rd_T37 l1 x8_2).f0.f1)) ∧ w'.cell? ⟨b215, 2, none⟩ = some (.int .i32 ((rd_T37 l1 x8_2).f1.f0)) ∧ w'.cell? ⟨b215, 3, none⟩ = some (.int .i32 ((rd_T37 l1 x8_2).f1.f1)) ∧ w'.cell? ⟨b215, 4, none⟩ = some (.int .i32 ((rd_T37 l1 x8_2).f2)) ∧ w'.cell? (ad216.add ((x6_1).toNat * 10)) = some (.int .u32 ((rd_T32 l0 x6_1).f0)) ∧ w'.cell? ⟨(ad216.add ((x6_1).toNat * 10)).block, (ad216.add ((x6_1).toNat * 10)).off + 1, none⟩ = some (.int .i32 ((rd_T32 l0 x6_1).f1)) ∧ w'.cell? ⟨(ad216.add ((x6_1).toNat * 10)).block, (ad216.add ((x6_1).toNat * 10)).off + 2, none⟩ = some (.int .i32 ((rd_T32 l0 x6_1).f2.f0)) ∧ w'.cell? ⟨(ad216.add ((x6_1).toNat * 10)).block, (ad216.add ((x6_1).toNat * 10)).off + 3, none⟩ = some (.int .i32 ((rd_T32 l0 x6_1).f2.f1)) ∧ w'.cell? ⟨(ad216.add ((x6_1).toNat * 10)).block, (ad216.add ((x6_1).toNat * 10)).off + 4, none⟩ = some (.int .i32 ((rd_T32 l0 x6_1).f3)) ∧ w'.cell? ⟨(ad216.add ((x6_1).toNat * 10)).block, (ad216.add ((x6_1).toNat * 10)).off + 5, none⟩ = some (.int .i32 ((rd_T32 l0 x6_1).f4)) ∧ w'.cell? ⟨(ad216.add ((x6_1).toNat * 10)).block, (ad216.add ((x6_1).toNat * 10)).off + 6, none⟩ = some (.int .i32 ((rd_T32 l0 x6_1).f5.f0)) ∧ w'.cell? ⟨(ad216.add ((x6_1).toNat * 10)).block, (ad216.add ((x6_1).toNat * 10)).off + 7, none⟩ = some (.int .i32 ((rd_T32 l0 x6_1).f5.f1)) ∧ w'.cell? ⟨(ad216.add ((x6_1).toNat * 10)).block, (ad216.add ((x6_1).toNat * 10)).off + 8, none⟩ = some (.int .i32 ((rd_T32 l0 x6_1).f6.f0)) ∧ w'.cell? ⟨(ad216.add ((x6_1).toNat * 10)).block, (ad216.add ((x6_1).toNat * 10)).off + 9, none⟩ = some (.int .i32 ((rd_T32 l0 x6_1).f6.f1))) (ds := []) #[F,F,F,F,F,F,F,F,F,F,F,F,F,F,F,F,F,F,F,F] (by kernel_rfl) rfl rfl ⟨(bC BK215.out 0).trans rfl, (bC BK215.out 1).trans rfl, (bC BK215.out 2).trans rfl, (bC BK215.out 3).trans rfl, (bC BK215.out 4).trans rfl, ((HB.out.cell (World.block_lt_of_cell? w _ hw216_0)).trans hw216_0), ((HB.out.cell (World.block_lt_of_cell? w _ hw216_1)).trans hw216_1), ((HB.out.cell (World.block_lt_of_cell? w _ hw216_2)).trans hw216_2), ((HB.out.cell (World.block_lt_of_cell? w _ hw216_3)).trans hw216_3), ((HB.out.cell (World.block_lt_of_cell? w _ hw216_4)).trans hw216_4), ((HB.out.cell (World.block_lt_of_cell? w _ hw216_5)).trans hw216_5), ((HB.out.cell (World.block_lt_of_cell? w _ hw216_6)).trans hw216_6), ((HB.out.cell (World.block_lt_of_cell? w _ hw216_7)).trans hw216_7), ((HB.out.cell (World.block_lt_of_cell? w _ hw216_8)).trans hw216_8), ((HB.out.cell (World.block_lt_of_cell? w _ hw216_9)).trans hw216_9)⟩ (fun hHeld => ?_); refine with_tabW billiardref18_Shifts.tab10 billiardref18_Shifts.bits10 (fun HT_ HW_ => ?_)
            generalize w14.drew = w15 at HO_5 BK210 BK215 HB hx216_0 hx216_1 hx216_2 hx216_3 hx216_4 hx216_5 hx216_6 hx216_7 hx216_8 hx216_9 hHeld ⊢
            refine pure_ (i := 0) (N := some 31) (v := ?_) (a' := ?_) #[T,F,F,F,F,F,F,F,F,F,F,F,F,F,F,F,F,F,F,F] rfl rfl (any_of HT_.out (by kernel_rfl)) (fun _ _ _ h => h) (Or.inl ⟨by rfl, ?_⟩) ?_ ?_
            rotate_left
            ·intro w'
             go_simp
             with_reducible rfl
            rotate_left
            ·simp only [Act.put, sA, sB, sC, i64_w, i32_w]
             rfl
            refine pure_ (i := 1) (N := some 32) (v := ?_) (a' := ?_) #[T,T,F,F,F,F,F,F,F,F,F,F,F,F,F,F,F,F,F,F] rfl rfl (any_of HT_.out (by kernel_rfl)) (fun _ _ _ h => h) (Or.inl ⟨by rfl, ?_⟩) ?_ ?_
            rotate_left
            ·intro w'
             go_simp
             with_reducible rfl
            rotate_left
            ·simp only [Act.put, sA, sB, sC, i64_w, i32_w]
             rfl
            refine pure_ (i := 3) (N := some 34) (v := ?_) (a' := ?_) #[T,T,F,T,F,F,F,F,F,F,F,F,F,F,F,F,F,F,F,F] rfl rfl (any_of HT_.out (by kernel_rfl)) (fun _ _ _ h => h) (Or.inl ⟨by rfl, ?_⟩) ?_ ?_
            rotate_left
            ·intro w'
             go_simp
             with_reducible rfl
            rotate_left
            ·simp only [Act.put, sA, sB, sC, i64_w, i32_w]
             rfl
            refine pure_ (i := 4) (N := some 35) (v := ?_) (a' := ?_) #[T,T,F,T,T,F,F,F,F,F,F,F,F,F,F,F,F,F,F,F] rfl rfl (any_of HT_.out (by kernel_rfl)) (fun _ _ _ h => h) (Or.inl ⟨by rfl, ?_⟩) ?_ ?_
            rotate_left
            ·intro w'
             go_simp
             with_reducible rfl
            rotate_left
            ·simp only [Act.put, sA, sB, sC, i64_w, i32_w]
             rfl
            refine pure_ (i := 5) (N := some 36) (v := ?_) (a' := ?_) #[T,T,F,T,T,T,F,F,F,F,F,F,F,F,F,F,F,F,F,F] rfl rfl (any_of HT_.out (by kernel_rfl)) (fun _ _ _ h => h) (Or.inl ⟨by rfl, ?_⟩) ?_ ?_
            rotate_left
            ·intro w'
             go_simp
             with_reducible rfl
            rotate_left
            ·simp only [Act.put, sA, sB, sC, i64_w, i32_w]
             rfl
            refine pure_ (i := 6) (N := some 37) (v := ?_) (a' := ?_) #[T,T,F,T,T,T,T,F,F,F,F,F,F,F,F,F,F,F,F,F] rfl rfl (any_of HT_.out (by kernel_rfl)) (fun _ _ _ h => h) (Or.inl ⟨by rfl, ?_⟩) ?_ ?_
            rotate_left
            ·intro w'
             go_simp
             with_reducible rfl
            rotate_left
            ·simp only [Act.put, sA, sB, sC, i64_w, i32_w]
             rfl
            refine take_ (i := 2) (N := some 33) (v := ?_) (a' := ?_) #[T,T,T,T,T,T,T,F,F,F,F,F,F,F,F,F,F,F,F,F] rfl rfl (take_ofW HT_.out HW_.out (by kernel_rfl)) (fun _ _ _ h => h) (Or.inl ⟨by rfl, ?_⟩) hHeld ?_ ?_
            rotate_left
            ·rintro w' ⟨s0, s1, s2, s3, s4, s5, s6, s7, s8, s9, s10, s11, s12, s13, s14⟩
             go_simp
             with_reducible rfl
            rotate_left
            ·simp only [Act.put, sA, sB, sC, i64_w, i32_w]
             rfl
            refine take_ (i := 7) (N := some 38) (v := ?_) (a' := ?_) #[T,T,T,T,T,T,T,T,F,F,F,F,F,F,F,F,F,F,F,F] rfl rfl (take_ofW HT_.out HW_.out (by kernel_rfl)) (fun _ _ _ h => h) (Or.inl ⟨by rfl, ?_⟩) hHeld ?_ ?_
            rotate_left
            ·rintro w' ⟨s0, s1, s2, s3, s4, s5, s6, s7, s8, s9, s10, s11, s12, s13, s14⟩
             go_simp
             with_reducible rfl
            rotate_left
            ·simp only [Act.put, sA, sB, sC, i64_w, i32_w]
             rfl
            refine pure_ (i := 8) (N := some 39) (v := ?_) (a' := ?_) #[T,T,T,T,T,T,T,T,T,F,F,F,F,F,F,F,F,F,F,F] rfl rfl (any_of HT_.out (by kernel_rfl)) (fun _ _ _ h => h) (Or.inl ⟨by rfl, ?_⟩) ?_ ?_
            rotate_left
            ·intro w'
             go_simp
             with_reducible rfl
            rotate_left
            ·simp only [Act.put, sA, sB, sC, i64_w, i32_w]
             rfl
            refine pure_ (i := 9) (N := some 40) (v := ?_) (a' := ?_) #[T,T,T,T,T,T,T,T,T,T,F,F,F,F,F,F,F,F,F,F] rfl rfl (any_of HT_.out (by kernel_rfl)) (fun _ _ _ h => h) (Or.inl ⟨by rfl, ?_⟩) ?_ ?_
            rotate_left
            ·intro w'
             go_simp
             with_reducible rfl
            rotate_left
            ·simp only [Act.put, sA, sB, sC, i64_w, i32_w]
             rfl
            refine pure_ (i := 10) (N := some 41) (v := undef) (a' := ?_) #[T,T,T,T,T,T,T,T,T,T,T,F,F,F,F,F,F,F,F,F] rfl rfl (any_of HT_.out (by kernel_rfl)) (fun _ _ _ h => h) (Or.inr ⟨by rfl, rfl⟩) ?_ ?_
            rotate_left
            ·simp only [Act.put, sA, sB, sC, i64_w, i32_w]
             rfl
            refine pure_ (i := 11) (N := some 42) (v := undef) (a' := ?_) #[T,T,T,T,T,T,T,T,T,T,T,T,F,F,F,F,F,F,F,F] rfl rfl (any_of HT_.out (by kernel_rfl)) (fun _ _ _ h => h) (Or.inr ⟨by rfl, rfl⟩) ?_ ?_
            rotate_left
            ·simp only [Act.put, sA, sB, sC, i64_w, i32_w]
             rfl
            refine pure_ (i := 12) (N := some 43) (v := undef) (a' := ?_) #[T,T,T,T,T,T,T,T,T,T,T,T,T,F,F,F,F,F,F,F] rfl rfl (any_of HT_.out (by kernel_rfl)) (fun _ _ _ h => h) (Or.inr ⟨by rfl, rfl⟩) ?_ ?_
            rotate_left
            ·simp only [Act.put, sA, sB, sC, i64_w, i32_w]
             rfl
            refine pure_ (i := 13) (N := some 44) (v := undef) (a' := ?_) #[T,T,T,T,T,T,T,T,T,T,T,T,T,T,F,F,F,F,F,F] rfl rfl (any_of HT_.out (by kernel_rfl)) (fun _ _ _ h => h) (Or.inr ⟨by rfl, rfl⟩) ?_ ?_
            rotate_left
            ·simp only [Act.put, sA, sB, sC, i64_w, i32_w]
             rfl
            refine pure_ (i := 14) (N := some 45) (v := undef) (a' := ?_) #[T,T,T,T,T,T,T,T,T,T,T,T,T,T,T,F,F,F,F,F] rfl rfl (any_of HT_.out (by kernel_rfl)) (fun _ _ _ h => h) (Or.inr ⟨by rfl, rfl⟩) ?_ ?_
            rotate_left
            ·simp only [Act.put, sA, sB, sC, i64_w, i32_w]
             rfl
            refine pure_ (i := 15) (N := some 46) (v := undef) (a' := ?_) #[T,T,T,T,T,T,T,T,T,T,T,T,T,T,T,T,F,F,F,F] rfl rfl (any_of HT_.out (by kernel_rfl)) (fun _ _ _ h => h) (Or.inr ⟨by rfl, rfl⟩) ?_ ?_
            rotate_left
            ·simp only [Act.put, sA, sB, sC, i64_w, i32_w]
             rfl
            refine pure_ (i := 16) (N := some 47) (v := undef) (a' := ?_) #[T,T,T,T,T,T,T,T,T,T,T,T,T,T,T,T,T,F,F,F] rfl rfl (any_of HT_.out (by kernel_rfl)) (fun _ _ _ h => h) (Or.inr ⟨by rfl, rfl⟩) ?_ ?_
            rotate_left
            ·simp only [Act.put, sA, sB, sC, i64_w, i32_w]
             rfl
            refine pure_ (i := 17) (N := some 48) (v := undef) (a' := ?_) #[T,T,T,T,T,T,T,T,T,T,T,T,T,T,T,T,T,T,F,F] rfl rfl (any_of HT_.out (by kernel_rfl)) (fun _ _ _ h => h) (Or.inr ⟨by rfl, rfl⟩) ?_ ?_
            rotate_left
            ·simp only [Act.put, sA, sB, sC, i64_w, i32_w]
             rfl
            refine pure_ (i := 18) (N := some 49) (v := undef) (a' := ?_) #[T,T,T,T,T,T,T,T,T,T,T,T,T,T,T,T,T,T,T,F] rfl rfl (any_of HT_.out (by kernel_rfl)) (fun _ _ _ h => h) (Or.inr ⟨by rfl, rfl⟩) ?_ ?_
            rotate_left
            ·simp only [Act.put, sA, sB, sC, i64_w, i32_w]
             rfl
            refine pure_ (i := 19) (N := some 50) (v := ?_) (a' := ?_) #[T,T,T,T,T,T,T,T,T,T,T,T,T,T,T,T,T,T,T,T] rfl rfl (any_of HT_.out (by kernel_rfl)) (fun _ _ _ h => h) (Or.inl ⟨by rfl, ?_⟩) ?_ ?_
            rotate_left
            ·intro w'
             go_simp
             with_reducible rfl
            rotate_left
            ·simp only [Act.put, sA, sB, sC, i64_w, i32_w]
             rfl
            refine done_ (done_of HT_.out (by kernel_rfl)) ?_
            try go_wp2
            go_meet
            case rel => exact ⟨_, (false), (by first | rfl | (simp; done) | (simp [*]; done)), H', ⟨by have := HK1.out; have := HK2.out; first | omega | exact Nat.le_refl _⟩, ⟨by (with_reducible repeat (first | apply Kd.R_alloc | apply Kd.R_drewN | apply Kd.R_drew)); exact HO_5.out⟩, ⟨by (with_reducible repeat first | apply bN | apply bD | apply bA); exact BK210.out⟩, ⟨by (with_reducible repeat first | apply bN | apply bD | apply bA); exact BK215.out⟩, ⟨by repeat (first | (with_reducible first | exact HB.out | apply lA | apply lN | apply lD | refine lS ?_ GE210.out | refine lS ?_ GE215.out) | exact HB.out)⟩⟩
           ·rw [if_neg c13] at H
            have c13b0 : (((rd_T37 l1 x8_2).f0.f0) == ((rd_T32 l0 x6_1).f0)) = false := beq_eq_false_iff_ne.mpr c13
            have c13b1 : (((rd_T37 l1 x8_2).f0.f0) != ((rd_T32 l0 x6_1).f0)) = true := bne_iff_ne.mpr c13
            have H' := aM H
            clear H
            try go_wp2
            have n0_ : Aside0 (Kd.R k53 53 (((((w8.setCell ⟨b215, 0, none⟩ (.int .u32 ((rd_T37 l1 x8_2).f0.f0))).setCell ⟨b215, 1, none⟩ (.int .u32 ((rd_T37 l1 x8_2).f0.f1))).setCell ⟨b215, 2, none⟩ (.int .i32 ((rd_T37 l1 x8_2).f1.f0))).setCell ⟨b215, 3, none⟩ (.int .i32 ((rd_T37 l1 x8_2).f1.f1))).setCell ⟨b215, 4, none⟩ (.int .i32 ((rd_T37 l1 x8_2).f2))) w.heap.size (fun k_ => k_ ≠ b210) u5 x5_1) := ⟨by (with_reducible repeat (first | apply Kd.R_alloc | apply Kd.R_drewN | apply Kd.R_drew)); exact Kd.R_mono (Kd.R_far (p := ⟨b215, 4, none⟩) (Kd.R_far (p := ⟨b215, 3, none⟩) (Kd.R_far (p := ⟨b215, 2, none⟩) (Kd.R_far (p := ⟨b215, 1, none⟩) (Kd.R_far (p := ⟨b215, 0, none⟩) (Kd.R_types HO_5.out BK215.out (by decide)) (fun _ hk => hk.2) (.int .u32 ((rd_T37 l1 x8_2).f0.f0))) (fun _ hk => hk.2) (.int .u32 ((rd_T37 l1 x8_2).f0.f1))) (fun _ hk => hk.2) (.int .i32 ((rd_T37 l1 x8_2).f1.f0))) (fun _ hk => hk.2) (.int .i32 ((rd_T37 l1 x8_2).f1.f1))) (fun _ hk => hk.2) (.int .i32 ((rd_T37 l1 x8_2).f2))) (fun _ hk => hk.1)⟩
            have n1_ : Aside0 ((((((w8.setCell ⟨b215, 0, none⟩ (.int .u32 ((rd_T37 l1 x8_2).f0.f0))).setCell ⟨b215, 1, none⟩ (.int .u32 ((rd_T37 l1 x8_2).f0.f1))).setCell ⟨b215, 2, none⟩ (.int .i32 ((rd_T37 l1 x8_2).f1.f0))).setCell ⟨b215, 3, none⟩ (.int .i32 ((rd_T37 l1 x8_2).f1.f1))).setCell ⟨b215, 4, none⟩ (.int .i32 ((rd_T37 l1 x8_2).f2))).heap[b210]? = some (.cells #[.int .i64 x211000_2, .int .i64 x211001_2] 53 (0, 0))) := ⟨by (with_reducible repeat first | apply bN | apply bD | apply bA); refine bR ?_ N0_.out _; (with_reducible repeat first | apply bN | apply bD | apply bA); refine bR ?_ N0_.out _; (with_reducible repeat first | apply bN | apply bD | apply bA); refine bR ?_ N0_.out _; (with_reducible repeat first | apply bN | apply bD | apply bA); refine bR ?_ N0_.out _; (with_reducible repeat first | apply bN | apply bD | apply bA); refine bR ?_ N0_.out _; (with_reducible repeat first | apply bN | apply bD | apply bA); exact BK210.out⟩
            have n2_ : Aside0 ((((((w8.setCell ⟨b215, 0, none⟩ (.int .u32 ((rd_T37 l1 x8_2).f0.f0))).setCell ⟨b215, 1, none⟩ (.int .u32 ((rd_T37 l1 x8_2).f0.f1))).setCell ⟨b215, 2, none⟩ (.int .i32 ((rd_T37 l1 x8_2).f1.f0))).setCell ⟨b215, 3, none⟩ (.int .i32 ((rd_T37 l1 x8_2).f1.f1))).setCell ⟨b215, 4, none⟩ (.int .i32 ((rd_T37 l1 x8_2).f2))).heap[b215]? = some (.cells #[.int .u32 ((rd_T37 l1 x8_2).f0.f0), .int .u32 ((rd_T37 l1 x8_2).f0.f1), .int .i32 ((rd_T37 l1 x8_2).f1.f0), .int .i32 ((rd_T37 l1 x8_2).f1.f1), .int .i32 ((rd_T37 l1 x8_2).f2)] 37 (0, 0))) := ⟨by (with_reducible repeat first | apply bN | apply bD | apply bA); refine bP (cs := #[.int .u32 ((rd_T37 l1 x8_2).f0.f0), .int .u32 ((rd_T37 l1 x8_2).f0.f1), .int .i32 ((rd_T37 l1 x8_2).f1.f0), .int .i32 ((rd_T37 l1 x8_2).f1.f1), .int .i32 0]) ?_ 4 _ rfl; (with_reducible repeat first | apply bN | apply bD | apply bA); refine bP (cs := #[.int .u32 ((rd_T37 l1 x8_2).f0.f0), .int .u32 ((rd_T37 l1 x8_2).f0.f1), .int .i32 ((rd_T37 l1 x8_2).f1.f0), .int .i32 0, .int .i32 0]) ?_ 3 _ rfl; (with_reducible repeat first | apply bN | apply bD | apply bA); refine bP (cs := #[.int .u32 ((rd_T37 l1 x8_2).f0.f0), .int .u32 ((rd_T37 l1 x8_2).f0.f1), .int .i32 0, .int .i32 0, .int .i32 0]) ?_ 2 _ rfl; (with_reducible repeat first | apply bN | apply bD | apply bA); refine bP (cs := #[.int .u32 ((rd_T37 l1 x8_2).f0.f0), .int .u32 0, .int .i32 0, .int .i32 0, .int .i32 0]) ?_ 1 _ rfl; (with_reducible repeat first | apply bN | apply bD | apply bA); refine bP (cs := #[.int .u32 0, .int .u32 0, .int .i32 0, .int .i32 0, .int .i32 0]) ?_ 0 _ rfl; (with_reducible repeat first | apply bN | apply bD | apply bA); exact BK215.out⟩
            have n3_ : Aside0 (Below w.heap.size w (((((w8.setCell ⟨b215, 0, none⟩ (.int .u32 ((rd_T37 l1 x8_2).f0.f0))).setCell ⟨b215, 1, none⟩ (.int .u32 ((rd_T37 l1 x8_2).f0.f1))).setCell ⟨b215, 2, none⟩ (.int .i32 ((rd_T37 l1 x8_2).f1.f0))).setCell ⟨b215, 3, none⟩ (.int .i32 ((rd_T37 l1 x8_2).f1.f1))).setCell ⟨b215, 4, none⟩ (.int .i32 ((rd_T37 l1 x8_2).f2)))) := ⟨by repeat (first | (with_reducible first | exact HB.out | apply lA | apply lN | apply lD | refine lS ?_ GE210.out | refine lS ?_ GE215.out) | exact HB.out)⟩
            (try clear HO_5)
            (try clear BK210)
            (try clear BK215)
            (try clear HB)
            generalize (((((w8.setCell ⟨b215, 0, none⟩ (.int .u32 ((rd_T37 l1 x8_2).f0.f0))).setCell ⟨b215, 1, none⟩ (.int .u32 ((rd_T37 l1 x8_2).f0.f1))).setCell ⟨b215, 2, none⟩ (.int .i32 ((rd_T37 l1 x8_2).f1.f0))).setCell ⟨b215, 3, none⟩ (.int .i32 ((rd_T37 l1 x8_2).f1.f1))).setCell ⟨b215, 4, none⟩ (.int .i32 ((rd_T37 l1 x8_2).f2))) = w16 at n0_ n1_ n2_ n3_ ⊢
            have HO_5 := n0_
            have BK210 := n1_
            have BK215 := n2_
            have HB := n3_
            clear n0_ n1_ n2_ n3_
            have n0_ := aM (Kd.R_drew HO_5.out)
            have n1_ := aM (bD BK210.out)
            have n2_ := aM (bD BK215.out)
            have n3_ := aM (lD HB.out)
            clear HO_5
            clear BK210
            clear BK215
            clear HB
            have HO_5 := n0_
            have BK210 := n1_
            have BK215 := n2_
            have HB := n3_
            clear n0_ n1_ n2_ n3_
            have p216 : 0 ≤ (x6_1 : Int) := of_decide_eq_true (by first | (with_reducible assumption) | assumption)
            have q216 : x6_1 < (l0.length : Int) := of_decide_eq_true (by first | (with_reducible assumption) | assumption)
            obtain ⟨ad216, e216, hx216_0, hx216_1, hx216_2, hx216_3, hx216_4, hx216_5, hx216_6, hx216_7, hx216_8, hx216_9⟩ := at_T32 HR0.out x6_1 p216 q216
            have hw216_9 := hx216_9
            have hw216_8 := hx216_8
            have hw216_7 := hx216_7
            have hw216_6 := hx216_6
            have hw216_5 := hx216_5
            have hw216_4 := hx216_4
            have hw216_3 := hx216_3
            have hw216_2 := hx216_2
            have hw216_1 := hx216_1
            have hw216_0 := hx216_0
            cases e216
            replace hx216_0 := (HB.out.cell (World.block_lt_of_cell? w _ hx216_0)).trans hx216_0
            replace hx216_1 := (HB.out.cell (World.block_lt_of_cell? w _ hx216_1)).trans hx216_1
            replace hx216_2 := (HB.out.cell (World.block_lt_of_cell? w _ hx216_2)).trans hx216_2
            replace hx216_3 := (HB.out.cell (World.block_lt_of_cell? w _ hx216_3)).trans hx216_3
            replace hx216_4 := (HB.out.cell (World.block_lt_of_cell? w _ hx216_4)).trans hx216_4
            replace hx216_5 := (HB.out.cell (World.block_lt_of_cell? w _ hx216_5)).trans hx216_5
            replace hx216_6 := (HB.out.cell (World.block_lt_of_cell? w _ hx216_6)).trans hx216_6
            replace hx216_7 := (HB.out.cell (World.block_lt_of_cell? w _ hx216_7)).trans hx216_7
            replace hx216_8 := (HB.out.cell (World.block_lt_of_cell? w _ hx216_8)).trans hx216_8
            replace hx216_9 := (HB.out.cell (World.block_lt_of_cell? w _ hx216_9)).trans hx216_9
            replace p216 := eq_true p216
            replace q216 := eq_true q216
            have p217 : 0 ≤ (x6_1 : Int) := of_decide_eq_true (by first | (with_reducible assumption) | assumption)
            have q217 : x6_1 < (l0.length : Int) := of_decide_eq_true (by first | (with_reducible assumption) | assumption)
            obtain ⟨ad217, e217, hx217_0, hx217_1, hx217_2, hx217_3, hx217_4, hx217_5, hx217_6, hx217_7, hx217_8, hx217_9⟩ := at_T32 HR0.out x6_1 p217 q217
            have hw217_9 := hx217_9
            have hw217_8 := hx217_8
            have hw217_7 := hx217_7
            have hw217_6 := hx217_6
            have hw217_5 := hx217_5
            have hw217_4 := hx217_4
            have hw217_3 := hx217_3
            have hw217_2 := hx217_2
            have hw217_1 := hx217_1
            have hw217_0 := hx217_0
            obtain rfl : ad216 = ad217 := (by injection e217)
            replace hx217_0 := (HB.out.cell (World.block_lt_of_cell? w _ hx217_0)).trans hx217_0
            replace hx217_1 := (HB.out.cell (World.block_lt_of_cell? w _ hx217_1)).trans hx217_1
            replace hx217_2 := (HB.out.cell (World.block_lt_of_cell? w _ hx217_2)).trans hx217_2
            replace hx217_3 := (HB.out.cell (World.block_lt_of_cell? w _ hx217_3)).trans hx217_3
            replace hx217_4 := (HB.out.cell (World.block_lt_of_cell? w _ hx217_4)).trans hx217_4
            replace hx217_5 := (HB.out.cell (World.block_lt_of_cell? w _ hx217_5)).trans hx217_5
            replace hx217_6 := (HB.out.cell (World.block_lt_of_cell? w _ hx217_6)).trans hx217_6
            replace hx217_7 := (HB.out.cell (World.block_lt_of_cell? w _ hx217_7)).trans hx217_7
            replace hx217_8 := (HB.out.cell (World.block_lt_of_cell? w _ hx217_8)).trans hx217_8
            replace hx217_9 := (HB.out.cell (World.block_lt_of_cell? w _ hx217_9)).trans hx217_9
            replace p217 := eq_true p217
            replace q217 := eq_true q217
            refine start_ (n := 20) (S := fun w' => w'.cell? ⟨b215, 0, none⟩ = some (.int .u32 ((rd_T37 l1 x8_2).f0.f0)) ∧ w'.cell? ⟨b215, 1, none⟩ = some (.int .u32 ((rd_T37 l1 x8_2).f0.f1)) ∧ w'.cell? ⟨b215, 2, none⟩ = some (.int .i32 ((rd_T37 l1 x8_2).f1.f0)) ∧ w'.cell? ⟨b215, 3, none⟩ = some (.int .i32 ((rd_T37 l1 x8_2).f1.f1)) ∧ w'.cell? ⟨b215, 4, none⟩ = some (.int .i32 ((rd_T37 l1 x8_2).f2)) ∧ w'.cell? (ad216.add ((x6_1).toNat * 10)) = some (.int .u32 ((rd_T32 l0 x6_1).f0)) ∧ w'.cell? ⟨(ad216.add ((x6_1).toNat * 10)).block, (ad216.add ((x6_1).toNat * 10)).off + 1, none⟩ = some (.int .i32 ((rd_T32 l0 x6_1).f1)) ∧ w'.cell? ⟨(ad216.add ((x6_1).toNat * 10)).block, (ad216.add ((x6_1).toNat * 10)).off + 2, none⟩ = some (.int .i32 ((rd_T32 l0 x6_1).f2.f0)) ∧ w'.cell? ⟨(ad216.add ((x6_1).toNat * 10)).block, (ad216.add ((x6_1).toNat * 10)).off + 3, none⟩ = some (.int .i32 ((rd_T32 l0 x6_1).f2.f1)) ∧ w'.cell? ⟨(ad216.add ((x6_1).toNat * 10)).block, (ad216.add ((x6_1).toNat * 10)).off + 4, none⟩ = some (.int .i32 ((rd_T32 l0 x6_1).f3)) ∧ w'.cell? ⟨(ad216.add ((x6_1).toNat * 10)).block, (ad216.add ((x6_1).toNat * 10)).off + 5, none⟩ = some (.int .i32 ((rd_T32 l0 x6_1).f4)) ∧ w'.cell? ⟨(ad216.add ((x6_1).toNat * 10)).block, (ad216.add ((x6_1).toNat * 10)).off + 6, none⟩ = some (.int .i32 ((rd_T32 l0 x6_1).f5.f0)) ∧ w'.cell? ⟨(ad216.add ((x6_1).toNat * 10)).block, (ad216.add ((x6_1).toNat * 10)).off + 7, none⟩ = some (.int .i32 ((rd_T32 l0 x6_1).f5.f1)) ∧ w'.cell? ⟨(ad216.add ((x6_1).toNat * 10)).block, (ad216.add ((x6_1).toNat * 10)).off + 8, none⟩ = some (.int .i32 ((rd_T32 l0 x6_1).f6.f0)) ∧ w'.cell? ⟨(ad216.add ((x6_1).toNat * 10)).block, (ad216.add ((x6_1).toNat * 10)).off + 9, none⟩ = some (.int .i32 ((rd_T32 l0 x6_1).f6.f1)) ∧ w'.cell? (ad216.add ((x6_1).toNat * 10)) = some (.int .u32 ((rd_T32 l0 x6_1).f0)) ∧ w'.cell? ⟨(ad216.add ((x6_1).toNat * 10)).block, (ad216.add ((x6_1).toNat * 10)).off + 1, none⟩ = some (.int .i32 ((rd_T32 l0 x6_1).f1)) ∧ w'.cell? ⟨(ad216.add ((x6_1).toNat * 10)).block, (ad216.add ((x6_1).toNat * 10)).off + 2, none⟩ = some (.int .i32 ((rd_T32 l0 x6_1).f2.f0)) ∧ w'.cell? ⟨(ad216.add ((x6_1).toNat * 10)).block, (ad216.add ((x6_1).toNat * 10)).off + 3, none⟩ = some (.int .i32 ((rd_T32 l0 x6_1).f2.f1)) ∧ w'.cell? ⟨(ad216.add ((x6_1).toNat * 10)).block, (ad216.add ((x6_1).toNat * 10)).off + 4, none⟩ = some (.int .i32 ((rd_T32 l0 x6_1).f3)) ∧ w'.cell? ⟨(ad216.add ((x6_1).toNat * 10)).block, (ad216.add ((x6_1).toNat * 10)).off + 5, none⟩ = some (.int .i32 ((rd_T32 l0 x6_1).f4)) ∧ w'.cell? ⟨(ad216.add ((x6_1).toNat * 10)).block, (ad216.add ((x6_1).toNat * 10)).off + 6, none⟩ = some (.int .i32 ((rd_T32 l0 x6_1).f5.f0)) ∧ w'.cell? ⟨(ad216.add ((x6_1).toNat * 10)).block, (ad216.add ((x6_1).toNat * 10)).off + 7, none⟩ = some (.int .i32 ((rd_T32 l0 x6_1).f5.f1)) ∧ w'.cell? ⟨(ad216.add ((x6_1).toNat * 10)).block, (ad216.add ((x6_1).toNat * 10)).off + 8, none⟩ = some (.int .i32 ((rd_T32 l0 x6_1).f6.f0)) ∧ w'.cell? ⟨(ad216.add ((x6_1).toNat * 10)).block, (ad216.add ((x6_1).toNat * 10)).off + 9, none⟩ = some (.int .i32 ((rd_T32 l0 x6_1).f6.f1))) (ds := []) #[F,F,F,F,F,F,F,F,F,F,F,F,F,F,F,F,F,F,F,F] (by kernel_rfl) rfl rfl ⟨(bC BK215.out 0).trans rfl, (bC BK215.out 1).trans rfl, (bC BK215.out 2).trans rfl, (bC BK215.out 3).trans rfl, (bC BK215.out 4).trans rfl, ((HB.out.cell (World.block_lt_of_cell? w _ hw216_0)).trans hw216_0), ((HB.out.cell (World.block_lt_of_cell? w _ hw216_1)).trans hw216_1), ((HB.out.cell (World.block_lt_of_cell? w _ hw216_2)).trans hw216_2), ((HB.out.cell (World.block_lt_of_cell? w _ hw216_3)).trans hw216_3), ((HB.out.cell (World.block_lt_of_cell? w _ hw216_4)).trans hw216_4), ((HB.out.cell (World.block_lt_of_cell? w _ hw216_5)).trans hw216_5), ((HB.out.cell (World.block_lt_of_cell? w _ hw216_6)).trans hw216_6), ((HB.out.cell (World.block_lt_of_cell? w _ hw216_7)).trans hw216_7), ((HB.out.cell (World.block_lt_of_cell? w _ hw216_8)).trans hw216_8), ((HB.out.cell (World.block_lt_of_cell? w _ hw216_9)).trans hw216_9), ((HB.out.cell (World.block_lt_of_cell? w _ hw217_0)).trans hw217_0), ((HB.out.cell (World.block_lt_of_cell? w _ hw217_1)).trans hw217_1), ((HB.out.cell (World.block_lt_of_cell? w _ hw217_2)).trans hw217_2), ((HB.out.cell (World.block_lt_of_cell? w _ hw217_3)).trans hw217_3), ((HB.out.cell (World.block_lt_of_cell? w _ hw217_4)).trans hw217_4), ((HB.out.cell (World.block_lt_of_cell? w _ hw217_5)).trans hw217_5), ((HB.out.cell (World.block_lt_of_cell? w _ hw217_6)).trans hw217_6), ((HB.out.cell (World.block_lt_of_cell? w _ hw217_7)).trans hw217_7), ((HB.out.cell (World.block_lt_of_cell? w _ hw217_8)).trans hw217_8), ((HB.out.cell (World.block_lt_of_cell? w _ hw217_9)).trans hw217_9)⟩ (fun hHeld => ?_); refine with_tabW billiardref18_Shifts.tab10 billiardref18_Shifts.bits10 (fun HT_ HW_ => ?_)
            generalize w16.drew = w17 at HO_5 BK210 BK215 HB hx216_0 hx216_1 hx216_2 hx216_3 hx216_4 hx216_5 hx216_6 hx216_7 hx216_8 hx216_9 hx217_0 hx217_1 hx217_2 hx217_3 hx217_4 hx217_5 hx217_6 hx217_7 hx217_8 hx217_9 hHeld ⊢
            refine pure_ (i := 0) (N := some 31) (v := ?_) (a' := ?_) #[T,F,F,F,F,F,F,F,F,F,F,F,F,F,F,F,F,F,F,F] rfl rfl (any_of HT_.out (by kernel_rfl)) (fun _ _ _ h => h) (Or.inl ⟨by rfl, ?_⟩) ?_ ?_
            rotate_left
            ·intro w'
             go_simp
             with_reducible rfl
            rotate_left
            ·simp only [Act.put, sA, sB, sC, i64_w, i32_w]
             rfl
            refine pure_ (i := 1) (N := some 32) (v := ?_) (a' := ?_) #[T,T,F,F,F,F,F,F,F,F,F,F,F,F,F,F,F,F,F,F] rfl rfl (any_of HT_.out (by kernel_rfl)) (fun _ _ _ h => h) (Or.inl ⟨by rfl, ?_⟩) ?_ ?_
            rotate_left
            ·intro w'
             go_simp
             with_reducible rfl
            rotate_left
            ·simp only [Act.put, sA, sB, sC, i64_w, i32_w]
             rfl
            refine pure_ (i := 3) (N := some 34) (v := ?_) (a' := ?_) #[T,T,F,T,F,F,F,F,F,F,F,F,F,F,F,F,F,F,F,F] rfl rfl (any_of HT_.out (by kernel_rfl)) (fun _ _ _ h => h) (Or.inl ⟨by rfl, ?_⟩) ?_ ?_
            rotate_left
            ·intro w'
             go_simp
             with_reducible rfl
            rotate_left
            ·simp only [Act.put, sA, sB, sC, i64_w, i32_w]
             rfl
            refine pure_ (i := 4) (N := some 35) (v := ?_) (a' := ?_) #[T,T,F,T,T,F,F,F,F,F,F,F,F,F,F,F,F,F,F,F] rfl rfl (any_of HT_.out (by kernel_rfl)) (fun _ _ _ h => h) (Or.inl ⟨by rfl, ?_⟩) ?_ ?_
            rotate_left
            ·intro w'
             go_simp
             with_reducible rfl
            rotate_left
            ·simp only [Act.put, sA, sB, sC, i64_w, i32_w]
             rfl
            refine pure_ (i := 5) (N := some 36) (v := ?_) (a' := ?_) #[T,T,F,T,T,T,F,F,F,F,F,F,F,F,F,F,F,F,F,F] rfl rfl (any_of HT_.out (by kernel_rfl)) (fun _ _ _ h => h) (Or.inl ⟨by rfl, ?_⟩) ?_ ?_
            rotate_left
            ·intro w'
             go_simp
             with_reducible rfl
            rotate_left
            ·simp only [Act.put, sA, sB, sC, i64_w, i32_w]
             rfl
            refine pure_ (i := 6) (N := some 37) (v := ?_) (a' := ?_) #[T,T,F,T,T,T,T,F,F,F,F,F,F,F,F,F,F,F,F,F] rfl rfl (any_of HT_.out (by kernel_rfl)) (fun _ _ _ h => h) (Or.inl ⟨by rfl, ?_⟩) ?_ ?_
            rotate_left
            ·intro w'
             go_simp
             with_reducible rfl
            rotate_left
            ·simp only [Act.put, sA, sB, sC, i64_w, i32_w]
             rfl
            refine take_ (i := 2) (N := some 33) (v := ?_) (a' := ?_) #[T,T,T,T,T,T,T,F,F,F,F,F,F,F,F,F,F,F,F,F] rfl rfl (take_ofW HT_.out HW_.out (by kernel_rfl)) (fun _ _ _ h => h) (Or.inl ⟨by rfl, ?_⟩) hHeld ?_ ?_
            rotate_left
            ·rintro w' ⟨s0, s1, s2, s3, s4, s5, s6, s7, s8, s9, s10, s11, s12, s13, s14, s15, s16, s17, s18, s19, s20, s21, s22, s23, s24⟩
             go_simp
             with_reducible rfl
            rotate_left
            ·simp only [Act.put, sA, sB, sC, i64_w, i32_w]
             rfl
            refine take_ (i := 7) (N := some 38) (v := ?_) (a' := ?_) #[T,T,T,T,T,T,T,T,F,F,F,F,F,F,F,F,F,F,F,F] rfl rfl (take_ofW HT_.out HW_.out (by kernel_rfl)) (fun _ _ _ h => h) (Or.inl ⟨by rfl, ?_⟩) hHeld ?_ ?_
            rotate_left
            ·rintro w' ⟨s0, s1, s2, s3, s4, s5, s6, s7, s8, s9, s10, s11, s12, s13, s14, s15, s16, s17, s18, s19, s20, s21, s22, s23, s24⟩
             go_simp
             with_reducible rfl
            rotate_left
            ·simp only [Act.put, sA, sB, sC, i64_w, i32_w]
             rfl
            refine pure_ (i := 8) (N := some 39) (v := ?_) (a' := ?_) #[T,T,T,T,T,T,T,T,T,F,F,F,F,F,F,F,F,F,F,F] rfl rfl (any_of HT_.out (by kernel_rfl)) (fun _ _ _ h => h) (Or.inl ⟨by rfl, ?_⟩) ?_ ?_
            rotate_left
            ·intro w'
             go_simp
             with_reducible rfl
            rotate_left
            ·simp only [Act.put, sA, sB, sC, i64_w, i32_w]
             rfl
            refine pure_ (i := 9) (N := some 40) (v := ?_) (a' := ?_) #[T,T,T,T,T,T,T,T,T,T,F,F,F,F,F,F,F,F,F,F] rfl rfl (any_of HT_.out (by kernel_rfl)) (fun _ _ _ h => h) (Or.inl ⟨by rfl, ?_⟩) ?_ ?_
            rotate_left
            ·intro w'
             go_simp
             with_reducible rfl
            rotate_left
            ·simp only [Act.put, sA, sB, sC, i64_w, i32_w]
             rfl
            refine pure_ (i := 10) (N := some 41) (v := ?_) (a' := ?_) #[T,T,T,T,T,T,T,T,T,T,T,F,F,F,F,F,F,F,F,F] rfl rfl (any_of HT_.out (by kernel_rfl)) (fun _ _ _ h => h) (Or.inl ⟨by rfl, ?_⟩) ?_ ?_
            rotate_left
            ·intro w'
             go_simp
             with_reducible rfl
            rotate_left
            ·simp only [Act.put, sA, sB, sC, i64_w, i32_w]
             rfl
            refine pure_ (i := 11) (N := some 42) (v := ?_) (a' := ?_) #[T,T,T,T,T,T,T,T,T,T,T,T,F,F,F,F,F,F,F,F] rfl rfl (any_of HT_.out (by kernel_rfl)) (fun _ _ _ h => h) (Or.inl ⟨by rfl, ?_⟩) ?_ ?_
            rotate_left
            ·intro w'
             go_simp
             with_reducible rfl
            rotate_left
            ·simp only [Act.put, sA, sB, sC, i64_w, i32_w]
             rfl
            refine pure_ (i := 13) (N := some 44) (v := ?_) (a' := ?_) #[T,T,T,T,T,T,T,T,T,T,T,T,F,T,F,F,F,F,F,F] rfl rfl (any_of HT_.out (by kernel_rfl)) (fun _ _ _ h => h) (Or.inl ⟨by rfl, ?_⟩) ?_ ?_
            rotate_left
            ·intro w'
             go_simp
             with_reducible rfl
            rotate_left
            ·simp only [Act.put, sA, sB, sC, i64_w, i32_w]
             rfl
            refine pure_ (i := 14) (N := some 45) (v := ?_) (a' := ?_) #[T,T,T,T,T,T,T,T,T,T,T,T,F,T,T,F,F,F,F,F] rfl rfl (any_of HT_.out (by kernel_rfl)) (fun _ _ _ h => h) (Or.inl ⟨by rfl, ?_⟩) ?_ ?_
            rotate_left
            ·intro w'
             go_simp
             with_reducible rfl
            rotate_left
            ·simp only [Act.put, sA, sB, sC, i64_w, i32_w]
             rfl
            refine pure_ (i := 15) (N := some 46) (v := ?_) (a' := ?_) #[T,T,T,T,T,T,T,T,T,T,T,T,F,T,T,T,F,F,F,F] rfl rfl (any_of HT_.out (by kernel_rfl)) (fun _ _ _ h => h) (Or.inl ⟨by rfl, ?_⟩) ?_ ?_
            rotate_left
            ·intro w'
             go_simp
             with_reducible rfl
            rotate_left
            ·simp only [Act.put, sA, sB, sC, i64_w, i32_w]
             rfl
            refine pure_ (i := 16) (N := some 47) (v := ?_) (a' := ?_) #[T,T,T,T,T,T,T,T,T,T,T,T,F,T,T,T,T,F,F,F] rfl rfl (any_of HT_.out (by kernel_rfl)) (fun _ _ _ h => h) (Or.inl ⟨by rfl, ?_⟩) ?_ ?_
            rotate_left
            ·intro w'
             go_simp
             with_reducible rfl
            rotate_left
            ·simp only [Act.put, sA, sB, sC, i64_w, i32_w]
             rfl
            refine take_ (i := 12) (N := some 43) (v := ?_) (a' := ?_) #[T,T,T,T,T,T,T,T,T,T,T,T,T,T,T,T,T,F,F,F] rfl rfl (take_ofW HT_.out HW_.out (by kernel_rfl)) (fun _ _ _ h => h) (Or.inl ⟨by rfl, ?_⟩) hHeld ?_ ?_
            rotate_left
            ·rintro w' ⟨s0, s1, s2, s3, s4, s5, s6, s7, s8, s9, s10, s11, s12, s13, s14, s15, s16, s17, s18, s19, s20, s21, s22, s23, s24⟩
             go_simp
             with_reducible rfl
            rotate_left
            ·simp only [Act.put, sA, sB, sC, i64_w, i32_w]
             rfl
            refine take_ (i := 17) (N := some 48) (v := ?_) (a' := ?_) #[T,T,T,T,T,T,T,T,T,T,T,T,T,T,T,T,T,T,F,F] rfl rfl (take_ofW HT_.out HW_.out (by kernel_rfl)) (fun _ _ _ h => h) (Or.inl ⟨by rfl, ?_⟩) hHeld ?_ ?_
            rotate_left
            ·rintro w' ⟨s0, s1, s2, s3, s4, s5, s6, s7, s8, s9, s10, s11, s12, s13, s14, s15, s16, s17, s18, s19, s20, s21, s22, s23, s24⟩
             go_simp
             with_reducible rfl
            rotate_left
            ·simp only [Act.put, sA, sB, sC, i64_w, i32_w]
             rfl
            refine pure_ (i := 18) (N := some 49) (v := ?_) (a' := ?_) #[T,T,T,T,T,T,T,T,T,T,T,T,T,T,T,T,T,T,T,F] rfl rfl (any_of HT_.out (by kernel_rfl)) (fun _ _ _ h => h) (Or.inl ⟨by rfl, ?_⟩) ?_ ?_
            rotate_left
            ·intro w'
             go_simp
             with_reducible rfl
            rotate_left
            ·simp only [Act.put, sA, sB, sC, i64_w, i32_w]
             rfl
            refine pure_ (i := 19) (N := some 50) (v := ?_) (a' := ?_) #[T,T,T,T,T,T,T,T,T,T,T,T,T,T,T,T,T,T,T,T] rfl rfl (any_of HT_.out (by kernel_rfl)) (fun _ _ _ h => h) (Or.inl ⟨by rfl, ?_⟩) ?_ ?_
            rotate_left
            ·intro w'
             go_simp
             with_reducible rfl
            rotate_left
            ·simp only [Act.put, sA, sB, sC, i64_w, i32_w]
             rfl
            refine done_ (done_of HT_.out (by kernel_rfl)) ?_
            try go_wp2
            go_meet
            case rel => exact ⟨_, ((((rd_T37 l1 x8_2).f0.f1) != ((rd_T32 l0 x6_1).f0))), (by first | rfl | (simp; done) | (simp [*]; done)), H', ⟨by have := HK1.out; have := HK2.out; first | omega | exact Nat.le_refl _⟩, ⟨by (with_reducible repeat (first | apply Kd.R_alloc | apply Kd.R_drewN | apply Kd.R_drew)); exact HO_5.out⟩, ⟨by (with_reducible repeat first | apply bN | apply bD | apply bA); exact BK210.out⟩, ⟨by (with_reducible repeat first | apply bN | apply bD | apply bA); exact BK215.out⟩, ⟨by repeat (first | (with_reducible first | exact HB.out | apply lA | apply lN | apply lD | refine lS ?_ GE210.out | refine lS ?_ GE215.out) | exact HB.out)⟩⟩
          ·rw [if_neg c12] at H
           exact absurd H (by simp)
         ·rw [if_neg c11] at H
          exact absurd H (by simp)
        case rest =>
         clear HC7
         try clear c1
         try clear p2
         try clear q2
         try clear hx2
         try clear c3
         try clear c3b0
         try clear c5
         try clear c5b0
         try clear c6
         try clear c6b0
         try clear c9
         try clear c11
         try clear c11b0
         try clear c12
         try clear c12b0
         try clear c13
         try clear c13b0
         try clear c13b1
         try clear c17
         try clear hcz10_0
         try clear hcz10_1
         try clear hcz10_2
         try clear hcz10_3
         try clear hcz10_4
         try clear hfz10_0
         try clear hfz10_1
         try clear hfz10_2
         try clear hfz10_3
         try clear hfz10_4
         try clear hx214_0
         try clear hx214_1
         try clear hx214_2
         try clear hx214_3
         try clear hx214_4
         try clear hx216_0
         try clear hx216_1
         try clear hx216_2
         try clear hx216_3
         try clear hx216_4
         try clear hx216_5
         try clear hx216_6
         try clear hx216_7
         try clear hx216_8
         try clear hx216_9
         try clear hx217_0
         try clear hx217_1
         try clear hx217_2
         try clear hx217_3
         try clear hx217_4
         try clear hx217_5
         try clear hx217_6
         try clear hx217_7
         try clear hx217_8
         try clear hx217_9
         try clear p2
         try clear p214
         try clear p216
         try clear p217
         try clear q214
         try clear q216
         try clear q217
         obtain ⟨kq, x50_6, rfl, HA, HJ6, HO_5, BK210, BK215, HB⟩ := hcut
         cases kq with
         | zero => exact absurd HA.out (by simp [billiardref18_Shifts.j2])
         | succ kj6 =>
          have H := HA.out
          clear HA
          simp only [billiardref18_Shifts.j2] at H
          by_cases c18 : x50_6 = true
          ·subst c18
           rw [if_pos rfl] at H
           have H' := aM H
           clear H
           go_wp2
           go_roundg kj6
           case measure => have := HK1.out; have := HK2.out; have := HJ6.out; omega
           case rel => exact ⟨(wrap64 (x8_2 + 1)), (x211000_2), (x211001_2), (by first | rfl | (simp; done) | (simp [*]; done)), H', ⟨by have := HK1.out; have := HK2.out; have := HJ6.out; omega⟩, ⟨by (with_reducible repeat (first | apply Kd.R_alloc | apply Kd.R_drewN | apply Kd.R_drew)); exact HO_5.out⟩, ⟨by (with_reducible repeat first | apply bN | apply bD | apply bA); exact BK210.out⟩, ⟨by repeat (first | (with_reducible first | exact HB.out | apply lA | apply lN | apply lD | refine lS ?_ GE210.out | refine lS ?_ GE215.out) | exact HB.out)⟩⟩
          ·replace c18 := Bool.eq_false_iff.mpr c18
           subst c18
           rw [if_neg (show ¬ (false = true) by decide)] at H
           replace H := Option.bind_eq_some_iff.mp H
           obtain ⟨t218, A190, H⟩ := H
           try dsimp only at H
           have A19 := aM A190
           clear A190
           by_cases c20 : 0 ≤ t218
           ·rw [if_pos c20] at H
            have c20b0 : decide (0 ≤ t218) = true := decide_eq_true c20
            clear c20
            by_cases c21 : t218 < (l0.length : Int)
            ·rw [if_pos c21] at H
             have c21b0 : decide (t218 < (l0.length : Int)) = true := decide_eq_true c21
             clear c21
             replace H := Option.bind_eq_some_iff.mp H
             obtain ⟨t221, A220, H⟩ := H
             try dsimp only at H
             have A22 := aM A220
             clear A220
             by_cases c23 : 0 ≤ t221
             ·rw [if_pos c23] at H
              have c23b0 : decide (0 ≤ t221) = true := decide_eq_true c23
              clear c23
              by_cases c24 : t221 < (l0.length : Int)
              ·rw [if_pos c24] at H
               have c24b0 : decide (t221 < (l0.length : Int)) = true := decide_eq_true c24
               clear c24
               by_cases c25 : 0 ≤ x6_1
               ·rw [if_pos c25] at H
                have c25b0 : decide (0 ≤ x6_1) = true := decide_eq_true c25
                clear c25
                by_cases c26 : x6_1 < (l0.length : Int)
                ·rw [if_pos c26] at H
                 have c26b0 : decide (x6_1 < (l0.length : Int)) = true := decide_eq_true c26
                 clear c26
                 replace H := Option.bind_eq_some_iff.mp H
                 obtain ⟨t225, A270, H⟩ := H
                 try dsimp only at H
                 have A27 := aM A270
                 clear A270
                 replace H := Option.bind_eq_some_iff.mp H
                 obtain ⟨t226, A280, H⟩ := H
                 try dsimp only at H
                 have A28 := aM A280
                 clear A280
                 replace H := Option.bind_eq_some_iff.mp H
                 obtain ⟨t227, A290, H⟩ := H
                 try dsimp only at H
                 have A29 := aM A290
                 clear A290
                 by_cases c30 : ((rd_T37 l1 x8_2).f0.f0) = ((rd_T32 l0 x6_1).f0)
                 ·rw [if_pos c30] at H
                  have c30b0 : (((rd_T37 l1 x8_2).f0.f0) == ((rd_T32 l0 x6_1).f0)) = true := beq_iff_eq.mpr c30
                  have c30b1 : (((rd_T37 l1 x8_2).f0.f0) != ((rd_T32 l0 x6_1).f0)) = false := bne_eq_false_iff_eq.mpr c30
                  clear c30
                  have H' := aM H
                  clear H
                  have hnb31 := N1_.out
                  have hnc31 := N0_.out
                  have hcz32_0 : wc.cell? ⟨b215, 0, none⟩ = some (.int .u32 ((rd_T37 l1 x8_2).f0.f0)) := (bC BK215.out 0).trans rfl
                  have hcz32_1 : wc.cell? ⟨b215, 1, none⟩ = some (.int .u32 ((rd_T37 l1 x8_2).f0.f1)) := (bC BK215.out 1).trans rfl
                  have hcz32_2 : wc.cell? ⟨b215, 2, none⟩ = some (.int .i32 ((rd_T37 l1 x8_2).f1.f0)) := (bC BK215.out 2).trans rfl
                  have hcz32_3 : wc.cell? ⟨b215, 3, none⟩ = some (.int .i32 ((rd_T37 l1 x8_2).f1.f1)) := (bC BK215.out 3).trans rfl
                  have hcz32_4 : wc.cell? ⟨b215, 4, none⟩ = some (.int .i32 ((rd_T37 l1 x8_2).f2)) := (bC BK215.out 4).trans rfl
                  have hfz32_0 := bF BK215.out 0
                  have hfz32_1 := bF BK215.out 1
                  have hfz32_2 := bF BK215.out 2
                  have hfz32_3 := bF BK215.out 3
                  have hfz32_4 := bF BK215.out 4
                  try go_wp2_with (first | ((with_reducible refine gate_callee (f := 9) rfl ?_); refine goesL_ (some 56) rfl rfl Try.func9 (by kernel_rfl) rfl #[.slice A0 l0.length c0, .int .u32 ((rd_T37 l1 x8_2).f0.f0)] rfl (by (try simp only [List.map_toArray, List.map_cons, List.map_nil]); first | done | rfl | (simp only [List.length_drop, List.length_take]; rfl)) ?_; (with_reducible refine (billiardref06_Find.calls kj6 _ _ l0 ((rd_T37 l1 x8_2).f0.f0) t218 _ ?side1 ?side2 A19.out).mono ?_); (case side1 => repeat (first | exact (Kd.C_below HR0.out HB.out) | (with_reducible refine Kd.C_alloc ?_ _) | (with_reducible refine Kd.C_drewN ?_ _) | (with_reducible refine Kd.C_drew ?_))); (case side2 => exact HC0.out); rintro e w' ⟨rfl, ⟨nd, rfl⟩⟩; refine ⟨_, rfl, ?_⟩; (try (rw [drewN_self wc]; generalize hq_ : World.drewN wc _ = wc; have n0_ : Aside0 (Kd.R k53 53 wc w.heap.size (fun k_ => k_ ≠ b210) u5 x5_1) := ⟨by rw [← hq_]; exact (by (with_reducible repeat (first | apply Kd.R_alloc | apply Kd.R_drewN | apply Kd.R_drew)); exact HO_5.out)⟩; have n1_ : Aside0 (wc.heap[b210]? = some (.cells #[.int .i64 x211000_2, .int .i64 x211001_2] 53 (0, 0))) := ⟨by rw [← hq_]; exact (by (with_reducible repeat first | apply bN | apply bD | apply bA); exact BK210.out)⟩; have n2_ : Aside0 (wc.heap[b215]? = some (.cells #[.int .u32 ((rd_T37 l1 x8_2).f0.f0), .int .u32 ((rd_T37 l1 x8_2).f0.f1), .int .i32 ((rd_T37 l1 x8_2).f1.f0), .int .i32 ((rd_T37 l1 x8_2).f1.f1), .int .i32 ((rd_T37 l1 x8_2).f2)] 37 (0, 0))) := ⟨by rw [← hq_]; exact (by (with_reducible repeat first | apply bN | apply bD | apply bA); exact BK215.out)⟩; have n3_ : Aside0 (Below w.heap.size w wc) := ⟨by rw [← hq_]; exact (by repeat (first | (with_reducible first | exact HB.out | apply lA | apply lN | apply lD | refine lS ?_ GE210.out | refine lS ?_ GE215.out) | exact HB.out))⟩; clear HO_5 BK210 BK215 HB hq_; have HO_5 := n0_; have BK210 := n1_; have BK215 := n2_; have HB := n3_; have hcz32_0 : wc.cell? ⟨b215, 0, none⟩ = some (.int .u32 ((rd_T37 l1 x8_2).f0.f0)) := (bC BK215.out 0).trans rfl; have hcz32_1 : wc.cell? ⟨b215, 1, none⟩ = some (.int .u32 ((rd_T37 l1 x8_2).f0.f1)) := (bC BK215.out 1).trans rfl; have hcz32_2 : wc.cell? ⟨b215, 2, none⟩ = some (.int .i32 ((rd_T37 l1 x8_2).f1.f0)) := (bC BK215.out 2).trans rfl; have hcz32_3 : wc.cell? ⟨b215, 3, none⟩ = some (.int .i32 ((rd_T37 l1 x8_2).f1.f1)) := (bC BK215.out 3).trans rfl; have hcz32_4 : wc.cell? ⟨b215, 4, none⟩ = some (.int .i32 ((rd_T37 l1 x8_2).f2)) := (bC BK215.out 4).trans rfl; have hfz32_0 := bF BK215.out 0; have hfz32_1 := bF BK215.out 1; have hfz32_2 := bF BK215.out 2; have hfz32_3 := bF BK215.out 3; have hfz32_4 := bF BK215.out 4; clear n0_ n1_ n2_ n3_)); have p219 : 0 ≤ (t218 : Int) := of_decide_eq_true (by first | (with_reducible assumption) | assumption); have q219 : t218 < (l0.length : Int) := of_decide_eq_true (by first | (with_reducible assumption) | assumption); obtain ⟨ad219, e219, hx219_0, hx219_1, hx219_2, hx219_3, hx219_4, hx219_5, hx219_6, hx219_7, hx219_8, hx219_9⟩ := at_T32 HR0.out t218 p219 q219; cases e219; replace hx219_0 := (HB.out.cell (World.block_lt_of_cell? w _ hx219_0)).trans hx219_0; replace hx219_1 := (HB.out.cell (World.block_lt_of_cell? w _ hx219_1)).trans hx219_1; replace hx219_2 := (HB.out.cell (World.block_lt_of_cell? w _ hx219_2)).trans hx219_2; replace hx219_3 := (HB.out.cell (World.block_lt_of_cell? w _ hx219_3)).trans hx219_3; replace hx219_4 := (HB.out.cell (World.block_lt_of_cell? w _ hx219_4)).trans hx219_4; replace hx219_5 := (HB.out.cell (World.block_lt_of_cell? w _ hx219_5)).trans hx219_5; replace hx219_6 := (HB.out.cell (World.block_lt_of_cell? w _ hx219_6)).trans hx219_6; replace hx219_7 := (HB.out.cell (World.block_lt_of_cell? w _ hx219_7)).trans hx219_7; replace hx219_8 := (HB.out.cell (World.block_lt_of_cell? w _ hx219_8)).trans hx219_8; replace hx219_9 := (HB.out.cell (World.block_lt_of_cell? w _ hx219_9)).trans hx219_9; replace p219 := eq_true p219; replace q219 := eq_true q219) | ((with_reducible refine gate_dst (N := 10) rfl ?_); refine box_event ?hg (N := 10) ?hd (cs := #[.int .u32 0, .int .i32 0, .int .i32 0, .int .i32 0, .int .i32 0, .int .i32 0, .int .i32 0, .int .i32 0, .int .i32 0, .int .i32 0]) (t := 32) ?hr ?_; (case hd => rfl); (case hg => rfl); (case hr => first | (go_simp; done) | (go_simp; rfl)); intro b220 hg w33 hbox hb; have n0_ := aM (Kd.R_below (by (with_reducible repeat (first | apply Kd.R_alloc | apply Kd.R_drewN | apply Kd.R_drew)); exact HO_5.out) hb); have n1_ := aM (bB (by (with_reducible repeat first | apply bN | apply bD | apply bA); exact BK210.out) hb); have n2_ := aM (bB (by (with_reducible repeat first | apply bN | apply bD | apply bA); exact BK215.out) hb); have n3_ := aM (lT (by repeat (first | (with_reducible first | exact HB.out | apply lA | apply lN | apply lD | refine lS ?_ GE210.out | refine lS ?_ GE215.out) | exact HB.out)) hb); have n4_ := aM (hbox); have n5_ := aM ((by rw [hg]; exact (lZ (by repeat (first | (with_reducible first | exact HB.out | apply lA | apply lN | apply lD | refine lS ?_ GE210.out | refine lS ?_ GE215.out) | exact HB.out))) : w.heap.size ≤ b220)); have n6_ := aM ((by rw [hg]; exact (lZ (by repeat (first | (with_reducible first | exact HB.out | apply lA | apply lN | apply lD | refine lS ?_ GE210.out | refine lS ?_ GE215.out) | exact HB.out))) : w.heap.size ≤ b220)); have n7_ := aM ((by rw [hg]; exact Nat.ne_of_lt (bL (g := b210) (by (with_reducible repeat first | apply bN | apply bD | apply bA); exact BK210.out)) : b210 ≠ b220)); have n8_ := aM ((by rw [hg]; exact Nat.ne_of_gt (bL (g := b210) (by (with_reducible repeat first | apply bN | apply bD | apply bA); exact BK210.out)) : b220 ≠ b210)); have n9_ := aM ((by rw [hg]; exact Nat.ne_of_lt (bL (g := b215) (by (with_reducible repeat first | apply bN | apply bD | apply bA); exact BK215.out)) : b215 ≠ b220)); have n10_ := aM ((by rw [hg]; exact Nat.ne_of_gt (bL (g := b215) (by (with_reducible repeat first | apply bN | apply bD | apply bA); exact BK215.out)) : b220 ≠ b215)); clear HO_5; clear BK210; clear BK215; clear HB; have HO_5 := n0_; have BK210 := n1_; have BK215 := n2_; have HB := n3_; have BK220 := n4_; have GW220 := n5_; have GE220 := n6_; have N2_ := n7_; have N3_ := n8_; have N4_ := n9_; have N5_ := n10_; clear n0_ n1_ n2_ n3_ n4_ n5_ n6_ n7_ n8_ n9_ n10_; clear hb hbox hg; have hnb34 := N3_.out; have hnc34 := N2_.out; have hnb35 := N5_.out; have hnc35 := N4_.out; have hcz36_0 : w33.cell? ⟨b220, 0, none⟩ = some (.int .u32 0) := (bC BK220.out 0).trans rfl; have hcz36_1 : w33.cell? ⟨b220, 1, none⟩ = some (.int .i32 0) := (bC BK220.out 1).trans rfl; have hcz36_2 : w33.cell? ⟨b220, 2, none⟩ = some (.int .i32 0) := (bC BK220.out 2).trans rfl; have hcz36_3 : w33.cell? ⟨b220, 3, none⟩ = some (.int .i32 0) := (bC BK220.out 3).trans rfl; have hcz36_4 : w33.cell? ⟨b220, 4, none⟩ = some (.int .i32 0) := (bC BK220.out 4).trans rfl; have hcz36_5 : w33.cell? ⟨b220, 5, none⟩ = some (.int .i32 0) := (bC BK220.out 5).trans rfl; have hcz36_6 : w33.cell? ⟨b220, 6, none⟩ = some (.int .i32 0) := (bC BK220.out 6).trans rfl; have hcz36_7 : w33.cell? ⟨b220, 7, none⟩ = some (.int .i32 0) := (bC BK220.out 7).trans rfl; have hcz36_8 : w33.cell? ⟨b220, 8, none⟩ = some (.int .i32 0) := (bC BK220.out 8).trans rfl; have hcz36_9 : w33.cell? ⟨b220, 9, none⟩ = some (.int .i32 0) := (bC BK220.out 9).trans rfl; have hfz36_0 := bF BK220.out 0; have hfz36_1 := bF BK220.out 1; have hfz36_2 := bF BK220.out 2; have hfz36_3 := bF BK220.out 3; have hfz36_4 := bF BK220.out 4; have hfz36_5 := bF BK220.out 5; have hfz36_6 := bF BK220.out 6; have hfz36_7 := bF BK220.out 7; have hfz36_8 := bF BK220.out 8; have hfz36_9 := bF BK220.out 9; have hcz37_0 : w33.cell? ⟨b215, 0, none⟩ = some (.int .u32 ((rd_T37 l1 x8_2).f0.f0)) := (bC BK215.out 0).trans rfl; have hcz37_1 : w33.cell? ⟨b215, 1, none⟩ = some (.int .u32 ((rd_T37 l1 x8_2).f0.f1)) := (bC BK215.out 1).trans rfl; have hcz37_2 : w33.cell? ⟨b215, 2, none⟩ = some (.int .i32 ((rd_T37 l1 x8_2).f1.f0)) := (bC BK215.out 2).trans rfl; have hcz37_3 : w33.cell? ⟨b215, 3, none⟩ = some (.int .i32 ((rd_T37 l1 x8_2).f1.f1)) := (bC BK215.out 3).trans rfl; have hcz37_4 : w33.cell? ⟨b215, 4, none⟩ = some (.int .i32 ((rd_T37 l1 x8_2).f2)) := (bC BK215.out 4).trans rfl; have hfz37_0 := bF BK215.out 0; have hfz37_1 := bF BK215.out 1; have hfz37_2 := bF BK215.out 2; have hfz37_3 := bF BK215.out 3; have hfz37_4 := bF BK215.out 4) | ((with_reducible refine gate_callee (f := 9) rfl ?_); refine goesL_ (some 64) rfl rfl Try.func9 (by kernel_rfl) rfl #[.slice (some ad219) l0.length c0, .int .u32 ((rd_T37 l1 x8_2).f0.f1)] rfl (by (try simp only [List.map_toArray, List.map_cons, List.map_nil]); first | done | rfl | (simp only [List.length_drop, List.length_take]; rfl)) ?_; (with_reducible refine (billiardref06_Find.calls kj6 _ _ l0 ((rd_T37 l1 x8_2).f0.f1) t221 _ ?side1 ?side2 A22.out).mono ?_); (case side1 => exact Kd.C_below HR0.out (by repeat (first | (with_reducible first | exact HB.out | apply lA | apply lN | apply lD | refine lS ?_ GE210.out | refine lS ?_ GE215.out | refine lS ?_ GE220.out) | exact HB.out))); (case side2 => exact HC0.out); rintro e w' ⟨rfl, ⟨nd, rfl⟩⟩; refine ⟨_, rfl, ?_⟩; have p222 : 0 ≤ (t221 : Int) := of_decide_eq_true (by first | (with_reducible assumption) | assumption); have q222 : t221 < (l0.length : Int) := of_decide_eq_true (by first | (with_reducible assumption) | assumption); obtain ⟨ad222, e222, hx222_0, hx222_1, hx222_2, hx222_3, hx222_4, hx222_5, hx222_6, hx222_7, hx222_8, hx222_9⟩ := at_T32 HR0.out t221 p222 q222; obtain rfl : ad219 = ad222 := (by injection e222); have hn222_0 : ad219.block ≠ b220 := Nat.ne_of_lt (Nat.lt_of_lt_of_le (by have := World.block_lt_of_cell? _ _ hx222_0; first | rwa [add_block] at this | exact this) GW220.out); have hn222_1 := hn222_0; have hn222_2 := hn222_0; have hn222_3 := hn222_0; have hn222_4 := hn222_0; have hn222_5 := hn222_0; have hn222_6 := hn222_0; have hn222_7 := hn222_0; have hn222_8 := hn222_0; have hn222_9 := hn222_0; replace hx222_0 := (HB.out.cell (World.block_lt_of_cell? w _ hx222_0)).trans hx222_0; replace hx222_1 := (HB.out.cell (World.block_lt_of_cell? w _ hx222_1)).trans hx222_1; replace hx222_2 := (HB.out.cell (World.block_lt_of_cell? w _ hx222_2)).trans hx222_2; replace hx222_3 := (HB.out.cell (World.block_lt_of_cell? w _ hx222_3)).trans hx222_3; replace hx222_4 := (HB.out.cell (World.block_lt_of_cell? w _ hx222_4)).trans hx222_4; replace hx222_5 := (HB.out.cell (World.block_lt_of_cell? w _ hx222_5)).trans hx222_5; replace hx222_6 := (HB.out.cell (World.block_lt_of_cell? w _ hx222_6)).trans hx222_6; replace hx222_7 := (HB.out.cell (World.block_lt_of_cell? w _ hx222_7)).trans hx222_7; replace hx222_8 := (HB.out.cell (World.block_lt_of_cell? w _ hx222_8)).trans hx222_8; replace hx222_9 := (HB.out.cell (World.block_lt_of_cell? w _ hx222_9)).trans hx222_9; replace hx222_0 := (cF (p := ⟨b220, 0, none⟩) (by first | exact nA hn222_0 | exact hn222_0) (.int .u32 ((rd_T32 l0 t218).f0))).trans hx222_0; replace hx222_1 := (cF (p := ⟨b220, 0, none⟩) (by first | exact nA hn222_0 | exact hn222_0) (.int .u32 ((rd_T32 l0 t218).f0))).trans hx222_1; replace hx222_2 := (cF (p := ⟨b220, 0, none⟩) (by first | exact nA hn222_0 | exact hn222_0) (.int .u32 ((rd_T32 l0 t218).f0))).trans hx222_2; replace hx222_3 := (cF (p := ⟨b220, 0, none⟩) (by first | exact nA hn222_0 | exact hn222_0) (.int .u32 ((rd_T32 l0 t218).f0))).trans hx222_3; replace hx222_4 := (cF (p := ⟨b220, 0, none⟩) (by first | exact nA hn222_0 | exact hn222_0) (.int .u32 ((rd_T32 l0 t218).f0))).trans hx222_4; replace hx222_5 := (cF (p := ⟨b220, 0, none⟩) (by first | exact nA hn222_0 | exact hn222_0) (.int .u32 ((rd_T32 l0 t218).f0))).trans hx222_5; replace hx222_6 := (cF (p := ⟨b220, 0, none⟩) (by first | exact nA hn222_0 | exact hn222_0) (.int .u32 ((rd_T32 l0 t218).f0))).trans hx222_6; replace hx222_7 := (cF (p := ⟨b220, 0, none⟩) (by first | exact nA hn222_0 | exact hn222_0) (.int .u32 ((rd_T32 l0 t218).f0))).trans hx222_7; replace hx222_8 := (cF (p := ⟨b220, 0, none⟩) (by first | exact nA hn222_0 | exact hn222_0) (.int .u32 ((rd_T32 l0 t218).f0))).trans hx222_8; replace hx222_9 := (cF (p := ⟨b220, 0, none⟩) (by first | exact nA hn222_0 | exact hn222_0) (.int .u32 ((rd_T32 l0 t218).f0))).trans hx222_9; replace hx222_0 := (cF (p := ⟨b220, 1, none⟩) (by first | exact nA hn222_1 | exact hn222_1) (.int .i32 ((rd_T32 l0 t218).f1))).trans hx222_0; replace hx222_1 := (cF (p := ⟨b220, 1, none⟩) (by first | exact nA hn222_1 | exact hn222_1) (.int .i32 ((rd_T32 l0 t218).f1))).trans hx222_1; replace hx222_2 := (cF (p := ⟨b220, 1, none⟩) (by first | exact nA hn222_1 | exact hn222_1) (.int .i32 ((rd_T32 l0 t218).f1))).trans hx222_2; replace hx222_3 := (cF (p := ⟨b220, 1, none⟩) (by first | exact nA hn222_1 | exact hn222_1) (.int .i32 ((rd_T32 l0 t218).f1))).trans hx222_3; replace hx222_4 := (cF (p := ⟨b220, 1, none⟩) (by first | exact nA hn222_1 | exact hn222_1) (.int .i32 ((rd_T32 l0 t218).f1))).trans hx222_4; replace hx222_5 := (cF (p := ⟨b220, 1, none⟩) (by first | exact nA hn222_1 | exact hn222_1) (.int .i32 ((rd_T32 l0 t218).f1))).trans hx222_5; replace hx222_6 := (cF (p := ⟨b220, 1, none⟩) (by first | exact nA hn222_1 | exact hn222_1) (.int .i32 ((rd_T32 l0 t218).f1))).trans hx222_6; replace hx222_7 := (cF (p := ⟨b220, 1, none⟩) (by first | exact nA hn222_1 | exact hn222_1) (.int .i32 ((rd_T32 l0 t218).f1))).trans hx222_7; replace hx222_8 := (cF (p := ⟨b220, 1, none⟩) (by first | exact nA hn222_1 | exact hn222_1) (.int .i32 ((rd_T32 l0 t218).f1))).trans hx222_8; replace hx222_9 := (cF (p := ⟨b220, 1, none⟩) (by first | exact nA hn222_1 | exact hn222_1) (.int .i32 ((rd_T32 l0 t218).f1))).trans hx222_9; replace hx222_0 := (cF (p := ⟨b220, 2, none⟩) (by first | exact nA hn222_2 | exact hn222_2) (.int .i32 ((rd_T32 l0 t218).f2.f0))).trans hx222_0; replace hx222_1 := (cF (p := ⟨b220, 2, none⟩) (by first | exact nA hn222_2 | exact hn222_2) (.int .i32 ((rd_T32 l0 t218).f2.f0))).trans hx222_1; replace hx222_2 := (cF (p := ⟨b220, 2, none⟩) (by first | exact nA hn222_2 | exact hn222_2) (.int .i32 ((rd_T32 l0 t218).f2.f0))).trans hx222_2; replace hx222_3 := (cF (p := ⟨b220, 2, none⟩) (by first | exact nA hn222_2 | exact hn222_2) (.int .i32 ((rd_T32 l0 t218).f2.f0))).trans hx222_3; replace hx222_4 := (cF (p := ⟨b220, 2, none⟩) (by first | exact nA hn222_2 | exact hn222_2) (.int .i32 ((rd_T32 l0 t218).f2.f0))).trans hx222_4; replace hx222_5 := (cF (p := ⟨b220, 2, none⟩) (by first | exact nA hn222_2 | exact hn222_2) (.int .i32 ((rd_T32 l0 t218).f2.f0))).trans hx222_5; replace hx222_6 := (cF (p := ⟨b220, 2, none⟩) (by first | exact nA hn222_2 | exact hn222_2) (.int .i32 ((rd_T32 l0 t218).f2.f0))).trans hx222_6; replace hx222_7 := (cF (p := ⟨b220, 2, none⟩) (by first | exact nA hn222_2 | exact hn222_2) (.int .i32 ((rd_T32 l0 t218).f2.f0))).trans hx222_7; replace hx222_8 := (cF (p := ⟨b220, 2, none⟩) (by first | exact nA hn222_2 | exact hn222_2) (.int .i32 ((rd_T32 l0 t218).f2.f0))).trans hx222_8; replace hx222_9 := (cF (p := ⟨b220, 2, none⟩) (by first | exact nA hn222_2 | exact hn222_2) (.int .i32 ((rd_T32 l0 t218).f2.f0))).trans hx222_9; replace hx222_0 := (cF (p := ⟨b220, 3, none⟩) (by first | exact nA hn222_3 | exact hn222_3) (.int .i32 ((rd_T32 l0 t218).f2.f1))).trans hx222_0; replace hx222_1 := (cF (p := ⟨b220, 3, none⟩) (by first | exact nA hn222_3 | exact hn222_3) (.int .i32 ((rd_T32 l0 t218).f2.f1))).trans hx222_1; replace hx222_2 := (cF (p := ⟨b220, 3, none⟩) (by first | exact nA hn222_3 | exact hn222_3) (.int .i32 ((rd_T32 l0 t218).f2.f1))).trans hx222_2; replace hx222_3 := (cF (p := ⟨b220, 3, none⟩) (by first | exact nA hn222_3 | exact hn222_3) (.int .i32 ((rd_T32 l0 t218).f2.f1))).trans hx222_3; replace hx222_4 := (cF (p := ⟨b220, 3, none⟩) (by first | exact nA hn222_3 | exact hn222_3) (.int .i32 ((rd_T32 l0 t218).f2.f1))).trans hx222_4; replace hx222_5 := (cF (p := ⟨b220, 3, none⟩) (by first | exact nA hn222_3 | exact hn222_3) (.int .i32 ((rd_T32 l0 t218).f2.f1))).trans hx222_5; replace hx222_6 := (cF (p := ⟨b220, 3, none⟩) (by first | exact nA hn222_3 | exact hn222_3) (.int .i32 ((rd_T32 l0 t218).f2.f1))).trans hx222_6; replace hx222_7 := (cF (p := ⟨b220, 3, none⟩) (by first | exact nA hn222_3 | exact hn222_3) (.int .i32 ((rd_T32 l0 t218).f2.f1))).trans hx222_7; replace hx222_8 := (cF (p := ⟨b220, 3, none⟩) (by first | exact nA hn222_3 | exact hn222_3) (.int .i32 ((rd_T32 l0 t218).f2.f1))).trans hx222_8; replace hx222_9 := (cF (p := ⟨b220, 3, none⟩) (by first | exact nA hn222_3 | exact hn222_3) (.int .i32 ((rd_T32 l0 t218).f2.f1))).trans hx222_9; replace hx222_0 := (cF (p := ⟨b220, 4, none⟩) (by first | exact nA hn222_4 | exact hn222_4) (.int .i32 ((rd_T32 l0 t218).f3))).trans hx222_0; replace hx222_1 := (cF (p := ⟨b220, 4, none⟩) (by first | exact nA hn222_4 | exact hn222_4) (.int .i32 ((rd_T32 l0 t218).f3))).trans hx222_1; replace hx222_2 := (cF (p := ⟨b220, 4, none⟩) (by first | exact nA hn222_4 | exact hn222_4) (.int .i32 ((rd_T32 l0 t218).f3))).trans hx222_2; replace hx222_3 := (cF (p := ⟨b220, 4, none⟩) (by first | exact nA hn222_4 | exact hn222_4) (.int .i32 ((rd_T32 l0 t218).f3))).trans hx222_3; replace hx222_4 := (cF (p := ⟨b220, 4, none⟩) (by first | exact nA hn222_4 | exact hn222_4) (.int .i32 ((rd_T32 l0 t218).f3))).trans hx222_4; replace hx222_5 := (cF (p := ⟨b220, 4, none⟩) (by first | exact nA hn222_4 | exact hn222_4) (.int .i32 ((rd_T32 l0 t218).f3))).trans hx222_5; replace hx222_6 := (cF (p := ⟨b220, 4, none⟩) (by first | exact nA hn222_4 | exact hn222_4) (.int .i32 ((rd_T32 l0 t218).f3))).trans hx222_6; replace hx222_7 := (cF (p := ⟨b220, 4, none⟩) (by first | exact nA hn222_4 | exact hn222_4) (.int .i32 ((rd_T32 l0 t218).f3))).trans hx222_7; replace hx222_8 := (cF (p := ⟨b220, 4, none⟩) (by first | exact nA hn222_4 | exact hn222_4) (.int .i32 ((rd_T32 l0 t218).f3))).trans hx222_8; replace hx222_9 := (cF (p := ⟨b220, 4, none⟩) (by first | exact nA hn222_4 | exact hn222_4) (.int .i32 ((rd_T32 l0 t218).f3))).trans hx222_9; replace hx222_0 := (cF (p := ⟨b220, 5, none⟩) (by first | exact nA hn222_5 | exact hn222_5) (.int .i32 ((rd_T32 l0 t218).f4))).trans hx222_0; replace hx222_1 := (cF (p := ⟨b220, 5, none⟩) (by first | exact nA hn222_5 | exact hn222_5) (.int .i32 ((rd_T32 l0 t218).f4))).trans hx222_1; replace hx222_2 := (cF (p := ⟨b220, 5, none⟩) (by first | exact nA hn222_5 | exact hn222_5) (.int .i32 ((rd_T32 l0 t218).f4))).trans hx222_2; replace hx222_3 := (cF (p := ⟨b220, 5, none⟩) (by first | exact nA hn222_5 | exact hn222_5) (.int .i32 ((rd_T32 l0 t218).f4))).trans hx222_3; replace hx222_4 := (cF (p := ⟨b220, 5, none⟩) (by first | exact nA hn222_5 | exact hn222_5) (.int .i32 ((rd_T32 l0 t218).f4))).trans hx222_4; replace hx222_5 := (cF (p := ⟨b220, 5, none⟩) (by first | exact nA hn222_5 | exact hn222_5) (.int .i32 ((rd_T32 l0 t218).f4))).trans hx222_5; replace hx222_6 := (cF (p := ⟨b220, 5, none⟩) (by first | exact nA hn222_5 | exact hn222_5) (.int .i32 ((rd_T32 l0 t218).f4))).trans hx222_6; replace hx222_7 := (cF (p := ⟨b220, 5, none⟩) (by first | exact nA hn222_5 | exact hn222_5) (.int .i32 ((rd_T32 l0 t218).f4))).trans hx222_7; replace hx222_8 := (cF (p := ⟨b220, 5, none⟩) (by first | exact nA hn222_5 | exact hn222_5) (.int .i32 ((rd_T32 l0 t218).f4))).trans hx222_8; replace hx222_9 := (cF (p := ⟨b220, 5, none⟩) (by first | exact nA hn222_5 | exact hn222_5) (.int .i32 ((rd_T32 l0 t218).f4))).trans hx222_9; replace hx222_0 := (cF (p := ⟨b220, 6, none⟩) (by first | exact nA hn222_6 | exact hn222_6) (.int .i32 ((rd_T32 l0 t218).f5.f0))).trans hx222_0; replace hx222_1 := (cF (p := ⟨b220, 6, none⟩) (by first | exact nA hn222_6 | exact hn222_6) (.int .i32 ((rd_T32 l0 t218).f5.f0))).trans hx222_1; replace hx222_2 := (cF (p := ⟨b220, 6, none⟩) (by first | exact nA hn222_6 | exact hn222_6) (.int .i32 ((rd_T32 l0 t218).f5.f0))).trans hx222_2; replace hx222_3 := (cF (p := ⟨b220, 6, none⟩) (by first | exact nA hn222_6 | exact hn222_6) (.int .i32 ((rd_T32 l0 t218).f5.f0))).trans hx222_3; replace hx222_4 := (cF (p := ⟨b220, 6, none⟩) (by first | exact nA hn222_6 | exact hn222_6) (.int .i32 ((rd_T32 l0 t218).f5.f0))).trans hx222_4; replace hx222_5 := (cF (p := ⟨b220, 6, none⟩) (by first | exact nA hn222_6 | exact hn222_6) (.int .i32 ((rd_T32 l0 t218).f5.f0))).trans hx222_5; replace hx222_6 := (cF (p := ⟨b220, 6, none⟩) (by first | exact nA hn222_6 | exact hn222_6) (.int .i32 ((rd_T32 l0 t218).f5.f0))).trans hx222_6; replace hx222_7 := (cF (p := ⟨b220, 6, none⟩) (by first | exact nA hn222_6 | exact hn222_6) (.int .i32 ((rd_T32 l0 t218).f5.f0))).trans hx222_7; replace hx222_8 := (cF (p := ⟨b220, 6, none⟩) (by first | exact nA hn222_6 | exact hn222_6) (.int .i32 ((rd_T32 l0 t218).f5.f0))).trans hx222_8; replace hx222_9 := (cF (p := ⟨b220, 6, none⟩) (by first | exact nA hn222_6 | exact hn222_6) (.int .i32 ((rd_T32 l0 t218).f5.f0))).trans hx222_9; replace hx222_0 := (cF (p := ⟨b220, 7, none⟩) (by first | exact nA hn222_7 | exact hn222_7) (.int .i32 ((rd_T32 l0 t218).f5.f1))).trans hx222_0; replace hx222_1 := (cF (p := ⟨b220, 7, none⟩) (by first | exact nA hn222_7 | exact hn222_7) (.int .i32 ((rd_T32 l0 t218).f5.f1))).trans hx222_1; replace hx222_2 := (cF (p := ⟨b220, 7, none⟩) (by first | exact nA hn222_7 | exact hn222_7) (.int .i32 ((rd_T32 l0 t218).f5.f1))).trans hx222_2; replace hx222_3 := (cF (p := ⟨b220, 7, none⟩) (by first | exact nA hn222_7 | exact hn222_7) (.int .i32 ((rd_T32 l0 t218).f5.f1))).trans hx222_3; replace hx222_4 := (cF (p := ⟨b220, 7, none⟩) (by first | exact nA hn222_7 | exact hn222_7) (.int .i32 ((rd_T32 l0 t218).f5.f1))).trans hx222_4; replace hx222_5 := (cF (p := ⟨b220, 7, none⟩) (by first | exact nA hn222_7 | exact hn222_7) (.int .i32 ((rd_T32 l0 t218).f5.f1))).trans hx222_5; replace hx222_6 := (cF (p := ⟨b220, 7, none⟩) (by first | exact nA hn222_7 | exact hn222_7) (.int .i32 ((rd_T32 l0 t218).f5.f1))).trans hx222_6; replace hx222_7 := (cF (p := ⟨b220, 7, none⟩) (by first | exact nA hn222_7 | exact hn222_7) (.int .i32 ((rd_T32 l0 t218).f5.f1))).trans hx222_7; replace hx222_8 := (cF (p := ⟨b220, 7, none⟩) (by first | exact nA hn222_7 | exact hn222_7) (.int .i32 ((rd_T32 l0 t218).f5.f1))).trans hx222_8; replace hx222_9 := (cF (p := ⟨b220, 7, none⟩) (by first | exact nA hn222_7 | exact hn222_7) (.int .i32 ((rd_T32 l0 t218).f5.f1))).trans hx222_9; replace hx222_0 := (cF (p := ⟨b220, 8, none⟩) (by first | exact nA hn222_8 | exact hn222_8) (.int .i32 ((rd_T32 l0 t218).f6.f0))).trans hx222_0; replace hx222_1 := (cF (p := ⟨b220, 8, none⟩) (by first | exact nA hn222_8 | exact hn222_8) (.int .i32 ((rd_T32 l0 t218).f6.f0))).trans hx222_1; replace hx222_2 := (cF (p := ⟨b220, 8, none⟩) (by first | exact nA hn222_8 | exact hn222_8) (.int .i32 ((rd_T32 l0 t218).f6.f0))).trans hx222_2; replace hx222_3 := (cF (p := ⟨b220, 8, none⟩) (by first | exact nA hn222_8 | exact hn222_8) (.int .i32 ((rd_T32 l0 t218).f6.f0))).trans hx222_3; replace hx222_4 := (cF (p := ⟨b220, 8, none⟩) (by first | exact nA hn222_8 | exact hn222_8) (.int .i32 ((rd_T32 l0 t218).f6.f0))).trans hx222_4; replace hx222_5 := (cF (p := ⟨b220, 8, none⟩) (by first | exact nA hn222_8 | exact hn222_8) (.int .i32 ((rd_T32 l0 t218).f6.f0))).trans hx222_5; replace hx222_6 := (cF (p := ⟨b220, 8, none⟩) (by first | exact nA hn222_8 | exact hn222_8) (.int .i32 ((rd_T32 l0 t218).f6.f0))).trans hx222_6; replace hx222_7 := (cF (p := ⟨b220, 8, none⟩) (by first | exact nA hn222_8 | exact hn222_8) (.int .i32 ((rd_T32 l0 t218).f6.f0))).trans hx222_7; replace hx222_8 := (cF (p := ⟨b220, 8, none⟩) (by first | exact nA hn222_8 | exact hn222_8) (.int .i32 ((rd_T32 l0 t218).f6.f0))).trans hx222_8; replace hx222_9 := (cF (p := ⟨b220, 8, none⟩) (by first | exact nA hn222_8 | exact hn222_8) (.int .i32 ((rd_T32 l0 t218).f6.f0))).trans hx222_9; replace hx222_0 := (cF (p := ⟨b220, 9, none⟩) (by first | exact nA hn222_9 | exact hn222_9) (.int .i32 ((rd_T32 l0 t218).f6.f1))).trans hx222_0; replace hx222_1 := (cF (p := ⟨b220, 9, none⟩) (by first | exact nA hn222_9 | exact hn222_9) (.int .i32 ((rd_T32 l0 t218).f6.f1))).trans hx222_1; replace hx222_2 := (cF (p := ⟨b220, 9, none⟩) (by first | exact nA hn222_9 | exact hn222_9) (.int .i32 ((rd_T32 l0 t218).f6.f1))).trans hx222_2; replace hx222_3 := (cF (p := ⟨b220, 9, none⟩) (by first | exact nA hn222_9 | exact hn222_9) (.int .i32 ((rd_T32 l0 t218).f6.f1))).trans hx222_3; replace hx222_4 := (cF (p := ⟨b220, 9, none⟩) (by first | exact nA hn222_9 | exact hn222_9) (.int .i32 ((rd_T32 l0 t218).f6.f1))).trans hx222_4; replace hx222_5 := (cF (p := ⟨b220, 9, none⟩) (by first | exact nA hn222_9 | exact hn222_9) (.int .i32 ((rd_T32 l0 t218).f6.f1))).trans hx222_5; replace hx222_6 := (cF (p := ⟨b220, 9, none⟩) (by first | exact nA hn222_9 | exact hn222_9) (.int .i32 ((rd_T32 l0 t218).f6.f1))).trans hx222_6; replace hx222_7 := (cF (p := ⟨b220, 9, none⟩) (by first | exact nA hn222_9 | exact hn222_9) (.int .i32 ((rd_T32 l0 t218).f6.f1))).trans hx222_7; replace hx222_8 := (cF (p := ⟨b220, 9, none⟩) (by first | exact nA hn222_9 | exact hn222_9) (.int .i32 ((rd_T32 l0 t218).f6.f1))).trans hx222_8; replace hx222_9 := (cF (p := ⟨b220, 9, none⟩) (by first | exact nA hn222_9 | exact hn222_9) (.int .i32 ((rd_T32 l0 t218).f6.f1))).trans hx222_9; clear hn222_0; clear hn222_1; clear hn222_2; clear hn222_3; clear hn222_4; clear hn222_5; clear hn222_6; clear hn222_7; clear hn222_8; clear hn222_9; replace p222 := eq_true p222; replace q222 := eq_true q222) | ((with_reducible refine gate_dst (N := 11) rfl ?_); refine box_event ?hg (N := 11) ?hd (cs := #[.int .u32 0, .int .i32 0, .int .i32 0, .int .i32 0, .int .i32 0, .int .i32 0, .int .i32 0, .int .i32 0, .int .i32 0, .int .i32 0]) (t := 32) ?hr ?_; (case hd => rfl); (case hg => rfl); (case hr => first | (go_simp; done) | (go_simp; rfl)); intro b223 hg w38 hbox hb; have n0_ := aM (Kd.R_below (by (with_reducible repeat (first | apply Kd.R_alloc | apply Kd.R_drewN | apply Kd.R_drew)); exact (Kd.R_mono (Kd.R_far (p := ⟨b220, 9, none⟩) (Kd.R_far (p := ⟨b220, 8, none⟩) (Kd.R_far (p := ⟨b220, 7, none⟩) (Kd.R_far (p := ⟨b220, 6, none⟩) (Kd.R_far (p := ⟨b220, 5, none⟩) (Kd.R_far (p := ⟨b220, 4, none⟩) (Kd.R_far (p := ⟨b220, 3, none⟩) (Kd.R_far (p := ⟨b220, 2, none⟩) (Kd.R_far (p := ⟨b220, 1, none⟩) (Kd.R_far (p := ⟨b220, 0, none⟩) (Kd.R_types HO_5.out BK220.out (by decide)) (fun _ hk => hk.2) (.int .u32 ((rd_T32 l0 t218).f0))) (fun _ hk => hk.2) (.int .i32 ((rd_T32 l0 t218).f1))) (fun _ hk => hk.2) (.int .i32 ((rd_T32 l0 t218).f2.f0))) (fun _ hk => hk.2) (.int .i32 ((rd_T32 l0 t218).f2.f1))) (fun _ hk => hk.2) (.int .i32 ((rd_T32 l0 t218).f3))) (fun _ hk => hk.2) (.int .i32 ((rd_T32 l0 t218).f4))) (fun _ hk => hk.2) (.int .i32 ((rd_T32 l0 t218).f5.f0))) (fun _ hk => hk.2) (.int .i32 ((rd_T32 l0 t218).f5.f1))) (fun _ hk => hk.2) (.int .i32 ((rd_T32 l0 t218).f6.f0))) (fun _ hk => hk.2) (.int .i32 ((rd_T32 l0 t218).f6.f1))) (fun _ h_ => h_.1))) hb); have n1_ := aM (bB (g := b210) (o := .cells #[.int .i64 x211000_2, .int .i64 x211001_2] 53 (0, 0)) (by (with_reducible repeat first | apply bN | apply bD | apply bA); refine bR ?_ N2_.out _; (with_reducible repeat first | apply bN | apply bD | apply bA); refine bR ?_ N2_.out _; (with_reducible repeat first | apply bN | apply bD | apply bA); refine bR ?_ N2_.out _; (with_reducible repeat first | apply bN | apply bD | apply bA); refine bR ?_ N2_.out _; (with_reducible repeat first | apply bN | apply bD | apply bA); refine bR ?_ N2_.out _; (with_reducible repeat first | apply bN | apply bD | apply bA); refine bR ?_ N2_.out _; (with_reducible repeat first | apply bN | apply bD | apply bA); refine bR ?_ N2_.out _; (with_reducible repeat first | apply bN | apply bD | apply bA); refine bR ?_ N2_.out _; (with_reducible repeat first | apply bN | apply bD | apply bA); refine bR ?_ N2_.out _; (with_reducible repeat first | apply bN | apply bD | apply bA); refine bR ?_ N2_.out _; (with_reducible repeat first | apply bN | apply bD | apply bA); exact BK210.out) hb); have n2_ := aM (bB (g := b215) (o := .cells #[.int .u32 ((rd_T37 l1 x8_2).f0.f0), .int .u32 ((rd_T37 l1 x8_2).f0.f1), .int .i32 ((rd_T37 l1 x8_2).f1.f0), .int .i32 ((rd_T37 l1 x8_2).f1.f1), .int .i32 ((rd_T37 l1 x8_2).f2)] 37 (0, 0)) (by (with_reducible repeat first | apply bN | apply bD | apply bA); refine bR ?_ N4_.out _; (with_reducible repeat first | apply bN | apply bD | apply bA); refine bR ?_ N4_.out _; (with_reducible repeat first | apply bN | apply bD | apply bA); refine bR ?_ N4_.out _; (with_reducible repeat first | apply bN | apply bD | apply bA); refine bR ?_ N4_.out _; (with_reducible repeat first | apply bN | apply bD | apply bA); refine bR ?_ N4_.out _; (with_reducible repeat first | apply bN | apply bD | apply bA); refine bR ?_ N4_.out _; (with_reducible repeat first | apply bN | apply bD | apply bA); refine bR ?_ N4_.out _; (with_reducible repeat first | apply bN | apply bD | apply bA); refine bR ?_ N4_.out _; (with_reducible repeat first | apply bN | apply bD | apply bA); refine bR ?_ N4_.out _; (with_reducible repeat first | apply bN | apply bD | apply bA); refine bR ?_ N4_.out _; (with_reducible repeat first | apply bN | apply bD | apply bA); exact BK215.out) hb); have n3_ := aM (bB (g := b220) (o := .cells #[.int .u32 ((rd_T32 l0 t218).f0), .int .i32 ((rd_T32 l0 t218).f1), .int .i32 ((rd_T32 l0 t218).f2.f0), .int .i32 ((rd_T32 l0 t218).f2.f1), .int .i32 ((rd_T32 l0 t218).f3), .int .i32 ((rd_T32 l0 t218).f4), .int .i32 ((rd_T32 l0 t218).f5.f0), .int .i32 ((rd_T32 l0 t218).f5.f1), .int .i32 ((rd_T32 l0 t218).f6.f0), .int .i32 ((rd_T32 l0 t218).f6.f1)] 32 (0, 0)) (by (with_reducible repeat first | apply bN | apply bD | apply bA); refine bP (cs := #[.int .u32 ((rd_T32 l0 t218).f0), .int .i32 ((rd_T32 l0 t218).f1), .int .i32 ((rd_T32 l0 t218).f2.f0), .int .i32 ((rd_T32 l0 t218).f2.f1), .int .i32 ((rd_T32 l0 t218).f3), .int .i32 ((rd_T32 l0 t218).f4), .int .i32 ((rd_T32 l0 t218).f5.f0), .int .i32 ((rd_T32 l0 t218).f5.f1), .int .i32 ((rd_T32 l0 t218).f6.f0), .int .i32 0]) ?_ 9 _ rfl; (with_reducible repeat first | apply bN | apply bD | apply bA); refine bP (cs := #[.int .u32 ((rd_T32 l0 t218).f0), .int .i32 ((rd_T32 l0 t218).f1), .int .i32 ((rd_T32 l0 t218).f2.f0), .int .i32 ((rd_T32 l0 t218).f2.f1), .int .i32 ((rd_T32 l0 t218).f3), .int .i32 ((rd_T32 l0 t218).f4), .int .i32 ((rd_T32 l0 t218).f5.f0), .int .i32 ((rd_T32 l0 t218).f5.f1), .int .i32 0, .int .i32 0]) ?_ 8 _ rfl; (with_reducible repeat first | apply bN | apply bD | apply bA); refine bP (cs := #[.int .u32 ((rd_T32 l0 t218).f0), .int .i32 ((rd_T32 l0 t218).f1), .int .i32 ((rd_T32 l0 t218).f2.f0), .int .i32 ((rd_T32 l0 t218).f2.f1), .int .i32 ((rd_T32 l0 t218).f3), .int .i32 ((rd_T32 l0 t218).f4), .int .i32 ((rd_T32 l0 t218).f5.f0), .int .i32 0, .int .i32 0, .int .i32 0]) ?_ 7 _ rfl; (with_reducible repeat first | apply bN | apply bD | apply bA); refine bP (cs := #[.int .u32 ((rd_T32 l0 t218).f0), .int .i32 ((rd_T32 l0 t218).f1), .int .i32 ((rd_T32 l0 t218).f2.f0), .int .i32 ((rd_T32 l0 t218).f2.f1), .int .i32 ((rd_T32 l0 t218).f3), .int .i32 ((rd_T32 l0 t218).f4), .int .i32 0, .int .i32 0, .int .i32 0, .int .i32 0]) ?_ 6 _ rfl; (with_reducible repeat first | apply bN | apply bD | apply bA); refine bP (cs := #[.int .u32 ((rd_T32 l0 t218).f0), .int .i32 ((rd_T32 l0 t218).f1), .int .i32 ((rd_T32 l0 t218).f2.f0), .int .i32 ((rd_T32 l0 t218).f2.f1), .int .i32 ((rd_T32 l0 t218).f3), .int .i32 0, .int .i32 0, .int .i32 0, .int .i32 0, .int .i32 0]) ?_ 5 _ rfl; (with_reducible repeat first | apply bN | apply bD | apply bA); refine bP (cs := #[.int .u32 ((rd_T32 l0 t218).f0), .int .i32 ((rd_T32 l0 t218).f1), .int .i32 ((rd_T32 l0 t218).f2.f0), .int .i32 ((rd_T32 l0 t218).f2.f1), .int .i32 0, .int .i32 0, .int .i32 0, .int .i32 0, .int .i32 0, .int .i32 0]) ?_ 4 _ rfl; (with_reducible repeat first | apply bN | apply bD | apply bA); refine bP (cs := #[.int .u32 ((rd_T32 l0 t218).f0), .int .i32 ((rd_T32 l0 t218).f1), .int .i32 ((rd_T32 l0 t218).f2.f0), .int .i32 0, .int .i32 0, .int .i32 0, .int .i32 0, .int .i32 0, .int .i32 0, .int .i32 0]) ?_ 3 _ rfl; (with_reducible repeat first | apply bN | apply bD | apply bA); refine bP (cs := #[.int .u32 ((rd_T32 l0 t218).f0), .int .i32 ((rd_T32 l0 t218).f1), .int .i32 0, .int .i32 0, .int .i32 0, .int .i32 0, .int .i32 0, .int .i32 0, .int .i32 0, .int .i32 0]) ?_ 2 _ rfl; (with_reducible repeat first | apply bN | apply bD | apply bA); refine bP (cs := #[.int .u32 ((rd_T32 l0 t218).f0), .int .i32 0, .int .i32 0, .int .i32 0, .int .i32 0, .int .i32 0, .int .i32 0, .int .i32 0, .int .i32 0, .int .i32 0]) ?_ 1 _ rfl; (with_reducible repeat first | apply bN | apply bD | apply bA); refine bP (cs := #[.int .u32 0, .int .i32 0, .int .i32 0, .int .i32 0, .int .i32 0, .int .i32 0, .int .i32 0, .int .i32 0, .int .i32 0, .int .i32 0]) ?_ 0 _ rfl; (with_reducible repeat first | apply bN | apply bD | apply bA); exact BK220.out) hb); have n4_ := aM (lT (by repeat (first | (with_reducible first | exact HB.out | apply lA | apply lN | apply lD | refine lS ?_ GE210.out | refine lS ?_ GE215.out | refine lS ?_ GE220.out) | exact HB.out)) hb); have n5_ := aM (hbox); have n6_ := aM ((by rw [hg]; exact (lZ (by repeat (first | (with_reducible first | exact HB.out | apply lA | apply lN | apply lD | refine lS ?_ GE210.out | refine lS ?_ GE215.out | refine lS ?_ GE220.out) | exact HB.out))) : w.heap.size ≤ b223)); have n7_ := aM ((by rw [hg]; exact (lZ (by repeat (first | (with_reducible first | exact HB.out | apply lA | apply lN | apply lD | refine lS ?_ GE210.out | refine lS ?_ GE215.out | refine lS ?_ GE220.out) | exact HB.out))) : w.heap.size ≤ b223)); have n8_ := aM ((by rw [hg]; exact Nat.ne_of_lt (bL (g := b210) (o := .cells #[.int .i64 x211000_2, .int .i64 x211001_2] 53 (0, 0)) (by (with_reducible repeat first | apply bN | apply bD | apply bA); refine bR ?_ N2_.out _; (with_reducible repeat first | apply bN | apply bD | apply bA); refine bR ?_ N2_.out _; (with_reducible repeat first | apply bN | apply bD | apply bA); refine bR ?_ N2_.out _; (with_reducible repeat first | apply bN | apply bD | apply bA); refine bR ?_ N2_.out _; (with_reducible repeat first | apply bN | apply bD | apply bA); refine bR ?_ N2_.out _; (with_reducible repeat first | apply bN | apply bD | apply bA); refine bR ?_ N2_.out _; (with_reducible repeat first | apply bN | apply bD | apply bA); refine bR ?_ N2_.out _; (with_reducible repeat first | apply bN | apply bD | apply bA); refine bR ?_ N2_.out _; (with_reducible repeat first | apply bN | apply bD | apply bA); refine bR ?_ N2_.out _; (with_reducible repeat first | apply bN | apply bD | apply bA); refine bR ?_ N2_.out _; (with_reducible repeat first | apply bN | apply bD | apply bA); exact BK210.out)) : b210 ≠ b223)); have n9_ := aM ((by rw [hg]; exact Nat.ne_of_gt (bL (g := b210) (o := .cells #[.int .i64 x211000_2, .int .i64 x211001_2] 53 (0, 0)) (by (with_reducible repeat first | apply bN | apply bD | apply bA); refine bR ?_ N2_.out _; (with_reducible repeat first | apply bN | apply bD | apply bA); refine bR ?_ N2_.out _; (with_reducible repeat first | apply bN | apply bD | apply bA); refine bR ?_ N2_.out _; (with_reducible repeat first | apply bN | apply bD | apply bA); refine bR ?_ N2_.out _; (with_reducible repeat first | apply bN | apply bD | apply bA); refine bR ?_ N2_.out _; (with_reducible repeat first | apply bN | apply bD | apply bA); refine bR ?_ N2_.out _; (with_reducible repeat first | apply bN | apply bD | apply bA); refine bR ?_ N2_.out _; (with_reducible repeat first | apply bN | apply bD | apply bA); refine bR ?_ N2_.out _; (with_reducible repeat first | apply bN | apply bD | apply bA); refine bR ?_ N2_.out _; (with_reducible repeat first | apply bN | apply bD | apply bA); refine bR ?_ N2_.out _; (with_reducible repeat first | apply bN | apply bD | apply bA); exact BK210.out)) : b223 ≠ b210)); have n10_ := aM ((by rw [hg]; exact Nat.ne_of_lt (bL (g := b215) (o := .cells #[.int .u32 ((rd_T37 l1 x8_2).f0.f0), .int .u32 ((rd_T37 l1 x8_2).f0.f1), .int .i32 ((rd_T37 l1 x8_2).f1.f0), .int .i32 ((rd_T37 l1 x8_2).f1.f1), .int .i32 ((rd_T37 l1 x8_2).f2)] 37 (0, 0)) (by (with_reducible repeat first | apply bN | apply bD | apply bA); refine bR ?_ N4_.out _; (with_reducible repeat first | apply bN | apply bD | apply bA); refine bR ?_ N4_.out _; (with_reducible repeat first | apply bN | apply bD | apply bA); refine bR ?_ N4_.out _; (with_reducible repeat first | apply bN | apply bD | apply bA); refine bR ?_ N4_.out _; (with_reducible repeat first | apply bN | apply bD | apply bA); refine bR ?_ N4_.out _; (with_reducible repeat first | apply bN | apply bD | apply bA); refine bR ?_ N4_.out _; (with_reducible repeat first | apply bN | apply bD | apply bA); refine bR ?_ N4_.out _; (with_reducible repeat first | apply bN | apply bD | apply bA); refine bR ?_ N4_.out _; (with_reducible repeat first | apply bN | apply bD | apply bA); refine bR ?_ N4_.out _; (with_reducible repeat first | apply bN | apply bD | apply bA); refine bR ?_ N4_.out _; (with_reducible repeat first | apply bN | apply bD | apply bA); exact BK215.out)) : b215 ≠ b223)); have n11_ := aM ((by rw [hg]; exact Nat.ne_of_gt (bL (g := b215) (o := .cells #[.int .u32 ((rd_T37 l1 x8_2).f0.f0), .int .u32 ((rd_T37 l1 x8_2).f0.f1), .int .i32 ((rd_T37 l1 x8_2).f1.f0), .int .i32 ((rd_T37 l1 x8_2).f1.f1), .int .i32 ((rd_T37 l1 x8_2).f2)] 37 (0, 0)) (by (with_reducible repeat first | apply bN | apply bD | apply bA); refine bR ?_ N4_.out _; (with_reducible repeat first | apply bN | apply bD | apply bA); refine bR ?_ N4_.out _; (with_reducible repeat first | apply bN | apply bD | apply bA); refine bR ?_ N4_.out _; (with_reducible repeat first | apply bN | apply bD | apply bA); refine bR ?_ N4_.out _; (with_reducible repeat first | apply bN | apply bD | apply bA); refine bR ?_ N4_.out _; (with_reducible repeat first | apply bN | apply bD | apply bA); refine bR ?_ N4_.out _; (with_reducible repeat first | apply bN | apply bD | apply bA); refine bR ?_ N4_.out _; (with_reducible repeat first | apply bN | apply bD | apply bA); refine bR ?_ N4_.out _; (with_reducible repeat first | apply bN | apply bD | apply bA); refine bR ?_ N4_.out _; (with_reducible repeat first | apply bN | apply bD | apply bA); refine bR ?_ N4_.out _; (with_reducible repeat first | apply bN | apply bD | apply bA); exact BK215.out)) : b223 ≠ b215)); have n12_ := aM ((by rw [hg]; exact Nat.ne_of_lt (bL (g := b220) (o := .cells #[.int .u32 ((rd_T32 l0 t218).f0), .int .i32 ((rd_T32 l0 t218).f1), .int .i32 ((rd_T32 l0 t218).f2.f0), .int .i32 ((rd_T32 l0 t218).f2.f1), .int .i32 ((rd_T32 l0 t218).f3), .int .i32 ((rd_T32 l0 t218).f4), .int .i32 ((rd_T32 l0 t218).f5.f0), .int .i32 ((rd_T32 l0 t218).f5.f1), .int .i32 ((rd_T32 l0 t218).f6.f0), .int .i32 ((rd_T32 l0 t218).f6.f1)] 32 (0, 0)) (by (with_reducible repeat first | apply bN | apply bD | apply bA); refine bP (cs := #[.int .u32 ((rd_T32 l0 t218).f0), .int .i32 ((rd_T32 l0 t218).f1), .int .i32 ((rd_T32 l0 t218).f2.f0), .int .i32 ((rd_T32 l0 t218).f2.f1), .int .i32 ((rd_T32 l0 t218).f3), .int .i32 ((rd_T32 l0 t218).f4), .int .i32 ((rd_T32 l0 t218).f5.f0), .int .i32 ((rd_T32 l0 t218).f5.f1), .int .i32 ((rd_T32 l0 t218).f6.f0), .int .i32 0]) ?_ 9 _ rfl; (with_reducible repeat first | apply bN | apply bD | apply bA); refine bP (cs := #[.int .u32 ((rd_T32 l0 t218).f0), .int .i32 ((rd_T32 l0 t218).f1), .int .i32 ((rd_T32 l0 t218).f2.f0), .int .i32 ((rd_T32 l0 t218).f2.f1), .int .i32 ((rd_T32 l0 t218).f3), .int .i32 ((rd_T32 l0 t218).f4), .int .i32 ((rd_T32 l0 t218).f5.f0), .int .i32 ((rd_T32 l0 t218).f5.f1), .int .i32 0, .int .i32 0]) ?_ 8 _ rfl; (with_reducible repeat first | apply bN | apply bD | apply bA); refine bP (cs := #[.int .u32 ((rd_T32 l0 t218).f0), .int .i32 ((rd_T32 l0 t218).f1), .int .i32 ((rd_T32 l0 t218).f2.f0), .int .i32 ((rd_T32 l0 t218).f2.f1), .int .i32 ((rd_T32 l0 t218).f3), .int .i32 ((rd_T32 l0 t218).f4), .int .i32 ((rd_T32 l0 t218).f5.f0), .int .i32 0, .int .i32 0, .int .i32 0]) ?_ 7 _ rfl; (with_reducible repeat first | apply bN | apply bD | apply bA); refine bP (cs := #[.int .u32 ((rd_T32 l0 t218).f0), .int .i32 ((rd_T32 l0 t218).f1), .int .i32 ((rd_T32 l0 t218).f2.f0), .int .i32 ((rd_T32 l0 t218).f2.f1), .int .i32 ((rd_T32 l0 t218).f3), .int .i32 ((rd_T32 l0 t218).f4), .int .i32 0, .int .i32 0, .int .i32 0, .int .i32 0]) ?_ 6 _ rfl; (with_reducible repeat first | apply bN | apply bD | apply bA); refine bP (cs := #[.int .u32 ((rd_T32 l0 t218).f0), .int .i32 ((rd_T32 l0 t218).f1), .int .i32 ((rd_T32 l0 t218).f2.f0), .int .i32 ((rd_T32 l0 t218).f2.f1), .int .i32 ((rd_T32 l0 t218).f3), .int .i32 0, .int .i32 0, .int .i32 0, .int .i32 0, .int .i32 0]) ?_ 5 _ rfl; (with_reducible repeat first | apply bN | apply bD | apply bA); refine bP (cs := #[.int .u32 ((rd_T32 l0 t218).f0), .int .i32 ((rd_T32 l0 t218).f1), .int .i32 ((rd_T32 l0 t218).f2.f0), .int .i32 ((rd_T32 l0 t218).f2.f1), .int .i32 0, .int .i32 0, .int .i32 0, .int .i32 0, .int .i32 0, .int .i32 0]) ?_ 4 _ rfl; (with_reducible repeat first | apply bN | apply bD | apply bA); refine bP (cs := #[.int .u32 ((rd_T32 l0 t218).f0), .int .i32 ((rd_T32 l0 t218).f1), .int .i32 ((rd_T32 l0 t218).f2.f0), .int .i32 0, .int .i32 0, .int .i32 0, .int .i32 0, .int .i32 0, .int .i32 0, .int .i32 0]) ?_ 3 _ rfl; (with_reducible repeat first | apply bN | apply bD | apply bA); refine bP (cs := #[.int .u32 ((rd_T32 l0 t218).f0), .int .i32 ((rd_T32 l0 t218).f1), .int .i32 0, .int .i32 0, .int .i32 0, .int .i32 0, .int .i32 0, .int .i32 0, .int .i32 0, .int .i32 0]) ?_ 2 _ rfl; (with_reducible repeat first | apply bN | apply bD | apply bA); refine bP (cs := #[.int .u32 ((rd_T32 l0 t218).f0), .int .i32 0, .int .i32 0, .int .i32 0, .int .i32 0, .int .i32 0, .int .i32 0, .int .i32 0, .int .i32 0, .int .i32 0]) ?_ 1 _ rfl; (with_reducible repeat first | apply bN | apply bD | apply bA); refine bP (cs := #[.int .u32 0, .int .i32 0, .int .i32 0, .int .i32 0, .int .i32 0, .int .i32 0, .int .i32 0, .int .i32 0, .int .i32 0, .int .i32 0]) ?_ 0 _ rfl; (with_reducible repeat first | apply bN | apply bD | apply bA); exact BK220.out)) : b220 ≠ b223)); have n13_ := aM ((by rw [hg]; exact Nat.ne_of_gt (bL (g := b220) (o := .cells #[.int .u32 ((rd_T32 l0 t218).f0), .int .i32 ((rd_T32 l0 t218).f1), .int .i32 ((rd_T32 l0 t218).f2.f0), .int .i32 ((rd_T32 l0 t218).f2.f1), .int .i32 ((rd_T32 l0 t218).f3), .int .i32 ((rd_T32 l0 t218).f4), .int .i32 ((rd_T32 l0 t218).f5.f0), .int .i32 ((rd_T32 l0 t218).f5.f1), .int .i32 ((rd_T32 l0 t218).f6.f0), .int .i32 ((rd_T32 l0 t218).f6.f1)] 32 (0, 0)) (by (with_reducible repeat first | apply bN | apply bD | apply bA); refine bP (cs := #[.int .u32 ((rd_T32 l0 t218).f0), .int .i32 ((rd_T32 l0 t218).f1), .int .i32 ((rd_T32 l0 t218).f2.f0), .int .i32 ((rd_T32 l0 t218).f2.f1), .int .i32 ((rd_T32 l0 t218).f3), .int .i32 ((rd_T32 l0 t218).f4), .int .i32 ((rd_T32 l0 t218).f5.f0), .int .i32 ((rd_T32 l0 t218).f5.f1), .int .i32 ((rd_T32 l0 t218).f6.f0), .int .i32 0]) ?_ 9 _ rfl; (with_reducible repeat first | apply bN | apply bD | apply bA); refine bP (cs := #[.int .u32 ((rd_T32 l0 t218).f0), .int .i32 ((rd_T32 l0 t218).f1), .int .i32 ((rd_T32 l0 t218).f2.f0), .int .i32 ((rd_T32 l0 t218).f2.f1), .int .i32 ((rd_T32 l0 t218).f3), .int .i32 ((rd_T32 l0 t218).f4), .int .i32 ((rd_T32 l0 t218).f5.f0), .int .i32 ((rd_T32 l0 t218).f5.f1), .int .i32 0, .int .i32 0]) ?_ 8 _ rfl; (with_reducible repeat first | apply bN | apply bD | apply bA); refine bP (cs := #[.int .u32 ((rd_T32 l0 t218).f0), .int .i32 ((rd_T32 l0 t218).f1), .int .i32 ((rd_T32 l0 t218).f2.f0), .int .i32 ((rd_T32 l0 t218).f2.f1), .int .i32 ((rd_T32 l0 t218).f3), .int .i32 ((rd_T32 l0 t218).f4), .int .i32 ((rd_T32 l0 t218).f5.f0), .int .i32 0, .int .i32 0, .int .i32 0]) ?_ 7 _ rfl; (with_reducible repeat first | apply bN | apply bD | apply bA); refine bP (cs := #[.int .u32 ((rd_T32 l0 t218).f0), .int .i32 ((rd_T32 l0 t218).f1), .int .i32 ((rd_T32 l0 t218).f2.f0), .int .i32 ((rd_T32 l0 t218).f2.f1), .int .i32 ((rd_T32 l0 t218).f3), .int .i32 ((rd_T32 l0 t218).f4), .int .i32 0, .int .i32 0, .int .i32 0, .int .i32 0]) ?_ 6 _ rfl; (with_reducible repeat first | apply bN | apply bD | apply bA); refine bP (cs := #[.int .u32 ((rd_T32 l0 t218).f0), .int .i32 ((rd_T32 l0 t218).f1), .int .i32 ((rd_T32 l0 t218).f2.f0), .int .i32 ((rd_T32 l0 t218).f2.f1), .int .i32 ((rd_T32 l0 t218).f3), .int .i32 0, .int .i32 0, .int .i32 0, .int .i32 0, .int .i32 0]) ?_ 5 _ rfl; (with_reducible repeat first | apply bN | apply bD | apply bA); refine bP (cs := #[.int .u32 ((rd_T32 l0 t218).f0), .int .i32 ((rd_T32 l0 t218).f1), .int .i32 ((rd_T32 l0 t218).f2.f0), .int .i32 ((rd_T32 l0 t218).f2.f1), .int .i32 0, .int .i32 0, .int .i32 0, .int .i32 0, .int .i32 0, .int .i32 0]) ?_ 4 _ rfl; (with_reducible repeat first | apply bN | apply bD | apply bA); refine bP (cs := #[.int .u32 ((rd_T32 l0 t218).f0), .int .i32 ((rd_T32 l0 t218).f1), .int .i32 ((rd_T32 l0 t218).f2.f0), .int .i32 0, .int .i32 0, .int .i32 0, .int .i32 0, .int .i32 0, .int .i32 0, .int .i32 0]) ?_ 3 _ rfl; (with_reducible repeat first | apply bN | apply bD | apply bA); refine bP (cs := #[.int .u32 ((rd_T32 l0 t218).f0), .int .i32 ((rd_T32 l0 t218).f1), .int .i32 0, .int .i32 0, .int .i32 0, .int .i32 0, .int .i32 0, .int .i32 0, .int .i32 0, .int .i32 0]) ?_ 2 _ rfl; (with_reducible repeat first | apply bN | apply bD | apply bA); refine bP (cs := #[.int .u32 ((rd_T32 l0 t218).f0), .int .i32 0, .int .i32 0, .int .i32 0, .int .i32 0, .int .i32 0, .int .i32 0, .int .i32 0, .int .i32 0, .int .i32 0]) ?_ 1 _ rfl; (with_reducible repeat first | apply bN | apply bD | apply bA); refine bP (cs := #[.int .u32 0, .int .i32 0, .int .i32 0, .int .i32 0, .int .i32 0, .int .i32 0, .int .i32 0, .int .i32 0, .int .i32 0, .int .i32 0]) ?_ 0 _ rfl; (with_reducible repeat first | apply bN | apply bD | apply bA); exact BK220.out)) : b223 ≠ b220)); clear HO_5; clear BK210; clear BK215; clear BK220; clear HB; have HO_5 := n0_; have BK210 := n1_; have BK215 := n2_; have BK220 := n3_; have HB := n4_; have BK223 := n5_; have GW223 := n6_; have GE223 := n7_; have N6_ := n8_; have N7_ := n9_; have N8_ := n10_; have N9_ := n11_; have N10_ := n12_; have N11_ := n13_; clear n0_ n1_ n2_ n3_ n4_ n5_ n6_ n7_ n8_ n9_ n10_ n11_ n12_ n13_; clear hb hbox hg; have hnb39 := N7_.out; have hnc39 := N6_.out; have hnb40 := N9_.out; have hnc40 := N8_.out; have hnb41 := N11_.out; have hnc41 := N10_.out; have hcz42_0 : w38.cell? ⟨b223, 0, none⟩ = some (.int .u32 0) := (bC BK223.out 0).trans rfl; have hcz42_1 : w38.cell? ⟨b223, 1, none⟩ = some (.int .i32 0) := (bC BK223.out 1).trans rfl; have hcz42_2 : w38.cell? ⟨b223, 2, none⟩ = some (.int .i32 0) := (bC BK223.out 2).trans rfl; have hcz42_3 : w38.cell? ⟨b223, 3, none⟩ = some (.int .i32 0) := (bC BK223.out 3).trans rfl; have hcz42_4 : w38.cell? ⟨b223, 4, none⟩ = some (.int .i32 0) := (bC BK223.out 4).trans rfl; have hcz42_5 : w38.cell? ⟨b223, 5, none⟩ = some (.int .i32 0) := (bC BK223.out 5).trans rfl; have hcz42_6 : w38.cell? ⟨b223, 6, none⟩ = some (.int .i32 0) := (bC BK223.out 6).trans rfl; have hcz42_7 : w38.cell? ⟨b223, 7, none⟩ = some (.int .i32 0) := (bC BK223.out 7).trans rfl; have hcz42_8 : w38.cell? ⟨b223, 8, none⟩ = some (.int .i32 0) := (bC BK223.out 8).trans rfl; have hcz42_9 : w38.cell? ⟨b223, 9, none⟩ = some (.int .i32 0) := (bC BK223.out 9).trans rfl; have hfz42_0 := bF BK223.out 0; have hfz42_1 := bF BK223.out 1; have hfz42_2 := bF BK223.out 2; have hfz42_3 := bF BK223.out 3; have hfz42_4 := bF BK223.out 4; have hfz42_5 := bF BK223.out 5; have hfz42_6 := bF BK223.out 6; have hfz42_7 := bF BK223.out 7; have hfz42_8 := bF BK223.out 8; have hfz42_9 := bF BK223.out 9))
                  have n0_ : Aside0 (Kd.R k53 53 ((((((((((w38.setCell ⟨b223, 0, none⟩ (.int .u32 ((rd_T32 l0 t221).f0))).setCell ⟨b223, 1, none⟩ (.int .i32 ((rd_T32 l0 t221).f1))).setCell ⟨b223, 2, none⟩ (.int .i32 ((rd_T32 l0 t221).f2.f0))).setCell ⟨b223, 3, none⟩ (.int .i32 ((rd_T32 l0 t221).f2.f1))).setCell ⟨b223, 4, none⟩ (.int .i32 ((rd_T32 l0 t221).f3))).setCell ⟨b223, 5, none⟩ (.int .i32 ((rd_T32 l0 t221).f4))).setCell ⟨b223, 6, none⟩ (.int .i32 ((rd_T32 l0 t221).f5.f0))).setCell ⟨b223, 7, none⟩ (.int .i32 ((rd_T32 l0 t221).f5.f1))).setCell ⟨b223, 8, none⟩ (.int .i32 ((rd_T32 l0 t221).f6.f0))).setCell ⟨b223, 9, none⟩ (.int .i32 ((rd_T32 l0 t221).f6.f1))) w.heap.size (fun k_ => k_ ≠ b210) u5 x5_1) := ⟨by (with_reducible repeat (first | apply Kd.R_alloc | apply Kd.R_drewN | apply Kd.R_drew)); exact Kd.R_mono (Kd.R_far (p := ⟨b223, 9, none⟩) (Kd.R_far (p := ⟨b223, 8, none⟩) (Kd.R_far (p := ⟨b223, 7, none⟩) (Kd.R_far (p := ⟨b223, 6, none⟩) (Kd.R_far (p := ⟨b223, 5, none⟩) (Kd.R_far (p := ⟨b223, 4, none⟩) (Kd.R_far (p := ⟨b223, 3, none⟩) (Kd.R_far (p := ⟨b223, 2, none⟩) (Kd.R_far (p := ⟨b223, 1, none⟩) (Kd.R_far (p := ⟨b223, 0, none⟩) (Kd.R_types HO_5.out BK223.out (by decide)) (fun _ hk => hk.2) (.int .u32 ((rd_T32 l0 t221).f0))) (fun _ hk => hk.2) (.int .i32 ((rd_T32 l0 t221).f1))) (fun _ hk => hk.2) (.int .i32 ((rd_T32 l0 t221).f2.f0))) (fun _ hk => hk.2) (.int .i32 ((rd_T32 l0 t221).f2.f1))) (fun _ hk => hk.2) (.int .i32 ((rd_T32 l0 t221).f3))) (fun _ hk => hk.2) (.int .i32 ((rd_T32 l0 t221).f4))) (fun _ hk => hk.2) (.int .i32 ((rd_T32 l0 t221).f5.f0))) (fun _ hk => hk.2) (.int .i32 ((rd_T32 l0 t221).f5.f1))) (fun _ hk => hk.2) (.int .i32 ((rd_T32 l0 t221).f6.f0))) (fun _ hk => hk.2) (.int .i32 ((rd_T32 l0 t221).f6.f1))) (fun _ hk => hk.1)⟩
                  have n1_ : Aside0 (((((((((((w38.setCell ⟨b223, 0, none⟩ (.int .u32 ((rd_T32 l0 t221).f0))).setCell ⟨b223, 1, none⟩ (.int .i32 ((rd_T32 l0 t221).f1))).setCell ⟨b223, 2, none⟩ (.int .i32 ((rd_T32 l0 t221).f2.f0))).setCell ⟨b223, 3, none⟩ (.int .i32 ((rd_T32 l0 t221).f2.f1))).setCell ⟨b223, 4, none⟩ (.int .i32 ((rd_T32 l0 t221).f3))).setCell ⟨b223, 5, none⟩ (.int .i32 ((rd_T32 l0 t221).f4))).setCell ⟨b223, 6, none⟩ (.int .i32 ((rd_T32 l0 t221).f5.f0))).setCell ⟨b223, 7, none⟩ (.int .i32 ((rd_T32 l0 t221).f5.f1))).setCell ⟨b223, 8, none⟩ (.int .i32 ((rd_T32 l0 t221).f6.f0))).setCell ⟨b223, 9, none⟩ (.int .i32 ((rd_T32 l0 t221).f6.f1))).heap[b210]? = some (.cells #[.int .i64 x211000_2, .int .i64 x211001_2] 53 (0, 0))) := ⟨by (with_reducible repeat first | apply bN | apply bD | apply bA); refine bR ?_ N6_.out _; (with_reducible repeat first | apply bN | apply bD | apply bA); refine bR ?_ N6_.out _; (with_reducible repeat first | apply bN | apply bD | apply bA); refine bR ?_ N6_.out _; (with_reducible repeat first | apply bN | apply bD | apply bA); refine bR ?_ N6_.out _; (with_reducible repeat first | apply bN | apply bD | apply bA); refine bR ?_ N6_.out _; (with_reducible repeat first | apply bN | apply bD | apply bA); refine bR ?_ N6_.out _; (with_reducible repeat first | apply bN | apply bD | apply bA); refine bR ?_ N6_.out _; (with_reducible repeat first | apply bN | apply bD | apply bA); refine bR ?_ N6_.out _; (with_reducible repeat first | apply bN | apply bD | apply bA); refine bR ?_ N6_.out _; (with_reducible repeat first | apply bN | apply bD | apply bA); refine bR ?_ N6_.out _; (with_reducible repeat first | apply bN | apply bD | apply bA); exact BK210.out⟩
                  have n2_ : Aside0 (((((((((((w38.setCell ⟨b223, 0, none⟩ (.int .u32 ((rd_T32 l0 t221).f0))).setCell ⟨b223, 1, none⟩ (.int .i32 ((rd_T32 l0 t221).f1))).setCell ⟨b223, 2, none⟩ (.int .i32 ((rd_T32 l0 t221).f2.f0))).setCell ⟨b223, 3, none⟩ (.int .i32 ((rd_T32 l0 t221).f2.f1))).setCell ⟨b223, 4, none⟩ (.int .i32 ((rd_T32 l0 t221).f3))).setCell ⟨b223, 5, none⟩ (.int .i32 ((rd_T32 l0 t221).f4))).setCell ⟨b223, 6, none⟩ (.int .i32 ((rd_T32 l0 t221).f5.f0))).setCell ⟨b223, 7, none⟩ (.int .i32 ((rd_T32 l0 t221).f5.f1))).setCell ⟨b223, 8, none⟩ (.int .i32 ((rd_T32 l0 t221).f6.f0))).setCell ⟨b223, 9, none⟩ (.int .i32 ((rd_T32 l0 t221).f6.f1))).heap[b215]? = some (.cells #[.int .u32 ((rd_T37 l1 x8_2).f0.f0), .int .u32 ((rd_T37 l1 x8_2).f0.f1), .int .i32 ((rd_T37 l1 x8_2).f1.f0), .int .i32 ((rd_T37 l1 x8_2).f1.f1), .int .i32 ((rd_T37 l1 x8_2).f2)] 37 (0, 0))) := ⟨by (with_reducible repeat first | apply bN | apply bD | apply bA); refine bR ?_ N8_.out _; (with_reducible repeat first | apply bN | apply bD | apply bA); refine bR ?_ N8_.out _; (with_reducible repeat first | apply bN | apply bD | apply bA); refine bR ?_ N8_.out _; (with_reducible repeat first | apply bN | apply bD | apply bA); refine bR ?_ N8_.out _; (with_reducible repeat first | apply bN | apply bD | apply bA); refine bR ?_ N8_.out _; (with_reducible repeat first | apply bN | apply bD | apply bA); refine bR ?_ N8_.out _; (with_reducible repeat first | apply bN | apply bD | apply bA); refine bR ?_ N8_.out _; (with_reducible repeat first | apply bN | apply bD | apply bA); refine bR ?_ N8_.out _; (with_reducible repeat first | apply bN | apply bD | apply bA); refine bR ?_ N8_.out _; (with_reducible repeat first | apply bN | apply bD | apply bA); refine bR ?_ N8_.out _; (with_reducible repeat first | apply bN | apply bD | apply bA); exact BK215.out⟩
                  have n3_ : Aside0 (((((((((((w38.setCell ⟨b223, 0, none⟩ (.int .u32 ((rd_T32 l0 t221).f0))).setCell ⟨b223, 1, none⟩ (.int .i32 ((rd_T32 l0 t221).f1))).setCell ⟨b223, 2, none⟩ (.int .i32 ((rd_T32 l0 t221).f2.f0))).setCell ⟨b223, 3, none⟩ (.int .i32 ((rd_T32 l0 t221).f2.f1))).setCell ⟨b223, 4, none⟩ (.int .i32 ((rd_T32 l0 t221).f3))).setCell ⟨b223, 5, none⟩ (.int .i32 ((rd_T32 l0 t221).f4))).setCell ⟨b223, 6, none⟩ (.int .i32 ((rd_T32 l0 t221).f5.f0))).setCell ⟨b223, 7, none⟩ (.int .i32 ((rd_T32 l0 t221).f5.f1))).setCell ⟨b223, 8, none⟩ (.int .i32 ((rd_T32 l0 t221).f6.f0))).setCell ⟨b223, 9, none⟩ (.int .i32 ((rd_T32 l0 t221).f6.f1))).heap[b220]? = some (.cells #[.int .u32 ((rd_T32 l0 t218).f0), .int .i32 ((rd_T32 l0 t218).f1), .int .i32 ((rd_T32 l0 t218).f2.f0), .int .i32 ((rd_T32 l0 t218).f2.f1), .int .i32 ((rd_T32 l0 t218).f3), .int .i32 ((rd_T32 l0 t218).f4), .int .i32 ((rd_T32 l0 t218).f5.f0), .int .i32 ((rd_T32 l0 t218).f5.f1), .int .i32 ((rd_T32 l0 t218).f6.f0), .int .i32 ((rd_T32 l0 t218).f6.f1)] 32 (0, 0))) := ⟨by (with_reducible repeat first | apply bN | apply bD | apply bA); refine bR ?_ N10_.out _; (with_reducible repeat first | apply bN | apply bD | apply bA); refine bR ?_ N10_.out _; (with_reducible repeat first | apply bN | apply bD | apply bA); refine bR ?_ N10_.out _; (with_reducible repeat first | apply bN | apply bD | apply bA); refine bR ?_ N10_.out _; (with_reducible repeat first | apply bN | apply bD | apply bA); refine bR ?_ N10_.out _; (with_reducible repeat first | apply bN | apply bD | apply bA); refine bR ?_ N10_.out _; (with_reducible repeat first | apply bN | apply bD | apply bA); refine bR ?_ N10_.out _; (with_reducible repeat first | apply bN | apply bD | apply bA); refine bR ?_ N10_.out _; (with_reducible repeat first | apply bN | apply bD | apply bA); refine bR ?_ N10_.out _; (with_reducible repeat first | apply bN | apply bD | apply bA); refine bR ?_ N10_.out _; (with_reducible repeat first | apply bN | apply bD | apply bA); exact BK220.out⟩
                  have n4_ : Aside0 (((((((((((w38.setCell ⟨b223, 0, none⟩ (.int .u32 ((rd_T32 l0 t221).f0))).setCell ⟨b223, 1, none⟩ (.int .i32 ((rd_T32 l0 t221).f1))).setCell ⟨b223, 2, none⟩ (.int .i32 ((rd_T32 l0 t221).f2.f0))).setCell ⟨b223, 3, none⟩ (.int .i32 ((rd_T32 l0 t221).f2.f1))).setCell ⟨b223, 4, none⟩ (.int .i32 ((rd_T32 l0 t221).f3))).setCell ⟨b223, 5, none⟩ (.int .i32 ((rd_T32 l0 t221).f4))).setCell ⟨b223, 6, none⟩ (.int .i32 ((rd_T32 l0 t221).f5.f0))).setCell ⟨b223, 7, none⟩ (.int .i32 ((rd_T32 l0 t221).f5.f1))).setCell ⟨b223, 8, none⟩ (.int .i32 ((rd_T32 l0 t221).f6.f0))).setCell ⟨b223, 9, none⟩ (.int .i32 ((rd_T32 l0 t221).f6.f1))).heap[b223]? = some (.cells #[.int .u32 ((rd_T32 l0 t221).f0), .int .i32 ((rd_T32 l0 t221).f1), .int .i32 ((rd_T32 l0 t221).f2.f0), .int .i32 ((rd_T32 l0 t221).f2.f1), .int .i32 ((rd_T32 l0 t221).f3), .int .i32 ((rd_T32 l0 t221).f4), .int .i32 ((rd_T32 l0 t221).f5.f0), .int .i32 ((rd_T32 l0 t221).f5.f1), .int .i32 ((rd_T32 l0 t221).f6.f0), .int .i32 ((rd_T32 l0 t221).f6.f1)] 32 (0, 0))) := ⟨by (with_reducible repeat first | apply bN | apply bD | apply bA); refine bP (cs := #[.int .u32 ((rd_T32 l0 t221).f0), .int .i32 ((rd_T32 l0 t221).f1), .int .i32 ((rd_T32 l0 t221).f2.f0), .int .i32 ((rd_T32 l0 t221).f2.f1), .int .i32 ((rd_T32 l0 t221).f3), .int .i32 ((rd_T32 l0 t221).f4), .int .i32 ((rd_T32 l0 t221).f5.f0), .int .i32 ((rd_T32 l0 t221).f5.f1), .int .i32 ((rd_T32 l0 t221).f6.f0), .int .i32 0]) ?_ 9 _ rfl; (with_reducible repeat first | apply bN | apply bD | apply bA); refine bP (cs := #[.int .u32 ((rd_T32 l0 t221).f0), .int .i32 ((rd_T32 l0 t221).f1), .int .i32 ((rd_T32 l0 t221).f2.f0), .int .i32 ((rd_T32 l0 t221).f2.f1), .int .i32 ((rd_T32 l0 t221).f3), .int .i32 ((rd_T32 l0 t221).f4), .int .i32 ((rd_T32 l0 t221).f5.f0), .int .i32 ((rd_T32 l0 t221).f5.f1), .int .i32 0, .int .i32 0]) ?_ 8 _ rfl; (with_reducible repeat first | apply bN | apply bD | apply bA); refine bP (cs := #[.int .u32 ((rd_T32 l0 t221).f0), .int .i32 ((rd_T32 l0 t221).f1), .int .i32 ((rd_T32 l0 t221).f2.f0), .int .i32 ((rd_T32 l0 t221).f2.f1), .int .i32 ((rd_T32 l0 t221).f3), .int .i32 ((rd_T32 l0 t221).f4), .int .i32 ((rd_T32 l0 t221).f5.f0), .int .i32 0, .int .i32 0, .int .i32 0]) ?_ 7 _ rfl; (with_reducible repeat first | apply bN | apply bD | apply bA); refine bP (cs := #[.int .u32 ((rd_T32 l0 t221).f0), .int .i32 ((rd_T32 l0 t221).f1), .int .i32 ((rd_T32 l0 t221).f2.f0), .int .i32 ((rd_T32 l0 t221).f2.f1), .int .i32 ((rd_T32 l0 t221).f3), .int .i32 ((rd_T32 l0 t221).f4), .int .i32 0, .int .i32 0, .int .i32 0, .int .i32 0]) ?_ 6 _ rfl; (with_reducible repeat first | apply bN | apply bD | apply bA); refine bP (cs := #[.int .u32 ((rd_T32 l0 t221).f0), .int .i32 ((rd_T32 l0 t221).f1), .int .i32 ((rd_T32 l0 t221).f2.f0), .int .i32 ((rd_T32 l0 t221).f2.f1), .int .i32 ((rd_T32 l0 t221).f3), .int .i32 0, .int .i32 0, .int .i32 0, .int .i32 0, .int .i32 0]) ?_ 5 _ rfl; (with_reducible repeat first | apply bN | apply bD | apply bA); refine bP (cs := #[.int .u32 ((rd_T32 l0 t221).f0), .int .i32 ((rd_T32 l0 t221).f1), .int .i32 ((rd_T32 l0 t221).f2.f0), .int .i32 ((rd_T32 l0 t221).f2.f1), .int .i32 0, .int .i32 0, .int .i32 0, .int .i32 0, .int .i32 0, .int .i32 0]) ?_ 4 _ rfl; (with_reducible repeat first | apply bN | apply bD | apply bA); refine bP (cs := #[.int .u32 ((rd_T32 l0 t221).f0), .int .i32 ((rd_T32 l0 t221).f1), .int .i32 ((rd_T32 l0 t221).f2.f0), .int .i32 0, .int .i32 0, .int .i32 0, .int .i32 0, .int .i32 0, .int .i32 0, .int .i32 0]) ?_ 3 _ rfl; (with_reducible repeat first | apply bN | apply bD | apply bA); refine bP (cs := #[.int .u32 ((rd_T32 l0 t221).f0), .int .i32 ((rd_T32 l0 t221).f1), .int .i32 0, .int .i32 0, .int .i32 0, .int .i32 0, .int .i32 0, .int .i32 0, .int .i32 0, .int .i32 0]) ?_ 2 _ rfl; (with_reducible repeat first | apply bN | apply bD | apply bA); refine bP (cs := #[.int .u32 ((rd_T32 l0 t221).f0), .int .i32 0, .int .i32 0, .int .i32 0, .int .i32 0, .int .i32 0, .int .i32 0, .int .i32 0, .int .i32 0, .int .i32 0]) ?_ 1 _ rfl; (with_reducible repeat first | apply bN | apply bD | apply bA); refine bP (cs := #[.int .u32 0, .int .i32 0, .int .i32 0, .int .i32 0, .int .i32 0, .int .i32 0, .int .i32 0, .int .i32 0, .int .i32 0, .int .i32 0]) ?_ 0 _ rfl; (with_reducible repeat first | apply bN | apply bD | apply bA); exact BK223.out⟩
                  have n5_ : Aside0 (Below w.heap.size w ((((((((((w38.setCell ⟨b223, 0, none⟩ (.int .u32 ((rd_T32 l0 t221).f0))).setCell ⟨b223, 1, none⟩ (.int .i32 ((rd_T32 l0 t221).f1))).setCell ⟨b223, 2, none⟩ (.int .i32 ((rd_T32 l0 t221).f2.f0))).setCell ⟨b223, 3, none⟩ (.int .i32 ((rd_T32 l0 t221).f2.f1))).setCell ⟨b223, 4, none⟩ (.int .i32 ((rd_T32 l0 t221).f3))).setCell ⟨b223, 5, none⟩ (.int .i32 ((rd_T32 l0 t221).f4))).setCell ⟨b223, 6, none⟩ (.int .i32 ((rd_T32 l0 t221).f5.f0))).setCell ⟨b223, 7, none⟩ (.int .i32 ((rd_T32 l0 t221).f5.f1))).setCell ⟨b223, 8, none⟩ (.int .i32 ((rd_T32 l0 t221).f6.f0))).setCell ⟨b223, 9, none⟩ (.int .i32 ((rd_T32 l0 t221).f6.f1)))) := ⟨by repeat (first | (with_reducible first | exact HB.out | apply lA | apply lN | apply lD | refine lS ?_ GE210.out | refine lS ?_ GE215.out | refine lS ?_ GE220.out | refine lS ?_ GE223.out) | exact HB.out)⟩
                  (try clear HO_5)
                  (try clear BK210)
                  (try clear BK215)
                  (try clear BK220)
                  (try clear BK223)
                  (try clear HB)
                  generalize ((((((((((w38.setCell ⟨b223, 0, none⟩ (.int .u32 ((rd_T32 l0 t221).f0))).setCell ⟨b223, 1, none⟩ (.int .i32 ((rd_T32 l0 t221).f1))).setCell ⟨b223, 2, none⟩ (.int .i32 ((rd_T32 l0 t221).f2.f0))).setCell ⟨b223, 3, none⟩ (.int .i32 ((rd_T32 l0 t221).f2.f1))).setCell ⟨b223, 4, none⟩ (.int .i32 ((rd_T32 l0 t221).f3))).setCell ⟨b223, 5, none⟩ (.int .i32 ((rd_T32 l0 t221).f4))).setCell ⟨b223, 6, none⟩ (.int .i32 ((rd_T32 l0 t221).f5.f0))).setCell ⟨b223, 7, none⟩ (.int .i32 ((rd_T32 l0 t221).f5.f1))).setCell ⟨b223, 8, none⟩ (.int .i32 ((rd_T32 l0 t221).f6.f0))).setCell ⟨b223, 9, none⟩ (.int .i32 ((rd_T32 l0 t221).f6.f1))) = w43 at n0_ n1_ n2_ n3_ n4_ n5_ ⊢
                  have HO_5 := n0_
                  have BK210 := n1_
                  have BK215 := n2_
                  have BK220 := n3_
                  have BK223 := n4_
                  have HB := n5_
                  clear n0_ n1_ n2_ n3_ n4_ n5_
                  have n0_ := aM (Kd.R_drew HO_5.out)
                  have n1_ := aM (bD BK210.out)
                  have n2_ := aM (bD BK215.out)
                  have n3_ := aM (bD BK220.out)
                  have n4_ := aM (bD BK223.out)
                  have n5_ := aM (lD HB.out)
                  clear HO_5
                  clear BK210
                  clear BK215
                  clear BK220
                  clear BK223
                  clear HB
                  have HO_5 := n0_
                  have BK210 := n1_
                  have BK215 := n2_
                  have BK220 := n3_
                  have BK223 := n4_
                  have HB := n5_
                  clear n0_ n1_ n2_ n3_ n4_ n5_
                  have p224 : 0 ≤ (x6_1 : Int) := of_decide_eq_true (by first | (with_reducible assumption) | assumption)
                  have q224 : x6_1 < (l0.length : Int) := of_decide_eq_true (by first | (with_reducible assumption) | assumption)
                  obtain ⟨ad224, e224, hx224_0, hx224_1, hx224_2, hx224_3, hx224_4, hx224_5, hx224_6, hx224_7, hx224_8, hx224_9⟩ := at_T32 HR0.out x6_1 p224 q224
                  have hw224_9 := hx224_9
                  have hw224_8 := hx224_8
                  have hw224_7 := hx224_7
                  have hw224_6 := hx224_6
                  have hw224_5 := hx224_5
                  have hw224_4 := hx224_4
                  have hw224_3 := hx224_3
                  have hw224_2 := hx224_2
                  have hw224_1 := hx224_1
                  have hw224_0 := hx224_0
                  obtain rfl : ad219 = ad224 := (by injection e224)
                  replace hx224_0 := (HB.out.cell (World.block_lt_of_cell? w _ hx224_0)).trans hx224_0
                  replace hx224_1 := (HB.out.cell (World.block_lt_of_cell? w _ hx224_1)).trans hx224_1
                  replace hx224_2 := (HB.out.cell (World.block_lt_of_cell? w _ hx224_2)).trans hx224_2
                  replace hx224_3 := (HB.out.cell (World.block_lt_of_cell? w _ hx224_3)).trans hx224_3
                  replace hx224_4 := (HB.out.cell (World.block_lt_of_cell? w _ hx224_4)).trans hx224_4
                  replace hx224_5 := (HB.out.cell (World.block_lt_of_cell? w _ hx224_5)).trans hx224_5
                  replace hx224_6 := (HB.out.cell (World.block_lt_of_cell? w _ hx224_6)).trans hx224_6
                  replace hx224_7 := (HB.out.cell (World.block_lt_of_cell? w _ hx224_7)).trans hx224_7
                  replace hx224_8 := (HB.out.cell (World.block_lt_of_cell? w _ hx224_8)).trans hx224_8
                  replace hx224_9 := (HB.out.cell (World.block_lt_of_cell? w _ hx224_9)).trans hx224_9
                  replace p224 := eq_true p224
                  replace q224 := eq_true q224
                  refine start_ (n := 10) (S := fun w' => w'.cell? ⟨b215, 0, none⟩ = some (.int .u32 ((rd_T37 l1 x8_2).f0.f0)) ∧ w'.cell? ⟨b215, 1, none⟩ = some (.int .u32 ((rd_T37 l1 x8_2).f0.f1)) ∧ w'.cell? ⟨b215, 2, none⟩ = some (.int .i32 ((rd_T37 l1 x8_2).f1.f0)) ∧ w'.cell? ⟨b215, 3, none⟩ = some (.int .i32 ((rd_T37 l1 x8_2).f1.f1)) ∧ w'.cell? ⟨b215, 4, none⟩ = some (.int .i32 ((rd_T37 l1 x8_2).f2)) ∧ w'.cell? ⟨b220, 0, none⟩ = some (.int .u32 ((rd_T32 l0 t218).f0)) ∧ w'.cell? ⟨b220, 1, none⟩ = some (.int .i32 ((rd_T32 l0 t218).f1)) ∧ w'.cell? ⟨b220, 2, none⟩ = some (.int .i32 ((rd_T32 l0 t218).f2.f0)) ∧ w'.cell? ⟨b220, 3, none⟩ = some (.int .i32 ((rd_T32 l0 t218).f2.f1)) ∧ w'.cell? ⟨b220, 4, none⟩ = some (.int .i32 ((rd_T32 l0 t218).f3)) ∧ w'.cell? ⟨b220, 5, none⟩ = some (.int .i32 ((rd_T32 l0 t218).f4)) ∧ w'.cell? ⟨b220, 6, none⟩ = some (.int .i32 ((rd_T32 l0 t218).f5.f0)) ∧ w'.cell? ⟨b220, 7, none⟩ = some (.int .i32 ((rd_T32 l0 t218).f5.f1)) ∧ w'.cell? ⟨b220, 8, none⟩ = some (.int .i32 ((rd_T32 l0 t218).f6.f0)) ∧ w'.cell? ⟨b220, 9, none⟩ = some (.int .i32 ((rd_T32 l0 t218).f6.f1)) ∧ w'.cell? ⟨b223, 0, none⟩ = some (.int .u32 ((rd_T32 l0 t221).f0)) ∧ w'.cell? ⟨b223, 1, none⟩ = some (.int .i32 ((rd_T32 l0 t221).f1)) ∧ w'.cell? ⟨b223, 2, none⟩ = some (.int .i32 ((rd_T32 l0 t221).f2.f0)) ∧ w'.cell? ⟨b223, 3, none⟩ = some (.int .i32 ((rd_T32 l0 t221).f2.f1)) ∧ w'.cell? ⟨b223, 4, none⟩ = some (.int .i32 ((rd_T32 l0 t221).f3)) ∧ w'.cell? ⟨b223, 5, none⟩ = some (.int .i32 ((rd_T32 l0 t221).f4)) ∧ w'.cell? ⟨b223, 6, none⟩ = some (.int .i32 ((rd_T32 l0 t221).f5.f0)) ∧ w'.cell? ⟨b223, 7, none⟩ = some (.int .i32 ((rd_T32 l0 t221).f5.f1)) ∧ w'.cell? ⟨b223, 8, none⟩ = some (.int .i32 ((rd_T32 l0 t221).f6.f0)) ∧ w'.cell? ⟨b223, 9, none⟩ = some (.int .i32 ((rd_T32 l0 t221).f6.f1)) ∧ w'.cell? (ad219.add ((x6_1).toNat * 10)) = some (.int .u32 ((rd_T32 l0 x6_1).f0)) ∧ w'.cell? ⟨(ad219.add ((x6_1).toNat * 10)).block, (ad219.add ((x6_1).toNat * 10)).off + 1, none⟩ = some (.int .i32 ((rd_T32 l0 x6_1).f1)) ∧ w'.cell? ⟨(ad219.add ((x6_1).toNat * 10)).block, (ad219.add ((x6_1).toNat * 10)).off + 2, none⟩ = some (.int .i32 ((rd_T32 l0 x6_1).f2.f0)) ∧ w'.cell? ⟨(ad219.add ((x6_1).toNat * 10)).block, (ad219.add ((x6_1).toNat * 10)).off + 3, none⟩ = some (.int .i32 ((rd_T32 l0 x6_1).f2.f1)) ∧ w'.cell? ⟨(ad219.add ((x6_1).toNat * 10)).block, (ad219.add ((x6_1).toNat * 10)).off + 4, none⟩ = some (.int .i32 ((rd_T32 l0 x6_1).f3)) ∧ w'.cell? ⟨(ad219.add ((x6_1).toNat * 10)).block, (ad219.add ((x6_1).toNat * 10)).off + 5, none⟩ = some (.int .i32 ((rd_T32 l0 x6_1).f4)) ∧ w'.cell? ⟨(ad219.add ((x6_1).toNat * 10)).block, (ad219.add ((x6_1).toNat * 10)).off + 6, none⟩ = some (.int .i32 ((rd_T32 l0 x6_1).f5.f0)) ∧ w'.cell? ⟨(ad219.add ((x6_1).toNat * 10)).block, (ad219.add ((x6_1).toNat * 10)).off + 7, none⟩ = some (.int .i32 ((rd_T32 l0 x6_1).f5.f1)) ∧ w'.cell? ⟨(ad219.add ((x6_1).toNat * 10)).block, (ad219.add ((x6_1).toNat * 10)).off + 8, none⟩ = some (.int .i32 ((rd_T32 l0 x6_1).f6.f0)) ∧ w'.cell? ⟨(ad219.add ((x6_1).toNat * 10)).block, (ad219.add ((x6_1).toNat * 10)).off + 9, none⟩ = some (.int .i32 ((rd_T32 l0 x6_1).f6.f1))) (ds := []) #[F,F,F,F,F,F,F,F,F,F] (by kernel_rfl) rfl rfl ⟨(bC BK215.out 0).trans rfl, (bC BK215.out 1).trans rfl, (bC BK215.out 2).trans rfl, (bC BK215.out 3).trans rfl, (bC BK215.out 4).trans rfl, (bC BK220.out 0).trans rfl, (bC BK220.out 1).trans rfl, (bC BK220.out 2).trans rfl, (bC BK220.out 3).trans rfl, (bC BK220.out 4).trans rfl, (bC BK220.out 5).trans rfl, (bC BK220.out 6).trans rfl, (bC BK220.out 7).trans rfl, (bC BK220.out 8).trans rfl, (bC BK220.out 9).trans rfl, (bC BK223.out 0).trans rfl, (bC BK223.out 1).trans rfl, (bC BK223.out 2).trans rfl, (bC BK223.out 3).trans rfl, (bC BK223.out 4).trans rfl, (bC BK223.out 5).trans rfl, (bC BK223.out 6).trans rfl, (bC BK223.out 7).trans rfl, (bC BK223.out 8).trans rfl, (bC BK223.out 9).trans rfl, ((HB.out.cell (World.block_lt_of_cell? w _ hw224_0)).trans hw224_0), ((HB.out.cell (World.block_lt_of_cell? w _ hw224_1)).trans hw224_1), ((HB.out.cell (World.block_lt_of_cell? w _ hw224_2)).trans hw224_2), ((HB.out.cell (World.block_lt_of_cell? w _ hw224_3)).trans hw224_3), ((HB.out.cell (World.block_lt_of_cell? w _ hw224_4)).trans hw224_4), ((HB.out.cell (World.block_lt_of_cell? w _ hw224_5)).trans hw224_5), ((HB.out.cell (World.block_lt_of_cell? w _ hw224_6)).trans hw224_6), ((HB.out.cell (World.block_lt_of_cell? w _ hw224_7)).trans hw224_7), ((HB.out.cell (World.block_lt_of_cell? w _ hw224_8)).trans hw224_8), ((HB.out.cell (World.block_lt_of_cell? w _ hw224_9)).trans hw224_9)⟩ (fun hHeld => ?_); refine with_tabW billiardref18_Shifts.tab13 billiardref18_Shifts.bits13 (fun HT_ HW_ => ?_)
                  generalize w43.drew = w44 at HO_5 BK210 BK215 BK220 BK223 HB hx224_0 hx224_1 hx224_2 hx224_3 hx224_4 hx224_5 hx224_6 hx224_7 hx224_8 hx224_9 hHeld ⊢
                  refine pure_ (i := 3) (N := some 70) (v := ?_) (a' := ?_) #[F,F,F,T,F,F,F,F,F,F] rfl rfl (any_of HT_.out (by kernel_rfl)) (fun _ _ _ h => h) (Or.inl ⟨by rfl, ?_⟩) ?_ ?_
                  rotate_left
                  ·intro w'
                   go_simp
                   with_reducible rfl
                  rotate_left
                  ·simp only [Act.put, sA, sB, sC, i64_w, i32_w]
                   rfl
                  refine pure_ (i := 4) (N := some 71) (v := ?_) (a' := ?_) #[F,F,F,T,T,F,F,F,F,F] rfl rfl (any_of HT_.out (by kernel_rfl)) (fun _ _ _ h => h) (Or.inl ⟨by rfl, ?_⟩) ?_ ?_
                  rotate_left
                  ·intro w'
                   go_simp
                   with_reducible rfl
                  rotate_left
                  ·simp only [Act.put, sA, sB, sC, i64_w, i32_w]
                   rfl
                  refine pure_ (i := 5) (N := some 72) (v := ?_) (a' := ?_) #[F,F,F,T,T,T,F,F,F,F] rfl rfl (any_of HT_.out (by kernel_rfl)) (fun _ _ _ h => h) (Or.inl ⟨by rfl, ?_⟩) ?_ ?_
                  rotate_left
                  ·intro w'
                   go_simp
                   with_reducible rfl
                  rotate_left
                  ·simp only [Act.put, sA, sB, sC, i64_w, i32_w]
                   rfl
                  refine pure_ (i := 6) (N := some 73) (v := ?_) (a' := ?_) #[F,F,F,T,T,T,T,F,F,F] rfl rfl (any_of HT_.out (by kernel_rfl)) (fun _ _ _ h => h) (Or.inl ⟨by rfl, ?_⟩) ?_ ?_
                  rotate_left
                  ·intro w'
                   go_simp
                   with_reducible rfl
                  rotate_left
                  ·simp only [Act.put, sA, sB, sC, i64_w, i32_w]
                   rfl
                  refine take_ (i := 0) (N := some 67) (v := ?_) (a' := ?_) #[T,F,F,T,T,T,T,F,F,F] rfl rfl (take_ofW HT_.out HW_.out (by kernel_rfl)) (fun _ _ _ h => h) (Or.inl ⟨by rfl, ?_⟩) hHeld ?_ ?_
                  rotate_left
                  ·rintro w' ⟨s0, s1, s2, s3, s4, s5, s6, s7, s8, s9, s10, s11, s12, s13, s14, s15, s16, s17, s18, s19, s20, s21, s22, s23, s24, s25, s26, s27, s28, s29, s30, s31, s32, s33, s34⟩
                   go_simp
                   with_reducible rfl
                  rotate_left
                  ·simp only [Act.put, sA, sB, sC, i64_w, i32_w]
                   rfl
                  refine take_ (i := 1) (N := some 68) (v := ?_) (a' := ?_) #[T,T,F,T,T,T,T,F,F,F] rfl rfl (take_ofW HT_.out HW_.out (by kernel_rfl)) (fun _ _ _ h => h) (Or.inl ⟨by rfl, ?_⟩) hHeld ?_ ?_
                  rotate_left
                  ·rintro w' ⟨s0, s1, s2, s3, s4, s5, s6, s7, s8, s9, s10, s11, s12, s13, s14, s15, s16, s17, s18, s19, s20, s21, s22, s23, s24, s25, s26, s27, s28, s29, s30, s31, s32, s33, s34⟩
                   go_simp
                   with_reducible rfl
                  rotate_left
                  ·simp only [Act.put, sA, sB, sC, i64_w, i32_w]
                   rfl
                  refine take_ (i := 2) (N := some 69) (v := ?_) (a' := ?_) #[T,T,T,T,T,T,T,F,F,F] rfl rfl (take_ofW HT_.out HW_.out (by kernel_rfl)) (fun _ _ _ h => h) (Or.inl ⟨by rfl, ?_⟩) hHeld ?_ ?_
                  rotate_left
                  ·rintro w' ⟨s0, s1, s2, s3, s4, s5, s6, s7, s8, s9, s10, s11, s12, s13, s14, s15, s16, s17, s18, s19, s20, s21, s22, s23, s24, s25, s26, s27, s28, s29, s30, s31, s32, s33, s34⟩
                   go_simp
                   with_reducible rfl
                  rotate_left
                  ·simp only [Act.put, sA, sB, sC, i64_w, i32_w]
                   rfl
                  refine take_ (i := 7) (N := some 74) (v := ?_) (a' := ?_) #[T,T,T,T,T,T,T,T,F,F] rfl rfl (take_ofW HT_.out HW_.out (by kernel_rfl)) (fun _ _ _ h => h) (Or.inl ⟨by rfl, ?_⟩) hHeld ?_ ?_
                  rotate_left
                  ·rintro w' ⟨s0, s1, s2, s3, s4, s5, s6, s7, s8, s9, s10, s11, s12, s13, s14, s15, s16, s17, s18, s19, s20, s21, s22, s23, s24, s25, s26, s27, s28, s29, s30, s31, s32, s33, s34⟩
                   go_simp
                   with_reducible rfl
                  rotate_left
                  ·simp only [Act.put, sA, sB, sC, i64_w, i32_w]
                   rfl
                  refine one_ (i := 8) (N := some 75) #[T,T,T,T,T,T,T,T,T,F] rfl rfl (one_of HT_.out (by kernel_rfl)) (by decide) (fun K hK => ?_)
                  refine goes_ Try.func13 (by kernel_rfl) rfl #[.agg #[.int .u32 ((rd_T37 l1 x8_2).f0.f0), .int .u32 ((rd_T37 l1 x8_2).f0.f1), .int .i32 ((rd_T37 l1 x8_2).f1.f0), .int .i32 ((rd_T37 l1 x8_2).f1.f1), .int .i32 ((rd_T37 l1 x8_2).f2)], .agg #[.int .u32 ((rd_T32 l0 t218).f0), .int .i32 ((rd_T32 l0 t218).f1), .int .i32 ((rd_T32 l0 t218).f2.f0), .int .i32 ((rd_T32 l0 t218).f2.f1), .int .i32 ((rd_T32 l0 t218).f3), .int .i32 ((rd_T32 l0 t218).f4), .int .i32 ((rd_T32 l0 t218).f5.f0), .int .i32 ((rd_T32 l0 t218).f5.f1), .int .i32 ((rd_T32 l0 t218).f6.f0), .int .i32 ((rd_T32 l0 t218).f6.f1)], .agg #[.int .u32 ((rd_T32 l0 t221).f0), .int .i32 ((rd_T32 l0 t221).f1), .int .i32 ((rd_T32 l0 t221).f2.f0), .int .i32 ((rd_T32 l0 t221).f2.f1), .int .i32 ((rd_T32 l0 t221).f3), .int .i32 ((rd_T32 l0 t221).f4), .int .i32 ((rd_T32 l0 t221).f5.f0), .int .i32 ((rd_T32 l0 t221).f5.f1), .int .i32 ((rd_T32 l0 t221).f6.f0), .int .i32 ((rd_T32 l0 t221).f6.f1)], .int .i32 ((rd_T32 l0 x6_1).f3)] (by rfl) rfl rfl (by (try simp only [List.map_toArray, List.map_cons, List.map_nil]); first | done | rfl | (simp only [List.length_drop, List.length_take]; rfl)) ?_
                  with_reducible refine (billiardref18_Share.calls ((rd_T37 l1 x8_2).f0.f0) ((rd_T37 l1 x8_2).f0.f1) ((rd_T37 l1 x8_2).f1.f0) ((rd_T37 l1 x8_2).f1.f1) ((rd_T37 l1 x8_2).f2) ((rd_T32 l0 t218).f0) ((rd_T32 l0 t218).f1) ((rd_T32 l0 t218).f2.f0) ((rd_T32 l0 t218).f2.f1) ((rd_T32 l0 t218).f3) ((rd_T32 l0 t218).f4) ((rd_T32 l0 t218).f5.f0) ((rd_T32 l0 t218).f5.f1) ((rd_T32 l0 t218).f6.f0) ((rd_T32 l0 t218).f6.f1) ((rd_T32 l0 t221).f0) ((rd_T32 l0 t221).f1) ((rd_T32 l0 t221).f2.f0) ((rd_T32 l0 t221).f2.f1) ((rd_T32 l0 t221).f3) ((rd_T32 l0 t221).f4) ((rd_T32 l0 t221).f5.f0) ((rd_T32 l0 t221).f5.f1) ((rd_T32 l0 t221).f6.f0) ((rd_T32 l0 t221).f6.f1) ((rd_T32 l0 x6_1).f3) t225 _ A27.out).mono ?_
                  rintro e w45 ⟨rfl, hb⟩
                  refine ⟨_, rfl, ?_⟩
                  have n0_ := aM (Kd.R_below (by (with_reducible repeat (first | apply Kd.R_alloc | apply Kd.R_drewN | apply Kd.R_drew)); exact HO_5.out) hb)
                  have n1_ := aM (bB (by (with_reducible repeat first | apply bN | apply bD | apply bA); exact BK210.out) hb)
                  have n2_ := aM (bB (by (with_reducible repeat first | apply bN | apply bD | apply bA); exact BK215.out) hb)
                  have n3_ := aM (bB (by (with_reducible repeat first | apply bN | apply bD | apply bA); exact BK220.out) hb)
                  have n4_ := aM (bB (by (with_reducible repeat first | apply bN | apply bD | apply bA); exact BK223.out) hb)
                  have n5_ := aM (lT (by repeat (first | (with_reducible first | exact HB.out | apply lA | apply lN | apply lD | refine lS ?_ GE210.out | refine lS ?_ GE215.out | refine lS ?_ GE220.out | refine lS ?_ GE223.out) | exact HB.out)) hb)
                  clear HO_5
                  clear BK210
                  clear BK215
                  clear BK220
                  clear BK223
                  clear HB
                  have HO_5 := n0_
                  have BK210 := n1_
                  have BK215 := n2_
                  have BK220 := n3_
                  have BK223 := n4_
                  have HB := n5_
                  clear n0_ n1_ n2_ n3_ n4_ n5_
                  (try clear hb)
                  (try clear hb2)
                  (try clear hk)
                  (try clear hi)
                  refine hK.out _ _ ⟨(bC BK215.out 0).trans rfl, (bC BK215.out 1).trans rfl, (bC BK215.out 2).trans rfl, (bC BK215.out 3).trans rfl, (bC BK215.out 4).trans rfl, (bC BK220.out 0).trans rfl, (bC BK220.out 1).trans rfl, (bC BK220.out 2).trans rfl, (bC BK220.out 3).trans rfl, (bC BK220.out 4).trans rfl, (bC BK220.out 5).trans rfl, (bC BK220.out 6).trans rfl, (bC BK220.out 7).trans rfl, (bC BK220.out 8).trans rfl, (bC BK220.out 9).trans rfl, (bC BK223.out 0).trans rfl, (bC BK223.out 1).trans rfl, (bC BK223.out 2).trans rfl, (bC BK223.out 3).trans rfl, (bC BK223.out 4).trans rfl, (bC BK223.out 5).trans rfl, (bC BK223.out 6).trans rfl, (bC BK223.out 7).trans rfl, (bC BK223.out 8).trans rfl, (bC BK223.out 9).trans rfl, ((HB.out.cell (World.block_lt_of_cell? w _ hw224_0)).trans hw224_0), ((HB.out.cell (World.block_lt_of_cell? w _ hw224_1)).trans hw224_1), ((HB.out.cell (World.block_lt_of_cell? w _ hw224_2)).trans hw224_2), ((HB.out.cell (World.block_lt_of_cell? w _ hw224_3)).trans hw224_3), ((HB.out.cell (World.block_lt_of_cell? w _ hw224_4)).trans hw224_4), ((HB.out.cell (World.block_lt_of_cell? w _ hw224_5)).trans hw224_5), ((HB.out.cell (World.block_lt_of_cell? w _ hw224_6)).trans hw224_6), ((HB.out.cell (World.block_lt_of_cell? w _ hw224_7)).trans hw224_7), ((HB.out.cell (World.block_lt_of_cell? w _ hw224_8)).trans hw224_8), ((HB.out.cell (World.block_lt_of_cell? w _ hw224_9)).trans hw224_9)⟩ (fun hHeld => ?_)
                  clear hK K
                  refine norm_ (a' := ?_) ?_ ?_
                  rotate_left
                  ·show Act.put _ (some 75) _ = _
                   simp only [Act.put, sA, sB, sC, i64_w, i32_w]
                   rfl
                  refine pure_ (i := 9) (N := some 12) (v := ?_) (a' := ?_) #[T,T,T,T,T,T,T,T,T,T] rfl rfl (any_of HT_.out (by kernel_rfl)) (fun _ _ _ h => h) (Or.inl ⟨by rfl, ?_⟩) ?_ ?_
                  rotate_left
                  ·intro w'
                   go_simp
                   with_reducible rfl
                  rotate_left
                  ·simp only [Act.put, sA, sB, sC, i64_w, i32_w]
                   rfl
                  refine done_ (done_of HT_.out (by kernel_rfl)) ?_
                  have hcz46_0 : w45.cell? ⟨b215, 0, none⟩ = some (.int .u32 ((rd_T37 l1 x8_2).f0.f0)) := (bC BK215.out 0).trans rfl
                  have hcz46_1 : w45.cell? ⟨b215, 1, none⟩ = some (.int .u32 ((rd_T37 l1 x8_2).f0.f1)) := (bC BK215.out 1).trans rfl
                  have hcz46_2 : w45.cell? ⟨b215, 2, none⟩ = some (.int .i32 ((rd_T37 l1 x8_2).f1.f0)) := (bC BK215.out 2).trans rfl
                  have hcz46_3 : w45.cell? ⟨b215, 3, none⟩ = some (.int .i32 ((rd_T37 l1 x8_2).f1.f1)) := (bC BK215.out 3).trans rfl
                  have hcz46_4 : w45.cell? ⟨b215, 4, none⟩ = some (.int .i32 ((rd_T37 l1 x8_2).f2)) := (bC BK215.out 4).trans rfl
                  have hfz46_0 := bF BK215.out 0
                  have hfz46_1 := bF BK215.out 1
                  have hfz46_2 := bF BK215.out 2
                  have hfz46_3 := bF BK215.out 3
                  have hfz46_4 := bF BK215.out 4
                  try go_wp2_with (first | ((with_reducible refine gate_callee (f := 21) rfl ?_); refine goesL_ (some 82) rfl rfl Try.func21 (by kernel_rfl) rfl #[.int .i64 (wrap64 (t225 * (wrap64 (((rd_T37 l1 x8_2).f1.f0))))), .int .i64 65536] rfl (by (try simp only [List.map_toArray, List.map_cons, List.map_nil]); first | done | rfl | (simp only [List.length_drop, List.length_take]; rfl)) ?_; (with_reducible refine (billiardref01_Floor.calls (wrap64 (t225 * (wrap64 (((rd_T37 l1 x8_2).f1.f0))))) 65536 t226 _ A28.out).mono ?_); rintro e w' ⟨rfl, ⟨nd, rfl⟩⟩; refine ⟨_, rfl, ?_⟩; (try (rw [drewN_self w45]; generalize hq_ : World.drewN w45 _ = w45; have n0_ : Aside0 (Kd.R k53 53 w45 w.heap.size (fun k_ => k_ ≠ b210) u5 x5_1) := ⟨by rw [← hq_]; exact (by (with_reducible repeat (first | apply Kd.R_alloc | apply Kd.R_drewN | apply Kd.R_drew)); exact HO_5.out)⟩; have n1_ : Aside0 (w45.heap[b210]? = some (.cells #[.int .i64 x211000_2, .int .i64 x211001_2] 53 (0, 0))) := ⟨by rw [← hq_]; exact (by (with_reducible repeat first | apply bN | apply bD | apply bA); exact BK210.out)⟩; have n2_ : Aside0 (w45.heap[b215]? = some (.cells #[.int .u32 ((rd_T37 l1 x8_2).f0.f0), .int .u32 ((rd_T37 l1 x8_2).f0.f1), .int .i32 ((rd_T37 l1 x8_2).f1.f0), .int .i32 ((rd_T37 l1 x8_2).f1.f1), .int .i32 ((rd_T37 l1 x8_2).f2)] 37 (0, 0))) := ⟨by rw [← hq_]; exact (by (with_reducible repeat first | apply bN | apply bD | apply bA); exact BK215.out)⟩; have n3_ : Aside0 (w45.heap[b220]? = some (.cells #[.int .u32 ((rd_T32 l0 t218).f0), .int .i32 ((rd_T32 l0 t218).f1), .int .i32 ((rd_T32 l0 t218).f2.f0), .int .i32 ((rd_T32 l0 t218).f2.f1), .int .i32 ((rd_T32 l0 t218).f3), .int .i32 ((rd_T32 l0 t218).f4), .int .i32 ((rd_T32 l0 t218).f5.f0), .int .i32 ((rd_T32 l0 t218).f5.f1), .int .i32 ((rd_T32 l0 t218).f6.f0), .int .i32 ((rd_T32 l0 t218).f6.f1)] 32 (0, 0))) := ⟨by rw [← hq_]; exact (by (with_reducible repeat first | apply bN | apply bD | apply bA); exact BK220.out)⟩; have n4_ : Aside0 (w45.heap[b223]? = some (.cells #[.int .u32 ((rd_T32 l0 t221).f0), .int .i32 ((rd_T32 l0 t221).f1), .int .i32 ((rd_T32 l0 t221).f2.f0), .int .i32 ((rd_T32 l0 t221).f2.f1), .int .i32 ((rd_T32 l0 t221).f3), .int .i32 ((rd_T32 l0 t221).f4), .int .i32 ((rd_T32 l0 t221).f5.f0), .int .i32 ((rd_T32 l0 t221).f5.f1), .int .i32 ((rd_T32 l0 t221).f6.f0), .int .i32 ((rd_T32 l0 t221).f6.f1)] 32 (0, 0))) := ⟨by rw [← hq_]; exact (by (with_reducible repeat first | apply bN | apply bD | apply bA); exact BK223.out)⟩; have n5_ : Aside0 (Below w.heap.size w w45) := ⟨by rw [← hq_]; exact (by repeat (first | (with_reducible first | exact HB.out | apply lA | apply lN | apply lD | refine lS ?_ GE210.out | refine lS ?_ GE215.out | refine lS ?_ GE220.out | refine lS ?_ GE223.out) | exact HB.out))⟩; clear HO_5 BK210 BK215 BK220 BK223 HB hq_; have HO_5 := n0_; have BK210 := n1_; have BK215 := n2_; have BK220 := n3_; have BK223 := n4_; have HB := n5_; have hcz46_0 : w45.cell? ⟨b215, 0, none⟩ = some (.int .u32 ((rd_T37 l1 x8_2).f0.f0)) := (bC BK215.out 0).trans rfl; have hcz46_1 : w45.cell? ⟨b215, 1, none⟩ = some (.int .u32 ((rd_T37 l1 x8_2).f0.f1)) := (bC BK215.out 1).trans rfl; have hcz46_2 : w45.cell? ⟨b215, 2, none⟩ = some (.int .i32 ((rd_T37 l1 x8_2).f1.f0)) := (bC BK215.out 2).trans rfl; have hcz46_3 : w45.cell? ⟨b215, 3, none⟩ = some (.int .i32 ((rd_T37 l1 x8_2).f1.f1)) := (bC BK215.out 3).trans rfl; have hcz46_4 : w45.cell? ⟨b215, 4, none⟩ = some (.int .i32 ((rd_T37 l1 x8_2).f2)) := (bC BK215.out 4).trans rfl; have hfz46_0 := bF BK215.out 0; have hfz46_1 := bF BK215.out 1; have hfz46_2 := bF BK215.out 2; have hfz46_3 := bF BK215.out 3; have hfz46_4 := bF BK215.out 4; clear n0_ n1_ n2_ n3_ n4_ n5_))) | ((with_reducible refine gate_callee (f := 21) rfl ?_); refine goesL_ (some 89) rfl rfl Try.func21 (by kernel_rfl) rfl #[.int .i64 (wrap64 (t225 * (wrap64 (((rd_T37 l1 x8_2).f1.f1))))), .int .i64 65536] rfl (by (try simp only [List.map_toArray, List.map_cons, List.map_nil]); first | done | rfl | (simp only [List.length_drop, List.length_take]; rfl)) ?_; (with_reducible refine (billiardref01_Floor.calls (wrap64 (t225 * (wrap64 (((rd_T37 l1 x8_2).f1.f1))))) 65536 t227 _ A29.out).mono ?_); rintro e w' ⟨rfl, ⟨nd, rfl⟩⟩; refine ⟨_, rfl, ?_⟩; (try (rw [drewN_self w45]; generalize hq_ : World.drewN w45 _ = w45; have n0_ : Aside0 (Kd.R k53 53 w45 w.heap.size (fun k_ => k_ ≠ b210) u5 x5_1) := ⟨by rw [← hq_]; exact (by (with_reducible repeat (first | apply Kd.R_alloc | apply Kd.R_drewN | apply Kd.R_drew)); exact HO_5.out)⟩; have n1_ : Aside0 (w45.heap[b210]? = some (.cells #[.int .i64 x211000_2, .int .i64 x211001_2] 53 (0, 0))) := ⟨by rw [← hq_]; exact (by (with_reducible repeat first | apply bN | apply bD | apply bA); exact BK210.out)⟩; have n2_ : Aside0 (w45.heap[b215]? = some (.cells #[.int .u32 ((rd_T37 l1 x8_2).f0.f0), .int .u32 ((rd_T37 l1 x8_2).f0.f1), .int .i32 ((rd_T37 l1 x8_2).f1.f0), .int .i32 ((rd_T37 l1 x8_2).f1.f1), .int .i32 ((rd_T37 l1 x8_2).f2)] 37 (0, 0))) := ⟨by rw [← hq_]; exact (by (with_reducible repeat first | apply bN | apply bD | apply bA); exact BK215.out)⟩; have n3_ : Aside0 (w45.heap[b220]? = some (.cells #[.int .u32 ((rd_T32 l0 t218).f0), .int .i32 ((rd_T32 l0 t218).f1), .int .i32 ((rd_T32 l0 t218).f2.f0), .int .i32 ((rd_T32 l0 t218).f2.f1), .int .i32 ((rd_T32 l0 t218).f3), .int .i32 ((rd_T32 l0 t218).f4), .int .i32 ((rd_T32 l0 t218).f5.f0), .int .i32 ((rd_T32 l0 t218).f5.f1), .int .i32 ((rd_T32 l0 t218).f6.f0), .int .i32 ((rd_T32 l0 t218).f6.f1)] 32 (0, 0))) := ⟨by rw [← hq_]; exact (by (with_reducible repeat first | apply bN | apply bD | apply bA); exact BK220.out)⟩; have n4_ : Aside0 (w45.heap[b223]? = some (.cells #[.int .u32 ((rd_T32 l0 t221).f0), .int .i32 ((rd_T32 l0 t221).f1), .int .i32 ((rd_T32 l0 t221).f2.f0), .int .i32 ((rd_T32 l0 t221).f2.f1), .int .i32 ((rd_T32 l0 t221).f3), .int .i32 ((rd_T32 l0 t221).f4), .int .i32 ((rd_T32 l0 t221).f5.f0), .int .i32 ((rd_T32 l0 t221).f5.f1), .int .i32 ((rd_T32 l0 t221).f6.f0), .int .i32 ((rd_T32 l0 t221).f6.f1)] 32 (0, 0))) := ⟨by rw [← hq_]; exact (by (with_reducible repeat first | apply bN | apply bD | apply bA); exact BK223.out)⟩; have n5_ : Aside0 (Below w.heap.size w w45) := ⟨by rw [← hq_]; exact (by repeat (first | (with_reducible first | exact HB.out | apply lA | apply lN | apply lD | refine lS ?_ GE210.out | refine lS ?_ GE215.out | refine lS ?_ GE220.out | refine lS ?_ GE223.out) | exact HB.out))⟩; clear HO_5 BK210 BK215 BK220 BK223 HB hq_; have HO_5 := n0_; have BK210 := n1_; have BK215 := n2_; have BK220 := n3_; have BK223 := n4_; have HB := n5_; have hcz46_0 : w45.cell? ⟨b215, 0, none⟩ = some (.int .u32 ((rd_T37 l1 x8_2).f0.f0)) := (bC BK215.out 0).trans rfl; have hcz46_1 : w45.cell? ⟨b215, 1, none⟩ = some (.int .u32 ((rd_T37 l1 x8_2).f0.f1)) := (bC BK215.out 1).trans rfl; have hcz46_2 : w45.cell? ⟨b215, 2, none⟩ = some (.int .i32 ((rd_T37 l1 x8_2).f1.f0)) := (bC BK215.out 2).trans rfl; have hcz46_3 : w45.cell? ⟨b215, 3, none⟩ = some (.int .i32 ((rd_T37 l1 x8_2).f1.f1)) := (bC BK215.out 3).trans rfl; have hcz46_4 : w45.cell? ⟨b215, 4, none⟩ = some (.int .i32 ((rd_T37 l1 x8_2).f2)) := (bC BK215.out 4).trans rfl; have hfz46_0 := bF BK215.out 0; have hfz46_1 := bF BK215.out 1; have hfz46_2 := bF BK215.out 2; have hfz46_3 := bF BK215.out 3; have hfz46_4 := bF BK215.out 4; clear n0_ n1_ n2_ n3_ n4_ n5_))))
                  have n0_ := aM (Kd.R_drew HO_5.out)
                  have n1_ := aM (bD BK210.out)
                  have n2_ := aM (bD BK215.out)
                  have n3_ := aM (bD BK220.out)
                  have n4_ := aM (bD BK223.out)
                  have n5_ := aM (lD HB.out)
                  clear HO_5
                  clear BK210
                  clear BK215
                  clear BK220
                  clear BK223
                  clear HB
                  have HO_5 := n0_
                  have BK210 := n1_
                  have BK215 := n2_
                  have BK220 := n3_
                  have BK223 := n4_
                  have HB := n5_
                  clear n0_ n1_ n2_ n3_ n4_ n5_
                  have p228 : 0 ≤ (x6_1 : Int) := of_decide_eq_true (by first | (with_reducible assumption) | assumption)
                  have q228 : x6_1 < (l0.length : Int) := of_decide_eq_true (by first | (with_reducible assumption) | assumption)
                  obtain ⟨ad228, e228, hx228_0, hx228_1, hx228_2, hx228_3, hx228_4, hx228_5, hx228_6, hx228_7, hx228_8, hx228_9⟩ := at_T32 HR0.out x6_1 p228 q228
                  have hw228_9 := hx228_9
                  have hw228_8 := hx228_8
                  have hw228_7 := hx228_7
                  have hw228_6 := hx228_6
                  have hw228_5 := hx228_5
                  have hw228_4 := hx228_4
                  have hw228_3 := hx228_3
                  have hw228_2 := hx228_2
                  have hw228_1 := hx228_1
                  have hw228_0 := hx228_0
                  obtain rfl : ad219 = ad228 := (by injection e228)
                  replace hx228_0 := (HB.out.cell (World.block_lt_of_cell? w _ hx228_0)).trans hx228_0
                  replace hx228_1 := (HB.out.cell (World.block_lt_of_cell? w _ hx228_1)).trans hx228_1
                  replace hx228_2 := (HB.out.cell (World.block_lt_of_cell? w _ hx228_2)).trans hx228_2
                  replace hx228_3 := (HB.out.cell (World.block_lt_of_cell? w _ hx228_3)).trans hx228_3
                  replace hx228_4 := (HB.out.cell (World.block_lt_of_cell? w _ hx228_4)).trans hx228_4
                  replace hx228_5 := (HB.out.cell (World.block_lt_of_cell? w _ hx228_5)).trans hx228_5
                  replace hx228_6 := (HB.out.cell (World.block_lt_of_cell? w _ hx228_6)).trans hx228_6
                  replace hx228_7 := (HB.out.cell (World.block_lt_of_cell? w _ hx228_7)).trans hx228_7
                  replace hx228_8 := (HB.out.cell (World.block_lt_of_cell? w _ hx228_8)).trans hx228_8
                  replace hx228_9 := (HB.out.cell (World.block_lt_of_cell? w _ hx228_9)).trans hx228_9
                  replace p228 := eq_true p228
                  replace q228 := eq_true q228
                  refine start_ (n := 9) (S := fun w' => w'.cell? ⟨b215, 0, none⟩ = some (.int .u32 ((rd_T37 l1 x8_2).f0.f0)) ∧ w'.cell? ⟨b215, 1, none⟩ = some (.int .u32 ((rd_T37 l1 x8_2).f0.f1)) ∧ w'.cell? ⟨b215, 2, none⟩ = some (.int .i32 ((rd_T37 l1 x8_2).f1.f0)) ∧ w'.cell? ⟨b215, 3, none⟩ = some (.int .i32 ((rd_T37 l1 x8_2).f1.f1)) ∧ w'.cell? ⟨b215, 4, none⟩ = some (.int .i32 ((rd_T37 l1 x8_2).f2)) ∧ w'.cell? (ad219.add ((x6_1).toNat * 10)) = some (.int .u32 ((rd_T32 l0 x6_1).f0)) ∧ w'.cell? ⟨(ad219.add ((x6_1).toNat * 10)).block, (ad219.add ((x6_1).toNat * 10)).off + 1, none⟩ = some (.int .i32 ((rd_T32 l0 x6_1).f1)) ∧ w'.cell? ⟨(ad219.add ((x6_1).toNat * 10)).block, (ad219.add ((x6_1).toNat * 10)).off + 2, none⟩ = some (.int .i32 ((rd_T32 l0 x6_1).f2.f0)) ∧ w'.cell? ⟨(ad219.add ((x6_1).toNat * 10)).block, (ad219.add ((x6_1).toNat * 10)).off + 3, none⟩ = some (.int .i32 ((rd_T32 l0 x6_1).f2.f1)) ∧ w'.cell? ⟨(ad219.add ((x6_1).toNat * 10)).block, (ad219.add ((x6_1).toNat * 10)).off + 4, none⟩ = some (.int .i32 ((rd_T32 l0 x6_1).f3)) ∧ w'.cell? ⟨(ad219.add ((x6_1).toNat * 10)).block, (ad219.add ((x6_1).toNat * 10)).off + 5, none⟩ = some (.int .i32 ((rd_T32 l0 x6_1).f4)) ∧ w'.cell? ⟨(ad219.add ((x6_1).toNat * 10)).block, (ad219.add ((x6_1).toNat * 10)).off + 6, none⟩ = some (.int .i32 ((rd_T32 l0 x6_1).f5.f0)) ∧ w'.cell? ⟨(ad219.add ((x6_1).toNat * 10)).block, (ad219.add ((x6_1).toNat * 10)).off + 7, none⟩ = some (.int .i32 ((rd_T32 l0 x6_1).f5.f1)) ∧ w'.cell? ⟨(ad219.add ((x6_1).toNat * 10)).block, (ad219.add ((x6_1).toNat * 10)).off + 8, none⟩ = some (.int .i32 ((rd_T32 l0 x6_1).f6.f0)) ∧ w'.cell? ⟨(ad219.add ((x6_1).toNat * 10)).block, (ad219.add ((x6_1).toNat * 10)).off + 9, none⟩ = some (.int .i32 ((rd_T32 l0 x6_1).f6.f1))) (ds := []) #[F,F,F,F,F,F,F,F,F] (by kernel_rfl) rfl rfl ⟨(bC BK215.out 0).trans rfl, (bC BK215.out 1).trans rfl, (bC BK215.out 2).trans rfl, (bC BK215.out 3).trans rfl, (bC BK215.out 4).trans rfl, ((HB.out.cell (World.block_lt_of_cell? w _ hw228_0)).trans hw228_0), ((HB.out.cell (World.block_lt_of_cell? w _ hw228_1)).trans hw228_1), ((HB.out.cell (World.block_lt_of_cell? w _ hw228_2)).trans hw228_2), ((HB.out.cell (World.block_lt_of_cell? w _ hw228_3)).trans hw228_3), ((HB.out.cell (World.block_lt_of_cell? w _ hw228_4)).trans hw228_4), ((HB.out.cell (World.block_lt_of_cell? w _ hw228_5)).trans hw228_5), ((HB.out.cell (World.block_lt_of_cell? w _ hw228_6)).trans hw228_6), ((HB.out.cell (World.block_lt_of_cell? w _ hw228_7)).trans hw228_7), ((HB.out.cell (World.block_lt_of_cell? w _ hw228_8)).trans hw228_8), ((HB.out.cell (World.block_lt_of_cell? w _ hw228_9)).trans hw228_9)⟩ (fun hHeld => ?_); refine with_tabW billiardref18_Shifts.tab16 billiardref18_Shifts.bits16 (fun HT_ HW_ => ?_)
                  generalize w45.drew = w47 at HO_5 BK210 BK215 BK220 BK223 HB hx228_0 hx228_1 hx228_2 hx228_3 hx228_4 hx228_5 hx228_6 hx228_7 hx228_8 hx228_9 hHeld ⊢
                  refine pure_ (i := 0) (N := some 90) (v := ?_) (a' := ?_) #[T,F,F,F,F,F,F,F,F] rfl rfl (any_of HT_.out (by kernel_rfl)) (fun _ _ _ h => h) (Or.inl ⟨by rfl, ?_⟩) ?_ ?_
                  rotate_left
                  ·intro w'
                   go_simp
                   with_reducible rfl
                  rotate_left
                  ·simp only [Act.put, sA, sB, sC, i64_w, i32_w]
                   rfl
                  refine pure_ (i := 1) (N := some 91) (v := ?_) (a' := ?_) #[T,T,F,F,F,F,F,F,F] rfl rfl (any_of HT_.out (by kernel_rfl)) (fun _ _ _ h => h) (Or.inl ⟨by rfl, ?_⟩) ?_ ?_
                  rotate_left
                  ·intro w'
                   go_simp
                   with_reducible rfl
                  rotate_left
                  ·simp only [Act.put, sA, sB, sC, i64_w, i32_w]
                   rfl
                  refine pure_ (i := 3) (N := some 93) (v := ?_) (a' := ?_) #[T,T,F,T,F,F,F,F,F] rfl rfl (any_of HT_.out (by kernel_rfl)) (fun _ _ _ h => h) (Or.inl ⟨by rfl, ?_⟩) ?_ ?_
                  rotate_left
                  ·intro w'
                   go_simp
                   with_reducible rfl
                  rotate_left
                  ·simp only [Act.put, sA, sB, sC, i64_w, i32_w]
                   rfl
                  refine pure_ (i := 4) (N := some 94) (v := ?_) (a' := ?_) #[T,T,F,T,T,F,F,F,F] rfl rfl (any_of HT_.out (by kernel_rfl)) (fun _ _ _ h => h) (Or.inl ⟨by rfl, ?_⟩) ?_ ?_
                  rotate_left
                  ·intro w'
                   go_simp
                   with_reducible rfl
                  rotate_left
                  ·simp only [Act.put, sA, sB, sC, i64_w, i32_w]
                   rfl
                  refine pure_ (i := 5) (N := some 95) (v := ?_) (a' := ?_) #[T,T,F,T,T,T,F,F,F] rfl rfl (any_of HT_.out (by kernel_rfl)) (fun _ _ _ h => h) (Or.inl ⟨by rfl, ?_⟩) ?_ ?_
                  rotate_left
                  ·intro w'
                   go_simp
                   with_reducible rfl
                  rotate_left
                  ·simp only [Act.put, sA, sB, sC, i64_w, i32_w]
                   rfl
                  refine pure_ (i := 6) (N := some 96) (v := ?_) (a' := ?_) #[T,T,F,T,T,T,T,F,F] rfl rfl (any_of HT_.out (by kernel_rfl)) (fun _ _ _ h => h) (Or.inl ⟨by rfl, ?_⟩) ?_ ?_
                  rotate_left
                  ·intro w'
                   go_simp
                   with_reducible rfl
                  rotate_left
                  ·simp only [Act.put, sA, sB, sC, i64_w, i32_w]
                   rfl
                  refine take_ (i := 2) (N := some 92) (v := ?_) (a' := ?_) #[T,T,T,T,T,T,T,F,F] rfl rfl (take_ofW HT_.out HW_.out (by kernel_rfl)) (fun _ _ _ h => h) (Or.inl ⟨by rfl, ?_⟩) hHeld ?_ ?_
                  rotate_left
                  ·rintro w' ⟨s0, s1, s2, s3, s4, s5, s6, s7, s8, s9, s10, s11, s12, s13, s14⟩
                   go_simp
                   with_reducible rfl
                  rotate_left
                  ·simp only [Act.put, sA, sB, sC, i64_w, i32_w]
                   rfl
                  refine take_ (i := 7) (N := some 97) (v := ?_) (a' := ?_) #[T,T,T,T,T,T,T,T,F] rfl rfl (take_ofW HT_.out HW_.out (by kernel_rfl)) (fun _ _ _ h => h) (Or.inl ⟨by rfl, ?_⟩) hHeld ?_ ?_
                  rotate_left
                  ·rintro w' ⟨s0, s1, s2, s3, s4, s5, s6, s7, s8, s9, s10, s11, s12, s13, s14⟩
                   go_simp
                   with_reducible rfl
                  rotate_left
                  ·simp only [Act.put, sA, sB, sC, i64_w, i32_w]
                   rfl
                  refine pure_ (i := 8) (N := some 98) (v := ?_) (a' := ?_) #[T,T,T,T,T,T,T,T,T] rfl rfl (any_of HT_.out (by kernel_rfl)) (fun _ _ _ h => h) (Or.inl ⟨by rfl, ?_⟩) ?_ ?_
                  rotate_left
                  ·intro w'
                   go_simp
                   with_reducible rfl
                  rotate_left
                  ·simp only [Act.put, sA, sB, sC, i64_w, i32_w]
                   rfl
                  refine done_ (done_of HT_.out (by kernel_rfl)) ?_
                  have hcz48_0 : w47.cell? ⟨b210, 0, none⟩ = some (.int .i64 x211000_2) := (bC BK210.out 0).trans rfl
                  have hcz48_1 : w47.cell? ⟨b210, 1, none⟩ = some (.int .i64 x211001_2) := (bC BK210.out 1).trans rfl
                  have hfz48_0 := bF BK210.out 0
                  have hfz48_1 := bF BK210.out 1
                  try go_wp2
                  go_roundg kj6
                  case measure => have := HK1.out; have := HK2.out; have := HJ6.out; omega
                  case rel => exact ⟨(wrap64 (x8_2 + 1)), (wrap64 (x211000_2 + (wrap64 (-t226)))), (wrap64 (x211001_2 + (wrap64 (-t227)))), (by first | rfl | (simp; done) | (simp [*]; done)), H', ⟨by have := HK1.out; have := HK2.out; have := HJ6.out; omega⟩, ⟨by (with_reducible repeat (first | apply Kd.R_alloc | apply Kd.R_drewN | apply Kd.R_drew)); exact Kd.R_mono (Kd.R_far (p := ⟨b210, 1, none⟩) (Kd.R_far (p := ⟨b210, 0, none⟩) (Kd.R_mono HO_5.out (fun k_ hk => (⟨hk, hk⟩ : _ ∧ k_ ≠ b210))) (fun _ hk => hk.2) (.int .i64 (wrap64 (x211000_2 + (wrap64 (-t226)))))) (fun _ hk => hk.2) (.int .i64 (wrap64 (x211001_2 + (wrap64 (-t227)))))) (fun _ hk => hk.1)⟩, ⟨by (with_reducible repeat first | apply bN | apply bD | apply bA); refine bP (cs := #[.int .i64 (wrap64 (x211000_2 + (wrap64 (-t226)))), .int .i64 x211001_2]) ?_ 1 _ rfl; (with_reducible repeat first | apply bN | apply bD | apply bA); refine bP (cs := #[.int .i64 x211000_2, .int .i64 x211001_2]) ?_ 0 _ rfl; (with_reducible repeat first | apply bN | apply bD | apply bA); exact BK210.out⟩, ⟨by repeat (first | (with_reducible first | exact HB.out | apply lA | apply lN | apply lD | refine lS ?_ GE210.out | refine lS ?_ GE215.out | refine lS ?_ GE220.out | refine lS ?_ GE223.out) | exact HB.out)⟩⟩
                 ·rw [if_neg c30] at H
                  have c30b0 : (((rd_T37 l1 x8_2).f0.f0) == ((rd_T32 l0 x6_1).f0)) = false := beq_eq_false_iff_ne.mpr c30
                  have c30b1 : (((rd_T37 l1 x8_2).f0.f0) != ((rd_T32 l0 x6_1).f0)) = true := bne_iff_ne.mpr c30
                  have H' := aM H
                  clear H
                  have hnb49 := N1_.out
                  have hnc49 := N0_.out
                  have hcz50_0 : wc.cell? ⟨b215, 0, none⟩ = some (.int .u32 ((rd_T37 l1 x8_2).f0.f0)) := (bC BK215.out 0).trans rfl
                  have hcz50_1 : wc.cell? ⟨b215, 1, none⟩ = some (.int .u32 ((rd_T37 l1 x8_2).f0.f1)) := (bC BK215.out 1).trans rfl
                  have hcz50_2 : wc.cell? ⟨b215, 2, none⟩ = some (.int .i32 ((rd_T37 l1 x8_2).f1.f0)) := (bC BK215.out 2).trans rfl
                  have hcz50_3 : wc.cell? ⟨b215, 3, none⟩ = some (.int .i32 ((rd_T37 l1 x8_2).f1.f1)) := (bC BK215.out 3).trans rfl
                  have hcz50_4 : wc.cell? ⟨b215, 4, none⟩ = some (.int .i32 ((rd_T37 l1 x8_2).f2)) := (bC BK215.out 4).trans rfl
                  have hfz50_0 := bF BK215.out 0
                  have hfz50_1 := bF BK215.out 1
                  have hfz50_2 := bF BK215.out 2
                  have hfz50_3 := bF BK215.out 3
                  have hfz50_4 := bF BK215.out 4
                  try go_wp2_with (first | ((with_reducible refine gate_callee (f := 9) rfl ?_); refine goesL_ (some 56) rfl rfl Try.func9 (by kernel_rfl) rfl #[.slice A0 l0.length c0, .int .u32 ((rd_T37 l1 x8_2).f0.f0)] rfl (by (try simp only [List.map_toArray, List.map_cons, List.map_nil]); first | done | rfl | (simp only [List.length_drop, List.length_take]; rfl)) ?_; (with_reducible refine (billiardref06_Find.calls kj6 _ _ l0 ((rd_T37 l1 x8_2).f0.f0) t218 _ ?side1 ?side2 A19.out).mono ?_); (case side1 => repeat (first | exact (Kd.C_below HR0.out HB.out) | (with_reducible refine Kd.C_alloc ?_ _) | (with_reducible refine Kd.C_drewN ?_ _) | (with_reducible refine Kd.C_drew ?_))); (case side2 => exact HC0.out); rintro e w' ⟨rfl, ⟨nd, rfl⟩⟩; refine ⟨_, rfl, ?_⟩; (try (rw [drewN_self wc]; generalize hq_ : World.drewN wc _ = wc; have n0_ : Aside0 (Kd.R k53 53 wc w.heap.size (fun k_ => k_ ≠ b210) u5 x5_1) := ⟨by rw [← hq_]; exact (by (with_reducible repeat (first | apply Kd.R_alloc | apply Kd.R_drewN | apply Kd.R_drew)); exact HO_5.out)⟩; have n1_ : Aside0 (wc.heap[b210]? = some (.cells #[.int .i64 x211000_2, .int .i64 x211001_2] 53 (0, 0))) := ⟨by rw [← hq_]; exact (by (with_reducible repeat first | apply bN | apply bD | apply bA); exact BK210.out)⟩; have n2_ : Aside0 (wc.heap[b215]? = some (.cells #[.int .u32 ((rd_T37 l1 x8_2).f0.f0), .int .u32 ((rd_T37 l1 x8_2).f0.f1), .int .i32 ((rd_T37 l1 x8_2).f1.f0), .int .i32 ((rd_T37 l1 x8_2).f1.f1), .int .i32 ((rd_T37 l1 x8_2).f2)] 37 (0, 0))) := ⟨by rw [← hq_]; exact (by (with_reducible repeat first | apply bN | apply bD | apply bA); exact BK215.out)⟩; have n3_ : Aside0 (Below w.heap.size w wc) := ⟨by rw [← hq_]; exact (by repeat (first | (with_reducible first | exact HB.out | apply lA | apply lN | apply lD | refine lS ?_ GE210.out | refine lS ?_ GE215.out) | exact HB.out))⟩; clear HO_5 BK210 BK215 HB hq_; have HO_5 := n0_; have BK210 := n1_; have BK215 := n2_; have HB := n3_; have hcz50_0 : wc.cell? ⟨b215, 0, none⟩ = some (.int .u32 ((rd_T37 l1 x8_2).f0.f0)) := (bC BK215.out 0).trans rfl; have hcz50_1 : wc.cell? ⟨b215, 1, none⟩ = some (.int .u32 ((rd_T37 l1 x8_2).f0.f1)) := (bC BK215.out 1).trans rfl; have hcz50_2 : wc.cell? ⟨b215, 2, none⟩ = some (.int .i32 ((rd_T37 l1 x8_2).f1.f0)) := (bC BK215.out 2).trans rfl; have hcz50_3 : wc.cell? ⟨b215, 3, none⟩ = some (.int .i32 ((rd_T37 l1 x8_2).f1.f1)) := (bC BK215.out 3).trans rfl; have hcz50_4 : wc.cell? ⟨b215, 4, none⟩ = some (.int .i32 ((rd_T37 l1 x8_2).f2)) := (bC BK215.out 4).trans rfl; have hfz50_0 := bF BK215.out 0; have hfz50_1 := bF BK215.out 1; have hfz50_2 := bF BK215.out 2; have hfz50_3 := bF BK215.out 3; have hfz50_4 := bF BK215.out 4; clear n0_ n1_ n2_ n3_)); have p219 : 0 ≤ (t218 : Int) := of_decide_eq_true (by first | (with_reducible assumption) | assumption); have q219 : t218 < (l0.length : Int) := of_decide_eq_true (by first | (with_reducible assumption) | assumption); obtain ⟨ad219, e219, hx219_0, hx219_1, hx219_2, hx219_3, hx219_4, hx219_5, hx219_6, hx219_7, hx219_8, hx219_9⟩ := at_T32 HR0.out t218 p219 q219; cases e219; replace hx219_0 := (HB.out.cell (World.block_lt_of_cell? w _ hx219_0)).trans hx219_0; replace hx219_1 := (HB.out.cell (World.block_lt_of_cell? w _ hx219_1)).trans hx219_1; replace hx219_2 := (HB.out.cell (World.block_lt_of_cell? w _ hx219_2)).trans hx219_2; replace hx219_3 := (HB.out.cell (World.block_lt_of_cell? w _ hx219_3)).trans hx219_3; replace hx219_4 := (HB.out.cell (World.block_lt_of_cell? w _ hx219_4)).trans hx219_4; replace hx219_5 := (HB.out.cell (World.block_lt_of_cell? w _ hx219_5)).trans hx219_5; replace hx219_6 := (HB.out.cell (World.block_lt_of_cell? w _ hx219_6)).trans hx219_6; replace hx219_7 := (HB.out.cell (World.block_lt_of_cell? w _ hx219_7)).trans hx219_7; replace hx219_8 := (HB.out.cell (World.block_lt_of_cell? w _ hx219_8)).trans hx219_8; replace hx219_9 := (HB.out.cell (World.block_lt_of_cell? w _ hx219_9)).trans hx219_9; replace p219 := eq_true p219; replace q219 := eq_true q219) | ((with_reducible refine gate_dst (N := 10) rfl ?_); refine box_event ?hg (N := 10) ?hd (cs := #[.int .u32 0, .int .i32 0, .int .i32 0, .int .i32 0, .int .i32 0, .int .i32 0, .int .i32 0, .int .i32 0, .int .i32 0, .int .i32 0]) (t := 32) ?hr ?_; (case hd => rfl); (case hg => rfl); (case hr => first | (go_simp; done) | (go_simp; rfl)); intro b220 hg w51 hbox hb; have n0_ := aM (Kd.R_below (by (with_reducible repeat (first | apply Kd.R_alloc | apply Kd.R_drewN | apply Kd.R_drew)); exact HO_5.out) hb); have n1_ := aM (bB (by (with_reducible repeat first | apply bN | apply bD | apply bA); exact BK210.out) hb); have n2_ := aM (bB (by (with_reducible repeat first | apply bN | apply bD | apply bA); exact BK215.out) hb); have n3_ := aM (lT (by repeat (first | (with_reducible first | exact HB.out | apply lA | apply lN | apply lD | refine lS ?_ GE210.out | refine lS ?_ GE215.out) | exact HB.out)) hb); have n4_ := aM (hbox); have n5_ := aM ((by rw [hg]; exact (lZ (by repeat (first | (with_reducible first | exact HB.out | apply lA | apply lN | apply lD | refine lS ?_ GE210.out | refine lS ?_ GE215.out) | exact HB.out))) : w.heap.size ≤ b220)); have n6_ := aM ((by rw [hg]; exact (lZ (by repeat (first | (with_reducible first | exact HB.out | apply lA | apply lN | apply lD | refine lS ?_ GE210.out | refine lS ?_ GE215.out) | exact HB.out))) : w.heap.size ≤ b220)); have n7_ := aM ((by rw [hg]; exact Nat.ne_of_lt (bL (g := b210) (by (with_reducible repeat first | apply bN | apply bD | apply bA); exact BK210.out)) : b210 ≠ b220)); have n8_ := aM ((by rw [hg]; exact Nat.ne_of_gt (bL (g := b210) (by (with_reducible repeat first | apply bN | apply bD | apply bA); exact BK210.out)) : b220 ≠ b210)); have n9_ := aM ((by rw [hg]; exact Nat.ne_of_lt (bL (g := b215) (by (with_reducible repeat first | apply bN | apply bD | apply bA); exact BK215.out)) : b215 ≠ b220)); have n10_ := aM ((by rw [hg]; exact Nat.ne_of_gt (bL (g := b215) (by (with_reducible repeat first | apply bN | apply bD | apply bA); exact BK215.out)) : b220 ≠ b215)); clear HO_5; clear BK210; clear BK215; clear HB; have HO_5 := n0_; have BK210 := n1_; have BK215 := n2_; have HB := n3_; have BK220 := n4_; have GW220 := n5_; have GE220 := n6_; have N2_ := n7_; have N3_ := n8_; have N4_ := n9_; have N5_ := n10_; clear n0_ n1_ n2_ n3_ n4_ n5_ n6_ n7_ n8_ n9_ n10_; clear hb hbox hg; have hnb52 := N3_.out; have hnc52 := N2_.out; have hnb53 := N5_.out; have hnc53 := N4_.out; have hcz54_0 : w51.cell? ⟨b220, 0, none⟩ = some (.int .u32 0) := (bC BK220.out 0).trans rfl; have hcz54_1 : w51.cell? ⟨b220, 1, none⟩ = some (.int .i32 0) := (bC BK220.out 1).trans rfl; have hcz54_2 : w51.cell? ⟨b220, 2, none⟩ = some (.int .i32 0) := (bC BK220.out 2).trans rfl; have hcz54_3 : w51.cell? ⟨b220, 3, none⟩ = some (.int .i32 0) := (bC BK220.out 3).trans rfl; have hcz54_4 : w51.cell? ⟨b220, 4, none⟩ = some (.int .i32 0) := (bC BK220.out 4).trans rfl; have hcz54_5 : w51.cell? ⟨b220, 5, none⟩ = some (.int .i32 0) := (bC BK220.out 5).trans rfl; have hcz54_6 : w51.cell? ⟨b220, 6, none⟩ = some (.int .i32 0) := (bC BK220.out 6).trans rfl; have hcz54_7 : w51.cell? ⟨b220, 7, none⟩ = some (.int .i32 0) := (bC BK220.out 7).trans rfl; have hcz54_8 : w51.cell? ⟨b220, 8, none⟩ = some (.int .i32 0) := (bC BK220.out 8).trans rfl; have hcz54_9 : w51.cell? ⟨b220, 9, none⟩ = some (.int .i32 0) := (bC BK220.out 9).trans rfl; have hfz54_0 := bF BK220.out 0; have hfz54_1 := bF BK220.out 1; have hfz54_2 := bF BK220.out 2; have hfz54_3 := bF BK220.out 3; have hfz54_4 := bF BK220.out 4; have hfz54_5 := bF BK220.out 5; have hfz54_6 := bF BK220.out 6; have hfz54_7 := bF BK220.out 7; have hfz54_8 := bF BK220.out 8; have hfz54_9 := bF BK220.out 9; have hcz55_0 : w51.cell? ⟨b215, 0, none⟩ = some (.int .u32 ((rd_T37 l1 x8_2).f0.f0)) := (bC BK215.out 0).trans rfl; have hcz55_1 : w51.cell? ⟨b215, 1, none⟩ = some (.int .u32 ((rd_T37 l1 x8_2).f0.f1)) := (bC BK215.out 1).trans rfl; have hcz55_2 : w51.cell? ⟨b215, 2, none⟩ = some (.int .i32 ((rd_T37 l1 x8_2).f1.f0)) := (bC BK215.out 2).trans rfl; have hcz55_3 : w51.cell? ⟨b215, 3, none⟩ = some (.int .i32 ((rd_T37 l1 x8_2).f1.f1)) := (bC BK215.out 3).trans rfl; have hcz55_4 : w51.cell? ⟨b215, 4, none⟩ = some (.int .i32 ((rd_T37 l1 x8_2).f2)) := (bC BK215.out 4).trans rfl; have hfz55_0 := bF BK215.out 0; have hfz55_1 := bF BK215.out 1; have hfz55_2 := bF BK215.out 2; have hfz55_3 := bF BK215.out 3; have hfz55_4 := bF BK215.out 4) | ((with_reducible refine gate_callee (f := 9) rfl ?_); refine goesL_ (some 64) rfl rfl Try.func9 (by kernel_rfl) rfl #[.slice (some ad219) l0.length c0, .int .u32 ((rd_T37 l1 x8_2).f0.f1)] rfl (by (try simp only [List.map_toArray, List.map_cons, List.map_nil]); first | done | rfl | (simp only [List.length_drop, List.length_take]; rfl)) ?_; (with_reducible refine (billiardref06_Find.calls kj6 _ _ l0 ((rd_T37 l1 x8_2).f0.f1) t221 _ ?side1 ?side2 A22.out).mono ?_); (case side1 => exact Kd.C_below HR0.out (by repeat (first | (with_reducible first | exact HB.out | apply lA | apply lN | apply lD | refine lS ?_ GE210.out | refine lS ?_ GE215.out | refine lS ?_ GE220.out) | exact HB.out))); (case side2 => exact HC0.out); rintro e w' ⟨rfl, ⟨nd, rfl⟩⟩; refine ⟨_, rfl, ?_⟩; have p222 : 0 ≤ (t221 : Int) := of_decide_eq_true (by first | (with_reducible assumption) | assumption); have q222 : t221 < (l0.length : Int) := of_decide_eq_true (by first | (with_reducible assumption) | assumption); obtain ⟨ad222, e222, hx222_0, hx222_1, hx222_2, hx222_3, hx222_4, hx222_5, hx222_6, hx222_7, hx222_8, hx222_9⟩ := at_T32 HR0.out t221 p222 q222; obtain rfl : ad219 = ad222 := (by injection e222); have hn222_0 : ad219.block ≠ b220 := Nat.ne_of_lt (Nat.lt_of_lt_of_le (by have := World.block_lt_of_cell? _ _ hx222_0; first | rwa [add_block] at this | exact this) GW220.out); have hn222_1 := hn222_0; have hn222_2 := hn222_0; have hn222_3 := hn222_0; have hn222_4 := hn222_0; have hn222_5 := hn222_0; have hn222_6 := hn222_0; have hn222_7 := hn222_0; have hn222_8 := hn222_0; have hn222_9 := hn222_0; replace hx222_0 := (HB.out.cell (World.block_lt_of_cell? w _ hx222_0)).trans hx222_0; replace hx222_1 := (HB.out.cell (World.block_lt_of_cell? w _ hx222_1)).trans hx222_1; replace hx222_2 := (HB.out.cell (World.block_lt_of_cell? w _ hx222_2)).trans hx222_2; replace hx222_3 := (HB.out.cell (World.block_lt_of_cell? w _ hx222_3)).trans hx222_3; replace hx222_4 := (HB.out.cell (World.block_lt_of_cell? w _ hx222_4)).trans hx222_4; replace hx222_5 := (HB.out.cell (World.block_lt_of_cell? w _ hx222_5)).trans hx222_5; replace hx222_6 := (HB.out.cell (World.block_lt_of_cell? w _ hx222_6)).trans hx222_6; replace hx222_7 := (HB.out.cell (World.block_lt_of_cell? w _ hx222_7)).trans hx222_7; replace hx222_8 := (HB.out.cell (World.block_lt_of_cell? w _ hx222_8)).trans hx222_8; replace hx222_9 := (HB.out.cell (World.block_lt_of_cell? w _ hx222_9)).trans hx222_9; replace hx222_0 := (cF (p := ⟨b220, 0, none⟩) (by first | exact nA hn222_0 | exact hn222_0) (.int .u32 ((rd_T32 l0 t218).f0))).trans hx222_0; replace hx222_1 := (cF (p := ⟨b220, 0, none⟩) (by first | exact nA hn222_0 | exact hn222_0) (.int .u32 ((rd_T32 l0 t218).f0))).trans hx222_1; replace hx222_2 := (cF (p := ⟨b220, 0, none⟩) (by first | exact nA hn222_0 | exact hn222_0) (.int .u32 ((rd_T32 l0 t218).f0))).trans hx222_2; replace hx222_3 := (cF (p := ⟨b220, 0, none⟩) (by first | exact nA hn222_0 | exact hn222_0) (.int .u32 ((rd_T32 l0 t218).f0))).trans hx222_3; replace hx222_4 := (cF (p := ⟨b220, 0, none⟩) (by first | exact nA hn222_0 | exact hn222_0) (.int .u32 ((rd_T32 l0 t218).f0))).trans hx222_4; replace hx222_5 := (cF (p := ⟨b220, 0, none⟩) (by first | exact nA hn222_0 | exact hn222_0) (.int .u32 ((rd_T32 l0 t218).f0))).trans hx222_5; replace hx222_6 := (cF (p := ⟨b220, 0, none⟩) (by first | exact nA hn222_0 | exact hn222_0) (.int .u32 ((rd_T32 l0 t218).f0))).trans hx222_6; replace hx222_7 := (cF (p := ⟨b220, 0, none⟩) (by first | exact nA hn222_0 | exact hn222_0) (.int .u32 ((rd_T32 l0 t218).f0))).trans hx222_7; replace hx222_8 := (cF (p := ⟨b220, 0, none⟩) (by first | exact nA hn222_0 | exact hn222_0) (.int .u32 ((rd_T32 l0 t218).f0))).trans hx222_8; replace hx222_9 := (cF (p := ⟨b220, 0, none⟩) (by first | exact nA hn222_0 | exact hn222_0) (.int .u32 ((rd_T32 l0 t218).f0))).trans hx222_9; replace hx222_0 := (cF (p := ⟨b220, 1, none⟩) (by first | exact nA hn222_1 | exact hn222_1) (.int .i32 ((rd_T32 l0 t218).f1))).trans hx222_0; replace hx222_1 := (cF (p := ⟨b220, 1, none⟩) (by first | exact nA hn222_1 | exact hn222_1) (.int .i32 ((rd_T32 l0 t218).f1))).trans hx222_1; replace hx222_2 := (cF (p := ⟨b220, 1, none⟩) (by first | exact nA hn222_1 | exact hn222_1) (.int .i32 ((rd_T32 l0 t218).f1))).trans hx222_2; replace hx222_3 := (cF (p := ⟨b220, 1, none⟩) (by first | exact nA hn222_1 | exact hn222_1) (.int .i32 ((rd_T32 l0 t218).f1))).trans hx222_3; replace hx222_4 := (cF (p := ⟨b220, 1, none⟩) (by first | exact nA hn222_1 | exact hn222_1) (.int .i32 ((rd_T32 l0 t218).f1))).trans hx222_4; replace hx222_5 := (cF (p := ⟨b220, 1, none⟩) (by first | exact nA hn222_1 | exact hn222_1) (.int .i32 ((rd_T32 l0 t218).f1))).trans hx222_5; replace hx222_6 := (cF (p := ⟨b220, 1, none⟩) (by first | exact nA hn222_1 | exact hn222_1) (.int .i32 ((rd_T32 l0 t218).f1))).trans hx222_6; replace hx222_7 := (cF (p := ⟨b220, 1, none⟩) (by first | exact nA hn222_1 | exact hn222_1) (.int .i32 ((rd_T32 l0 t218).f1))).trans hx222_7; replace hx222_8 := (cF (p := ⟨b220, 1, none⟩) (by first | exact nA hn222_1 | exact hn222_1) (.int .i32 ((rd_T32 l0 t218).f1))).trans hx222_8; replace hx222_9 := (cF (p := ⟨b220, 1, none⟩) (by first | exact nA hn222_1 | exact hn222_1) (.int .i32 ((rd_T32 l0 t218).f1))).trans hx222_9; replace hx222_0 := (cF (p := ⟨b220, 2, none⟩) (by first | exact nA hn222_2 | exact hn222_2) (.int .i32 ((rd_T32 l0 t218).f2.f0))).trans hx222_0; replace hx222_1 := (cF (p := ⟨b220, 2, none⟩) (by first | exact nA hn222_2 | exact hn222_2) (.int .i32 ((rd_T32 l0 t218).f2.f0))).trans hx222_1; replace hx222_2 := (cF (p := ⟨b220, 2, none⟩) (by first | exact nA hn222_2 | exact hn222_2) (.int .i32 ((rd_T32 l0 t218).f2.f0))).trans hx222_2; replace hx222_3 := (cF (p := ⟨b220, 2, none⟩) (by first | exact nA hn222_2 | exact hn222_2) (.int .i32 ((rd_T32 l0 t218).f2.f0))).trans hx222_3; replace hx222_4 := (cF (p := ⟨b220, 2, none⟩) (by first | exact nA hn222_2 | exact hn222_2) (.int .i32 ((rd_T32 l0 t218).f2.f0))).trans hx222_4; replace hx222_5 := (cF (p := ⟨b220, 2, none⟩) (by first | exact nA hn222_2 | exact hn222_2) (.int .i32 ((rd_T32 l0 t218).f2.f0))).trans hx222_5; replace hx222_6 := (cF (p := ⟨b220, 2, none⟩) (by first | exact nA hn222_2 | exact hn222_2) (.int .i32 ((rd_T32 l0 t218).f2.f0))).trans hx222_6; replace hx222_7 := (cF (p := ⟨b220, 2, none⟩) (by first | exact nA hn222_2 | exact hn222_2) (.int .i32 ((rd_T32 l0 t218).f2.f0))).trans hx222_7; replace hx222_8 := (cF (p := ⟨b220, 2, none⟩) (by first | exact nA hn222_2 | exact hn222_2) (.int .i32 ((rd_T32 l0 t218).f2.f0))).trans hx222_8; replace hx222_9 := (cF (p := ⟨b220, 2, none⟩) (by first | exact nA hn222_2 | exact hn222_2) (.int .i32 ((rd_T32 l0 t218).f2.f0))).trans hx222_9; replace hx222_0 := (cF (p := ⟨b220, 3, none⟩) (by first | exact nA hn222_3 | exact hn222_3) (.int .i32 ((rd_T32 l0 t218).f2.f1))).trans hx222_0; replace hx222_1 := (cF (p := ⟨b220, 3, none⟩) (by first | exact nA hn222_3 | exact hn222_3) (.int .i32 ((rd_T32 l0 t218).f2.f1))).trans hx222_1; replace hx222_2 := (cF (p := ⟨b220, 3, none⟩) (by first | exact nA hn222_3 | exact hn222_3) (.int .i32 ((rd_T32 l0 t218).f2.f1))).trans hx222_2; replace hx222_3 := (cF (p := ⟨b220, 3, none⟩) (by first | exact nA hn222_3 | exact hn222_3) (.int .i32 ((rd_T32 l0 t218).f2.f1))).trans hx222_3; replace hx222_4 := (cF (p := ⟨b220, 3, none⟩) (by first | exact nA hn222_3 | exact hn222_3) (.int .i32 ((rd_T32 l0 t218).f2.f1))).trans hx222_4; replace hx222_5 := (cF (p := ⟨b220, 3, none⟩) (by first | exact nA hn222_3 | exact hn222_3) (.int .i32 ((rd_T32 l0 t218).f2.f1))).trans hx222_5; replace hx222_6 := (cF (p := ⟨b220, 3, none⟩) (by first | exact nA hn222_3 | exact hn222_3) (.int .i32 ((rd_T32 l0 t218).f2.f1))).trans hx222_6; replace hx222_7 := (cF (p := ⟨b220, 3, none⟩) (by first | exact nA hn222_3 | exact hn222_3) (.int .i32 ((rd_T32 l0 t218).f2.f1))).trans hx222_7; replace hx222_8 := (cF (p := ⟨b220, 3, none⟩) (by first | exact nA hn222_3 | exact hn222_3) (.int .i32 ((rd_T32 l0 t218).f2.f1))).trans hx222_8; replace hx222_9 := (cF (p := ⟨b220, 3, none⟩) (by first | exact nA hn222_3 | exact hn222_3) (.int .i32 ((rd_T32 l0 t218).f2.f1))).trans hx222_9; replace hx222_0 := (cF (p := ⟨b220, 4, none⟩) (by first | exact nA hn222_4 | exact hn222_4) (.int .i32 ((rd_T32 l0 t218).f3))).trans hx222_0; replace hx222_1 := (cF (p := ⟨b220, 4, none⟩) (by first | exact nA hn222_4 | exact hn222_4) (.int .i32 ((rd_T32 l0 t218).f3))).trans hx222_1; replace hx222_2 := (cF (p := ⟨b220, 4, none⟩) (by first | exact nA hn222_4 | exact hn222_4) (.int .i32 ((rd_T32 l0 t218).f3))).trans hx222_2; replace hx222_3 := (cF (p := ⟨b220, 4, none⟩) (by first | exact nA hn222_4 | exact hn222_4) (.int .i32 ((rd_T32 l0 t218).f3))).trans hx222_3; replace hx222_4 := (cF (p := ⟨b220, 4, none⟩) (by first | exact nA hn222_4 | exact hn222_4) (.int .i32 ((rd_T32 l0 t218).f3))).trans hx222_4; replace hx222_5 := (cF (p := ⟨b220, 4, none⟩) (by first | exact nA hn222_4 | exact hn222_4) (.int .i32 ((rd_T32 l0 t218).f3))).trans hx222_5; replace hx222_6 := (cF (p := ⟨b220, 4, none⟩) (by first | exact nA hn222_4 | exact hn222_4) (.int .i32 ((rd_T32 l0 t218).f3))).trans hx222_6; replace hx222_7 := (cF (p := ⟨b220, 4, none⟩) (by first | exact nA hn222_4 | exact hn222_4) (.int .i32 ((rd_T32 l0 t218).f3))).trans hx222_7; replace hx222_8 := (cF (p := ⟨b220, 4, none⟩) (by first | exact nA hn222_4 | exact hn222_4) (.int .i32 ((rd_T32 l0 t218).f3))).trans hx222_8; replace hx222_9 := (cF (p := ⟨b220, 4, none⟩) (by first | exact nA hn222_4 | exact hn222_4) (.int .i32 ((rd_T32 l0 t218).f3))).trans hx222_9; replace hx222_0 := (cF (p := ⟨b220, 5, none⟩) (by first | exact nA hn222_5 | exact hn222_5) (.int .i32 ((rd_T32 l0 t218).f4))).trans hx222_0; replace hx222_1 := (cF (p := ⟨b220, 5, none⟩) (by first | exact nA hn222_5 | exact hn222_5) (.int .i32 ((rd_T32 l0 t218).f4))).trans hx222_1; replace hx222_2 := (cF (p := ⟨b220, 5, none⟩) (by first | exact nA hn222_5 | exact hn222_5) (.int .i32 ((rd_T32 l0 t218).f4))).trans hx222_2; replace hx222_3 := (cF (p := ⟨b220, 5, none⟩) (by first | exact nA hn222_5 | exact hn222_5) (.int .i32 ((rd_T32 l0 t218).f4))).trans hx222_3; replace hx222_4 := (cF (p := ⟨b220, 5, none⟩) (by first | exact nA hn222_5 | exact hn222_5) (.int .i32 ((rd_T32 l0 t218).f4))).trans hx222_4; replace hx222_5 := (cF (p := ⟨b220, 5, none⟩) (by first | exact nA hn222_5 | exact hn222_5) (.int .i32 ((rd_T32 l0 t218).f4))).trans hx222_5; replace hx222_6 := (cF (p := ⟨b220, 5, none⟩) (by first | exact nA hn222_5 | exact hn222_5) (.int .i32 ((rd_T32 l0 t218).f4))).trans hx222_6; replace hx222_7 := (cF (p := ⟨b220, 5, none⟩) (by first | exact nA hn222_5 | exact hn222_5) (.int .i32 ((rd_T32 l0 t218).f4))).trans hx222_7; replace hx222_8 := (cF (p := ⟨b220, 5, none⟩) (by first | exact nA hn222_5 | exact hn222_5) (.int .i32 ((rd_T32 l0 t218).f4))).trans hx222_8; replace hx222_9 := (cF (p := ⟨b220, 5, none⟩) (by first | exact nA hn222_5 | exact hn222_5) (.int .i32 ((rd_T32 l0 t218).f4))).trans hx222_9; replace hx222_0 := (cF (p := ⟨b220, 6, none⟩) (by first | exact nA hn222_6 | exact hn222_6) (.int .i32 ((rd_T32 l0 t218).f5.f0))).trans hx222_0; replace hx222_1 := (cF (p := ⟨b220, 6, none⟩) (by first | exact nA hn222_6 | exact hn222_6) (.int .i32 ((rd_T32 l0 t218).f5.f0))).trans hx222_1; replace hx222_2 := (cF (p := ⟨b220, 6, none⟩) (by first | exact nA hn222_6 | exact hn222_6) (.int .i32 ((rd_T32 l0 t218).f5.f0))).trans hx222_2; replace hx222_3 := (cF (p := ⟨b220, 6, none⟩) (by first | exact nA hn222_6 | exact hn222_6) (.int .i32 ((rd_T32 l0 t218).f5.f0))).trans hx222_3; replace hx222_4 := (cF (p := ⟨b220, 6, none⟩) (by first | exact nA hn222_6 | exact hn222_6) (.int .i32 ((rd_T32 l0 t218).f5.f0))).trans hx222_4; replace hx222_5 := (cF (p := ⟨b220, 6, none⟩) (by first | exact nA hn222_6 | exact hn222_6) (.int .i32 ((rd_T32 l0 t218).f5.f0))).trans hx222_5; replace hx222_6 := (cF (p := ⟨b220, 6, none⟩) (by first | exact nA hn222_6 | exact hn222_6) (.int .i32 ((rd_T32 l0 t218).f5.f0))).trans hx222_6; replace hx222_7 := (cF (p := ⟨b220, 6, none⟩) (by first | exact nA hn222_6 | exact hn222_6) (.int .i32 ((rd_T32 l0 t218).f5.f0))).trans hx222_7; replace hx222_8 := (cF (p := ⟨b220, 6, none⟩) (by first | exact nA hn222_6 | exact hn222_6) (.int .i32 ((rd_T32 l0 t218).f5.f0))).trans hx222_8; replace hx222_9 := (cF (p := ⟨b220, 6, none⟩) (by first | exact nA hn222_6 | exact hn222_6) (.int .i32 ((rd_T32 l0 t218).f5.f0))).trans hx222_9; replace hx222_0 := (cF (p := ⟨b220, 7, none⟩) (by first | exact nA hn222_7 | exact hn222_7) (.int .i32 ((rd_T32 l0 t218).f5.f1))).trans hx222_0; replace hx222_1 := (cF (p := ⟨b220, 7, none⟩) (by first | exact nA hn222_7 | exact hn222_7) (.int .i32 ((rd_T32 l0 t218).f5.f1))).trans hx222_1; replace hx222_2 := (cF (p := ⟨b220, 7, none⟩) (by first | exact nA hn222_7 | exact hn222_7) (.int .i32 ((rd_T32 l0 t218).f5.f1))).trans hx222_2; replace hx222_3 := (cF (p := ⟨b220, 7, none⟩) (by first | exact nA hn222_7 | exact hn222_7) (.int .i32 ((rd_T32 l0 t218).f5.f1))).trans hx222_3; replace hx222_4 := (cF (p := ⟨b220, 7, none⟩) (by first | exact nA hn222_7 | exact hn222_7) (.int .i32 ((rd_T32 l0 t218).f5.f1))).trans hx222_4; replace hx222_5 := (cF (p := ⟨b220, 7, none⟩) (by first | exact nA hn222_7 | exact hn222_7) (.int .i32 ((rd_T32 l0 t218).f5.f1))).trans hx222_5; replace hx222_6 := (cF (p := ⟨b220, 7, none⟩) (by first | exact nA hn222_7 | exact hn222_7) (.int .i32 ((rd_T32 l0 t218).f5.f1))).trans hx222_6; replace hx222_7 := (cF (p := ⟨b220, 7, none⟩) (by first | exact nA hn222_7 | exact hn222_7) (.int .i32 ((rd_T32 l0 t218).f5.f1))).trans hx222_7; replace hx222_8 := (cF (p := ⟨b220, 7, none⟩) (by first | exact nA hn222_7 | exact hn222_7) (.int .i32 ((rd_T32 l0 t218).f5.f1))).trans hx222_8; replace hx222_9 := (cF (p := ⟨b220, 7, none⟩) (by first | exact nA hn222_7 | exact hn222_7) (.int .i32 ((rd_T32 l0 t218).f5.f1))).trans hx222_9; replace hx222_0 := (cF (p := ⟨b220, 8, none⟩) (by first | exact nA hn222_8 | exact hn222_8) (.int .i32 ((rd_T32 l0 t218).f6.f0))).trans hx222_0; replace hx222_1 := (cF (p := ⟨b220, 8, none⟩) (by first | exact nA hn222_8 | exact hn222_8) (.int .i32 ((rd_T32 l0 t218).f6.f0))).trans hx222_1; replace hx222_2 := (cF (p := ⟨b220, 8, none⟩) (by first | exact nA hn222_8 | exact hn222_8) (.int .i32 ((rd_T32 l0 t218).f6.f0))).trans hx222_2; replace hx222_3 := (cF (p := ⟨b220, 8, none⟩) (by first | exact nA hn222_8 | exact hn222_8) (.int .i32 ((rd_T32 l0 t218).f6.f0))).trans hx222_3; replace hx222_4 := (cF (p := ⟨b220, 8, none⟩) (by first | exact nA hn222_8 | exact hn222_8) (.int .i32 ((rd_T32 l0 t218).f6.f0))).trans hx222_4; replace hx222_5 := (cF (p := ⟨b220, 8, none⟩) (by first | exact nA hn222_8 | exact hn222_8) (.int .i32 ((rd_T32 l0 t218).f6.f0))).trans hx222_5; replace hx222_6 := (cF (p := ⟨b220, 8, none⟩) (by first | exact nA hn222_8 | exact hn222_8) (.int .i32 ((rd_T32 l0 t218).f6.f0))).trans hx222_6; replace hx222_7 := (cF (p := ⟨b220, 8, none⟩) (by first | exact nA hn222_8 | exact hn222_8) (.int .i32 ((rd_T32 l0 t218).f6.f0))).trans hx222_7; replace hx222_8 := (cF (p := ⟨b220, 8, none⟩) (by first | exact nA hn222_8 | exact hn222_8) (.int .i32 ((rd_T32 l0 t218).f6.f0))).trans hx222_8; replace hx222_9 := (cF (p := ⟨b220, 8, none⟩) (by first | exact nA hn222_8 | exact hn222_8) (.int .i32 ((rd_T32 l0 t218).f6.f0))).trans hx222_9; replace hx222_0 := (cF (p := ⟨b220, 9, none⟩) (by first | exact nA hn222_9 | exact hn222_9) (.int .i32 ((rd_T32 l0 t218).f6.f1))).trans hx222_0; replace hx222_1 := (cF (p := ⟨b220, 9, none⟩) (by first | exact nA hn222_9 | exact hn222_9) (.int .i32 ((rd_T32 l0 t218).f6.f1))).trans hx222_1; replace hx222_2 := (cF (p := ⟨b220, 9, none⟩) (by first | exact nA hn222_9 | exact hn222_9) (.int .i32 ((rd_T32 l0 t218).f6.f1))).trans hx222_2; replace hx222_3 := (cF (p := ⟨b220, 9, none⟩) (by first | exact nA hn222_9 | exact hn222_9) (.int .i32 ((rd_T32 l0 t218).f6.f1))).trans hx222_3; replace hx222_4 := (cF (p := ⟨b220, 9, none⟩) (by first | exact nA hn222_9 | exact hn222_9) (.int .i32 ((rd_T32 l0 t218).f6.f1))).trans hx222_4; replace hx222_5 := (cF (p := ⟨b220, 9, none⟩) (by first | exact nA hn222_9 | exact hn222_9) (.int .i32 ((rd_T32 l0 t218).f6.f1))).trans hx222_5; replace hx222_6 := (cF (p := ⟨b220, 9, none⟩) (by first | exact nA hn222_9 | exact hn222_9) (.int .i32 ((rd_T32 l0 t218).f6.f1))).trans hx222_6; replace hx222_7 := (cF (p := ⟨b220, 9, none⟩) (by first | exact nA hn222_9 | exact hn222_9) (.int .i32 ((rd_T32 l0 t218).f6.f1))).trans hx222_7; replace hx222_8 := (cF (p := ⟨b220, 9, none⟩) (by first | exact nA hn222_9 | exact hn222_9) (.int .i32 ((rd_T32 l0 t218).f6.f1))).trans hx222_8; replace hx222_9 := (cF (p := ⟨b220, 9, none⟩) (by first | exact nA hn222_9 | exact hn222_9) (.int .i32 ((rd_T32 l0 t218).f6.f1))).trans hx222_9; clear hn222_0; clear hn222_1; clear hn222_2; clear hn222_3; clear hn222_4; clear hn222_5; clear hn222_6; clear hn222_7; clear hn222_8; clear hn222_9; replace p222 := eq_true p222; replace q222 := eq_true q222) | ((with_reducible refine gate_dst (N := 11) rfl ?_); refine box_event ?hg (N := 11) ?hd (cs := #[.int .u32 0, .int .i32 0, .int .i32 0, .int .i32 0, .int .i32 0, .int .i32 0, .int .i32 0, .int .i32 0, .int .i32 0, .int .i32 0]) (t := 32) ?hr ?_; (case hd => rfl); (case hg => rfl); (case hr => first | (go_simp; done) | (go_simp; rfl)); intro b223 hg w56 hbox hb; have n0_ := aM (Kd.R_below (by (with_reducible repeat (first | apply Kd.R_alloc | apply Kd.R_drewN | apply Kd.R_drew)); exact (Kd.R_mono (Kd.R_far (p := ⟨b220, 9, none⟩) (Kd.R_far (p := ⟨b220, 8, none⟩) (Kd.R_far (p := ⟨b220, 7, none⟩) (Kd.R_far (p := ⟨b220, 6, none⟩) (Kd.R_far (p := ⟨b220, 5, none⟩) (Kd.R_far (p := ⟨b220, 4, none⟩) (Kd.R_far (p := ⟨b220, 3, none⟩) (Kd.R_far (p := ⟨b220, 2, none⟩) (Kd.R_far (p := ⟨b220, 1, none⟩) (Kd.R_far (p := ⟨b220, 0, none⟩) (Kd.R_types HO_5.out BK220.out (by decide)) (fun _ hk => hk.2) (.int .u32 ((rd_T32 l0 t218).f0))) (fun _ hk => hk.2) (.int .i32 ((rd_T32 l0 t218).f1))) (fun _ hk => hk.2) (.int .i32 ((rd_T32 l0 t218).f2.f0))) (fun _ hk => hk.2) (.int .i32 ((rd_T32 l0 t218).f2.f1))) (fun _ hk => hk.2) (.int .i32 ((rd_T32 l0 t218).f3))) (fun _ hk => hk.2) (.int .i32 ((rd_T32 l0 t218).f4))) (fun _ hk => hk.2) (.int .i32 ((rd_T32 l0 t218).f5.f0))) (fun _ hk => hk.2) (.int .i32 ((rd_T32 l0 t218).f5.f1))) (fun _ hk => hk.2) (.int .i32 ((rd_T32 l0 t218).f6.f0))) (fun _ hk => hk.2) (.int .i32 ((rd_T32 l0 t218).f6.f1))) (fun _ h_ => h_.1))) hb); have n1_ := aM (bB (g := b210) (o := .cells #[.int .i64 x211000_2, .int .i64 x211001_2] 53 (0, 0)) (by (with_reducible repeat first | apply bN | apply bD | apply bA); refine bR ?_ N2_.out _; (with_reducible repeat first | apply bN | apply bD | apply bA); refine bR ?_ N2_.out _; (with_reducible repeat first | apply bN | apply bD | apply bA); refine bR ?_ N2_.out _; (with_reducible repeat first | apply bN | apply bD | apply bA); refine bR ?_ N2_.out _; (with_reducible repeat first | apply bN | apply bD | apply bA); refine bR ?_ N2_.out _; (with_reducible repeat first | apply bN | apply bD | apply bA); refine bR ?_ N2_.out _; (with_reducible repeat first | apply bN | apply bD | apply bA); refine bR ?_ N2_.out _; (with_reducible repeat first | apply bN | apply bD | apply bA); refine bR ?_ N2_.out _; (with_reducible repeat first | apply bN | apply bD | apply bA); refine bR ?_ N2_.out _; (with_reducible repeat first | apply bN | apply bD | apply bA); refine bR ?_ N2_.out _; (with_reducible repeat first | apply bN | apply bD | apply bA); exact BK210.out) hb); have n2_ := aM (bB (g := b215) (o := .cells #[.int .u32 ((rd_T37 l1 x8_2).f0.f0), .int .u32 ((rd_T37 l1 x8_2).f0.f1), .int .i32 ((rd_T37 l1 x8_2).f1.f0), .int .i32 ((rd_T37 l1 x8_2).f1.f1), .int .i32 ((rd_T37 l1 x8_2).f2)] 37 (0, 0)) (by (with_reducible repeat first | apply bN | apply bD | apply bA); refine bR ?_ N4_.out _; (with_reducible repeat first | apply bN | apply bD | apply bA); refine bR ?_ N4_.out _; (with_reducible repeat first | apply bN | apply bD | apply bA); refine bR ?_ N4_.out _; (with_reducible repeat first | apply bN | apply bD | apply bA); refine bR ?_ N4_.out _; (with_reducible repeat first | apply bN | apply bD | apply bA); refine bR ?_ N4_.out _; (with_reducible repeat first | apply bN | apply bD | apply bA); refine bR ?_ N4_.out _; (with_reducible repeat first | apply bN | apply bD | apply bA); refine bR ?_ N4_.out _; (with_reducible repeat first | apply bN | apply bD | apply bA); refine bR ?_ N4_.out _; (with_reducible repeat first | apply bN | apply bD | apply bA); refine bR ?_ N4_.out _; (with_reducible repeat first | apply bN | apply bD | apply bA); refine bR ?_ N4_.out _; (with_reducible repeat first | apply bN | apply bD | apply bA); exact BK215.out) hb); have n3_ := aM (bB (g := b220) (o := .cells #[.int .u32 ((rd_T32 l0 t218).f0), .int .i32 ((rd_T32 l0 t218).f1), .int .i32 ((rd_T32 l0 t218).f2.f0), .int .i32 ((rd_T32 l0 t218).f2.f1), .int .i32 ((rd_T32 l0 t218).f3), .int .i32 ((rd_T32 l0 t218).f4), .int .i32 ((rd_T32 l0 t218).f5.f0), .int .i32 ((rd_T32 l0 t218).f5.f1), .int .i32 ((rd_T32 l0 t218).f6.f0), .int .i32 ((rd_T32 l0 t218).f6.f1)] 32 (0, 0)) (by (with_reducible repeat first | apply bN | apply bD | apply bA); refine bP (cs := #[.int .u32 ((rd_T32 l0 t218).f0), .int .i32 ((rd_T32 l0 t218).f1), .int .i32 ((rd_T32 l0 t218).f2.f0), .int .i32 ((rd_T32 l0 t218).f2.f1), .int .i32 ((rd_T32 l0 t218).f3), .int .i32 ((rd_T32 l0 t218).f4), .int .i32 ((rd_T32 l0 t218).f5.f0), .int .i32 ((rd_T32 l0 t218).f5.f1), .int .i32 ((rd_T32 l0 t218).f6.f0), .int .i32 0]) ?_ 9 _ rfl; (with_reducible repeat first | apply bN | apply bD | apply bA); refine bP (cs := #[.int .u32 ((rd_T32 l0 t218).f0), .int .i32 ((rd_T32 l0 t218).f1), .int .i32 ((rd_T32 l0 t218).f2.f0), .int .i32 ((rd_T32 l0 t218).f2.f1), .int .i32 ((rd_T32 l0 t218).f3), .int .i32 ((rd_T32 l0 t218).f4), .int .i32 ((rd_T32 l0 t218).f5.f0), .int .i32 ((rd_T32 l0 t218).f5.f1), .int .i32 0, .int .i32 0]) ?_ 8 _ rfl; (with_reducible repeat first | apply bN | apply bD | apply bA); refine bP (cs := #[.int .u32 ((rd_T32 l0 t218).f0), .int .i32 ((rd_T32 l0 t218).f1), .int .i32 ((rd_T32 l0 t218).f2.f0), .int .i32 ((rd_T32 l0 t218).f2.f1), .int .i32 ((rd_T32 l0 t218).f3), .int .i32 ((rd_T32 l0 t218).f4), .int .i32 ((rd_T32 l0 t218).f5.f0), .int .i32 0, .int .i32 0, .int .i32 0]) ?_ 7 _ rfl; (with_reducible repeat first | apply bN | apply bD | apply bA); refine bP (cs := #[.int .u32 ((rd_T32 l0 t218).f0), .int .i32 ((rd_T32 l0 t218).f1), .int .i32 ((rd_T32 l0 t218).f2.f0), .int .i32 ((rd_T32 l0 t218).f2.f1), .int .i32 ((rd_T32 l0 t218).f3), .int .i32 ((rd_T32 l0 t218).f4), .int .i32 0, .int .i32 0, .int .i32 0, .int .i32 0]) ?_ 6 _ rfl; (with_reducible repeat first | apply bN | apply bD | apply bA); refine bP (cs := #[.int .u32 ((rd_T32 l0 t218).f0), .int .i32 ((rd_T32 l0 t218).f1), .int .i32 ((rd_T32 l0 t218).f2.f0), .int .i32 ((rd_T32 l0 t218).f2.f1), .int .i32 ((rd_T32 l0 t218).f3), .int .i32 0, .int .i32 0, .int .i32 0, .int .i32 0, .int .i32 0]) ?_ 5 _ rfl; (with_reducible repeat first | apply bN | apply bD | apply bA); refine bP (cs := #[.int .u32 ((rd_T32 l0 t218).f0), .int .i32 ((rd_T32 l0 t218).f1), .int .i32 ((rd_T32 l0 t218).f2.f0), .int .i32 ((rd_T32 l0 t218).f2.f1), .int .i32 0, .int .i32 0, .int .i32 0, .int .i32 0, .int .i32 0, .int .i32 0]) ?_ 4 _ rfl; (with_reducible repeat first | apply bN | apply bD | apply bA); refine bP (cs := #[.int .u32 ((rd_T32 l0 t218).f0), .int .i32 ((rd_T32 l0 t218).f1), .int .i32 ((rd_T32 l0 t218).f2.f0), .int .i32 0, .int .i32 0, .int .i32 0, .int .i32 0, .int .i32 0, .int .i32 0, .int .i32 0]) ?_ 3 _ rfl; (with_reducible repeat first | apply bN | apply bD | apply bA); refine bP (cs := #[.int .u32 ((rd_T32 l0 t218).f0), .int .i32 ((rd_T32 l0 t218).f1), .int .i32 0, .int .i32 0, .int .i32 0, .int .i32 0, .int .i32 0, .int .i32 0, .int .i32 0, .int .i32 0]) ?_ 2 _ rfl; (with_reducible repeat first | apply bN | apply bD | apply bA); refine bP (cs := #[.int .u32 ((rd_T32 l0 t218).f0), .int .i32 0, .int .i32 0, .int .i32 0, .int .i32 0, .int .i32 0, .int .i32 0, .int .i32 0, .int .i32 0, .int .i32 0]) ?_ 1 _ rfl; (with_reducible repeat first | apply bN | apply bD | apply bA); refine bP (cs := #[.int .u32 0, .int .i32 0, .int .i32 0, .int .i32 0, .int .i32 0, .int .i32 0, .int .i32 0, .int .i32 0, .int .i32 0, .int .i32 0]) ?_ 0 _ rfl; (with_reducible repeat first | apply bN | apply bD | apply bA); exact BK220.out) hb); have n4_ := aM (lT (by repeat (first | (with_reducible first | exact HB.out | apply lA | apply lN | apply lD | refine lS ?_ GE210.out | refine lS ?_ GE215.out | refine lS ?_ GE220.out) | exact HB.out)) hb); have n5_ := aM (hbox); have n6_ := aM ((by rw [hg]; exact (lZ (by repeat (first | (with_reducible first | exact HB.out | apply lA | apply lN | apply lD | refine lS ?_ GE210.out | refine lS ?_ GE215.out | refine lS ?_ GE220.out) | exact HB.out))) : w.heap.size ≤ b223)); have n7_ := aM ((by rw [hg]; exact (lZ (by repeat (first | (with_reducible first | exact HB.out | apply lA | apply lN | apply lD | refine lS ?_ GE210.out | refine lS ?_ GE215.out | refine lS ?_ GE220.out) | exact HB.out))) : w.heap.size ≤ b223)); have n8_ := aM ((by rw [hg]; exact Nat.ne_of_lt (bL (g := b210) (o := .cells #[.int .i64 x211000_2, .int .i64 x211001_2] 53 (0, 0)) (by (with_reducible repeat first | apply bN | apply bD | apply bA); refine bR ?_ N2_.out _; (with_reducible repeat first | apply bN | apply bD | apply bA); refine bR ?_ N2_.out _; (with_reducible repeat first | apply bN | apply bD | apply bA); refine bR ?_ N2_.out _; (with_reducible repeat first | apply bN | apply bD | apply bA); refine bR ?_ N2_.out _; (with_reducible repeat first | apply bN | apply bD | apply bA); refine bR ?_ N2_.out _; (with_reducible repeat first | apply bN | apply bD | apply bA); refine bR ?_ N2_.out _; (with_reducible repeat first | apply bN | apply bD | apply bA); refine bR ?_ N2_.out _; (with_reducible repeat first | apply bN | apply bD | apply bA); refine bR ?_ N2_.out _; (with_reducible repeat first | apply bN | apply bD | apply bA); refine bR ?_ N2_.out _; (with_reducible repeat first | apply bN | apply bD | apply bA); refine bR ?_ N2_.out _; (with_reducible repeat first | apply bN | apply bD | apply bA); exact BK210.out)) : b210 ≠ b223)); have n9_ := aM ((by rw [hg]; exact Nat.ne_of_gt (bL (g := b210) (o := .cells #[.int .i64 x211000_2, .int .i64 x211001_2] 53 (0, 0)) (by (with_reducible repeat first | apply bN | apply bD | apply bA); refine bR ?_ N2_.out _; (with_reducible repeat first | apply bN | apply bD | apply bA); refine bR ?_ N2_.out _; (with_reducible repeat first | apply bN | apply bD | apply bA); refine bR ?_ N2_.out _; (with_reducible repeat first | apply bN | apply bD | apply bA); refine bR ?_ N2_.out _; (with_reducible repeat first | apply bN | apply bD | apply bA); refine bR ?_ N2_.out _; (with_reducible repeat first | apply bN | apply bD | apply bA); refine bR ?_ N2_.out _; (with_reducible repeat first | apply bN | apply bD | apply bA); refine bR ?_ N2_.out _; (with_reducible repeat first | apply bN | apply bD | apply bA); refine bR ?_ N2_.out _; (with_reducible repeat first | apply bN | apply bD | apply bA); refine bR ?_ N2_.out _; (with_reducible repeat first | apply bN | apply bD | apply bA); refine bR ?_ N2_.out _; (with_reducible repeat first | apply bN | apply bD | apply bA); exact BK210.out)) : b223 ≠ b210)); have n10_ := aM ((by rw [hg]; exact Nat.ne_of_lt (bL (g := b215) (o := .cells #[.int .u32 ((rd_T37 l1 x8_2).f0.f0), .int .u32 ((rd_T37 l1 x8_2).f0.f1), .int .i32 ((rd_T37 l1 x8_2).f1.f0), .int .i32 ((rd_T37 l1 x8_2).f1.f1), .int .i32 ((rd_T37 l1 x8_2).f2)] 37 (0, 0)) (by (with_reducible repeat first | apply bN | apply bD | apply bA); refine bR ?_ N4_.out _; (with_reducible repeat first | apply bN | apply bD | apply bA); refine bR ?_ N4_.out _; (with_reducible repeat first | apply bN | apply bD | apply bA); refine bR ?_ N4_.out _; (with_reducible repeat first | apply bN | apply bD | apply bA); refine bR ?_ N4_.out _; (with_reducible repeat first | apply bN | apply bD | apply bA); refine bR ?_ N4_.out _; (with_reducible repeat first | apply bN | apply bD | apply bA); refine bR ?_ N4_.out _; (with_reducible repeat first | apply bN | apply bD | apply bA); refine bR ?_ N4_.out _; (with_reducible repeat first | apply bN | apply bD | apply bA); refine bR ?_ N4_.out _; (with_reducible repeat first | apply bN | apply bD | apply bA); refine bR ?_ N4_.out _; (with_reducible repeat first | apply bN | apply bD | apply bA); refine bR ?_ N4_.out _; (with_reducible repeat first | apply bN | apply bD | apply bA); exact BK215.out)) : b215 ≠ b223)); have n11_ := aM ((by rw [hg]; exact Nat.ne_of_gt (bL (g := b215) (o := .cells #[.int .u32 ((rd_T37 l1 x8_2).f0.f0), .int .u32 ((rd_T37 l1 x8_2).f0.f1), .int .i32 ((rd_T37 l1 x8_2).f1.f0), .int .i32 ((rd_T37 l1 x8_2).f1.f1), .int .i32 ((rd_T37 l1 x8_2).f2)] 37 (0, 0)) (by (with_reducible repeat first | apply bN | apply bD | apply bA); refine bR ?_ N4_.out _; (with_reducible repeat first | apply bN | apply bD | apply bA); refine bR ?_ N4_.out _; (with_reducible repeat first | apply bN | apply bD | apply bA); refine bR ?_ N4_.out _; (with_reducible repeat first | apply bN | apply bD | apply bA); refine bR ?_ N4_.out _; (with_reducible repeat first | apply bN | apply bD | apply bA); refine bR ?_ N4_.out _; (with_reducible repeat first | apply bN | apply bD | apply bA); refine bR ?_ N4_.out _; (with_reducible repeat first | apply bN | apply bD | apply bA); refine bR ?_ N4_.out _; (with_reducible repeat first | apply bN | apply bD | apply bA); refine bR ?_ N4_.out _; (with_reducible repeat first | apply bN | apply bD | apply bA); refine bR ?_ N4_.out _; (with_reducible repeat first | apply bN | apply bD | apply bA); refine bR ?_ N4_.out _; (with_reducible repeat first | apply bN | apply bD | apply bA); exact BK215.out)) : b223 ≠ b215)); have n12_ := aM ((by rw [hg]; exact Nat.ne_of_lt (bL (g := b220) (o := .cells #[.int .u32 ((rd_T32 l0 t218).f0), .int .i32 ((rd_T32 l0 t218).f1), .int .i32 ((rd_T32 l0 t218).f2.f0), .int .i32 ((rd_T32 l0 t218).f2.f1), .int .i32 ((rd_T32 l0 t218).f3), .int .i32 ((rd_T32 l0 t218).f4), .int .i32 ((rd_T32 l0 t218).f5.f0), .int .i32 ((rd_T32 l0 t218).f5.f1), .int .i32 ((rd_T32 l0 t218).f6.f0), .int .i32 ((rd_T32 l0 t218).f6.f1)] 32 (0, 0)) (by (with_reducible repeat first | apply bN | apply bD | apply bA); refine bP (cs := #[.int .u32 ((rd_T32 l0 t218).f0), .int .i32 ((rd_T32 l0 t218).f1), .int .i32 ((rd_T32 l0 t218).f2.f0), .int .i32 ((rd_T32 l0 t218).f2.f1), .int .i32 ((rd_T32 l0 t218).f3), .int .i32 ((rd_T32 l0 t218).f4), .int .i32 ((rd_T32 l0 t218).f5.f0), .int .i32 ((rd_T32 l0 t218).f5.f1), .int .i32 ((rd_T32 l0 t218).f6.f0), .int .i32 0]) ?_ 9 _ rfl; (with_reducible repeat first | apply bN | apply bD | apply bA); refine bP (cs := #[.int .u32 ((rd_T32 l0 t218).f0), .int .i32 ((rd_T32 l0 t218).f1), .int .i32 ((rd_T32 l0 t218).f2.f0), .int .i32 ((rd_T32 l0 t218).f2.f1), .int .i32 ((rd_T32 l0 t218).f3), .int .i32 ((rd_T32 l0 t218).f4), .int .i32 ((rd_T32 l0 t218).f5.f0), .int .i32 ((rd_T32 l0 t218).f5.f1), .int .i32 0, .int .i32 0]) ?_ 8 _ rfl; (with_reducible repeat first | apply bN | apply bD | apply bA); refine bP (cs := #[.int .u32 ((rd_T32 l0 t218).f0), .int .i32 ((rd_T32 l0 t218).f1), .int .i32 ((rd_T32 l0 t218).f2.f0), .int .i32 ((rd_T32 l0 t218).f2.f1), .int .i32 ((rd_T32 l0 t218).f3), .int .i32 ((rd_T32 l0 t218).f4), .int .i32 ((rd_T32 l0 t218).f5.f0), .int .i32 0, .int .i32 0, .int .i32 0]) ?_ 7 _ rfl; (with_reducible repeat first | apply bN | apply bD | apply bA); refine bP (cs := #[.int .u32 ((rd_T32 l0 t218).f0), .int .i32 ((rd_T32 l0 t218).f1), .int .i32 ((rd_T32 l0 t218).f2.f0), .int .i32 ((rd_T32 l0 t218).f2.f1), .int .i32 ((rd_T32 l0 t218).f3), .int .i32 ((rd_T32 l0 t218).f4), .int .i32 0, .int .i32 0, .int .i32 0, .int .i32 0]) ?_ 6 _ rfl; (with_reducible repeat first | apply bN | apply bD | apply bA); refine bP (cs := #[.int .u32 ((rd_T32 l0 t218).f0), .int .i32 ((rd_T32 l0 t218).f1), .int .i32 ((rd_T32 l0 t218).f2.f0), .int .i32 ((rd_T32 l0 t218).f2.f1), .int .i32 ((rd_T32 l0 t218).f3), .int .i32 0, .int .i32 0, .int .i32 0, .int .i32 0, .int .i32 0]) ?_ 5 _ rfl; (with_reducible repeat first | apply bN | apply bD | apply bA); refine bP (cs := #[.int .u32 ((rd_T32 l0 t218).f0), .int .i32 ((rd_T32 l0 t218).f1), .int .i32 ((rd_T32 l0 t218).f2.f0), .int .i32 ((rd_T32 l0 t218).f2.f1), .int .i32 0, .int .i32 0, .int .i32 0, .int .i32 0, .int .i32 0, .int .i32 0]) ?_ 4 _ rfl; (with_reducible repeat first | apply bN | apply bD | apply bA); refine bP (cs := #[.int .u32 ((rd_T32 l0 t218).f0), .int .i32 ((rd_T32 l0 t218).f1), .int .i32 ((rd_T32 l0 t218).f2.f0), .int .i32 0, .int .i32 0, .int .i32 0, .int .i32 0, .int .i32 0, .int .i32 0, .int .i32 0]) ?_ 3 _ rfl; (with_reducible repeat first | apply bN | apply bD | apply bA); refine bP (cs := #[.int .u32 ((rd_T32 l0 t218).f0), .int .i32 ((rd_T32 l0 t218).f1), .int .i32 0, .int .i32 0, .int .i32 0, .int .i32 0, .int .i32 0, .int .i32 0, .int .i32 0, .int .i32 0]) ?_ 2 _ rfl; (with_reducible repeat first | apply bN | apply bD | apply bA); refine bP (cs := #[.int .u32 ((rd_T32 l0 t218).f0), .int .i32 0, .int .i32 0, .int .i32 0, .int .i32 0, .int .i32 0, .int .i32 0, .int .i32 0, .int .i32 0, .int .i32 0]) ?_ 1 _ rfl; (with_reducible repeat first | apply bN | apply bD | apply bA); refine bP (cs := #[.int .u32 0, .int .i32 0, .int .i32 0, .int .i32 0, .int .i32 0, .int .i32 0, .int .i32 0, .int .i32 0, .int .i32 0, .int .i32 0]) ?_ 0 _ rfl; (with_reducible repeat first | apply bN | apply bD | apply bA); exact BK220.out)) : b220 ≠ b223)); have n13_ := aM ((by rw [hg]; exact Nat.ne_of_gt (bL (g := b220) (o := .cells #[.int .u32 ((rd_T32 l0 t218).f0), .int .i32 ((rd_T32 l0 t218).f1), .int .i32 ((rd_T32 l0 t218).f2.f0), .int .i32 ((rd_T32 l0 t218).f2.f1), .int .i32 ((rd_T32 l0 t218).f3), .int .i32 ((rd_T32 l0 t218).f4), .int .i32 ((rd_T32 l0 t218).f5.f0), .int .i32 ((rd_T32 l0 t218).f5.f1), .int .i32 ((rd_T32 l0 t218).f6.f0), .int .i32 ((rd_T32 l0 t218).f6.f1)] 32 (0, 0)) (by (with_reducible repeat first | apply bN | apply bD | apply bA); refine bP (cs := #[.int .u32 ((rd_T32 l0 t218).f0), .int .i32 ((rd_T32 l0 t218).f1), .int .i32 ((rd_T32 l0 t218).f2.f0), .int .i32 ((rd_T32 l0 t218).f2.f1), .int .i32 ((rd_T32 l0 t218).f3), .int .i32 ((rd_T32 l0 t218).f4), .int .i32 ((rd_T32 l0 t218).f5.f0), .int .i32 ((rd_T32 l0 t218).f5.f1), .int .i32 ((rd_T32 l0 t218).f6.f0), .int .i32 0]) ?_ 9 _ rfl; (with_reducible repeat first | apply bN | apply bD | apply bA); refine bP (cs := #[.int .u32 ((rd_T32 l0 t218).f0), .int .i32 ((rd_T32 l0 t218).f1), .int .i32 ((rd_T32 l0 t218).f2.f0), .int .i32 ((rd_T32 l0 t218).f2.f1), .int .i32 ((rd_T32 l0 t218).f3), .int .i32 ((rd_T32 l0 t218).f4), .int .i32 ((rd_T32 l0 t218).f5.f0), .int .i32 ((rd_T32 l0 t218).f5.f1), .int .i32 0, .int .i32 0]) ?_ 8 _ rfl; (with_reducible repeat first | apply bN | apply bD | apply bA); refine bP (cs := #[.int .u32 ((rd_T32 l0 t218).f0), .int .i32 ((rd_T32 l0 t218).f1), .int .i32 ((rd_T32 l0 t218).f2.f0), .int .i32 ((rd_T32 l0 t218).f2.f1), .int .i32 ((rd_T32 l0 t218).f3), .int .i32 ((rd_T32 l0 t218).f4), .int .i32 ((rd_T32 l0 t218).f5.f0), .int .i32 0, .int .i32 0, .int .i32 0]) ?_ 7 _ rfl; (with_reducible repeat first | apply bN | apply bD | apply bA); refine bP (cs := #[.int .u32 ((rd_T32 l0 t218).f0), .int .i32 ((rd_T32 l0 t218).f1), .int .i32 ((rd_T32 l0 t218).f2.f0), .int .i32 ((rd_T32 l0 t218).f2.f1), .int .i32 ((rd_T32 l0 t218).f3), .int .i32 ((rd_T32 l0 t218).f4), .int .i32 0, .int .i32 0, .int .i32 0, .int .i32 0]) ?_ 6 _ rfl; (with_reducible repeat first | apply bN | apply bD | apply bA); refine bP (cs := #[.int .u32 ((rd_T32 l0 t218).f0), .int .i32 ((rd_T32 l0 t218).f1), .int .i32 ((rd_T32 l0 t218).f2.f0), .int .i32 ((rd_T32 l0 t218).f2.f1), .int .i32 ((rd_T32 l0 t218).f3), .int .i32 0, .int .i32 0, .int .i32 0, .int .i32 0, .int .i32 0]) ?_ 5 _ rfl; (with_reducible repeat first | apply bN | apply bD | apply bA); refine bP (cs := #[.int .u32 ((rd_T32 l0 t218).f0), .int .i32 ((rd_T32 l0 t218).f1), .int .i32 ((rd_T32 l0 t218).f2.f0), .int .i32 ((rd_T32 l0 t218).f2.f1), .int .i32 0, .int .i32 0, .int .i32 0, .int .i32 0, .int .i32 0, .int .i32 0]) ?_ 4 _ rfl; (with_reducible repeat first | apply bN | apply bD | apply bA); refine bP (cs := #[.int .u32 ((rd_T32 l0 t218).f0), .int .i32 ((rd_T32 l0 t218).f1), .int .i32 ((rd_T32 l0 t218).f2.f0), .int .i32 0, .int .i32 0, .int .i32 0, .int .i32 0, .int .i32 0, .int .i32 0, .int .i32 0]) ?_ 3 _ rfl; (with_reducible repeat first | apply bN | apply bD | apply bA); refine bP (cs := #[.int .u32 ((rd_T32 l0 t218).f0), .int .i32 ((rd_T32 l0 t218).f1), .int .i32 0, .int .i32 0, .int .i32 0, .int .i32 0, .int .i32 0, .int .i32 0, .int .i32 0, .int .i32 0]) ?_ 2 _ rfl; (with_reducible repeat first | apply bN | apply bD | apply bA); refine bP (cs := #[.int .u32 ((rd_T32 l0 t218).f0), .int .i32 0, .int .i32 0, .int .i32 0, .int .i32 0, .int .i32 0, .int .i32 0, .int .i32 0, .int .i32 0, .int .i32 0]) ?_ 1 _ rfl; (with_reducible repeat first | apply bN | apply bD | apply bA); refine bP (cs := #[.int .u32 0, .int .i32 0, .int .i32 0, .int .i32 0, .int .i32 0, .int .i32 0, .int .i32 0, .int .i32 0, .int .i32 0, .int .i32 0]) ?_ 0 _ rfl; (with_reducible repeat first | apply bN | apply bD | apply bA); exact BK220.out)) : b223 ≠ b220)); clear HO_5; clear BK210; clear BK215; clear BK220; clear HB; have HO_5 := n0_; have BK210 := n1_; have BK215 := n2_; have BK220 := n3_; have HB := n4_; have BK223 := n5_; have GW223 := n6_; have GE223 := n7_; have N6_ := n8_; have N7_ := n9_; have N8_ := n10_; have N9_ := n11_; have N10_ := n12_; have N11_ := n13_; clear n0_ n1_ n2_ n3_ n4_ n5_ n6_ n7_ n8_ n9_ n10_ n11_ n12_ n13_; clear hb hbox hg; have hnb57 := N7_.out; have hnc57 := N6_.out; have hnb58 := N9_.out; have hnc58 := N8_.out; have hnb59 := N11_.out; have hnc59 := N10_.out; have hcz60_0 : w56.cell? ⟨b223, 0, none⟩ = some (.int .u32 0) := (bC BK223.out 0).trans rfl; have hcz60_1 : w56.cell? ⟨b223, 1, none⟩ = some (.int .i32 0) := (bC BK223.out 1).trans rfl; have hcz60_2 : w56.cell? ⟨b223, 2, none⟩ = some (.int .i32 0) := (bC BK223.out 2).trans rfl; have hcz60_3 : w56.cell? ⟨b223, 3, none⟩ = some (.int .i32 0) := (bC BK223.out 3).trans rfl; have hcz60_4 : w56.cell? ⟨b223, 4, none⟩ = some (.int .i32 0) := (bC BK223.out 4).trans rfl; have hcz60_5 : w56.cell? ⟨b223, 5, none⟩ = some (.int .i32 0) := (bC BK223.out 5).trans rfl; have hcz60_6 : w56.cell? ⟨b223, 6, none⟩ = some (.int .i32 0) := (bC BK223.out 6).trans rfl; have hcz60_7 : w56.cell? ⟨b223, 7, none⟩ = some (.int .i32 0) := (bC BK223.out 7).trans rfl; have hcz60_8 : w56.cell? ⟨b223, 8, none⟩ = some (.int .i32 0) := (bC BK223.out 8).trans rfl; have hcz60_9 : w56.cell? ⟨b223, 9, none⟩ = some (.int .i32 0) := (bC BK223.out 9).trans rfl; have hfz60_0 := bF BK223.out 0; have hfz60_1 := bF BK223.out 1; have hfz60_2 := bF BK223.out 2; have hfz60_3 := bF BK223.out 3; have hfz60_4 := bF BK223.out 4; have hfz60_5 := bF BK223.out 5; have hfz60_6 := bF BK223.out 6; have hfz60_7 := bF BK223.out 7; have hfz60_8 := bF BK223.out 8; have hfz60_9 := bF BK223.out 9))
                  have n0_ : Aside0 (Kd.R k53 53 ((((((((((w56.setCell ⟨b223, 0, none⟩ (.int .u32 ((rd_T32 l0 t221).f0))).setCell ⟨b223, 1, none⟩ (.int .i32 ((rd_T32 l0 t221).f1))).setCell ⟨b223, 2, none⟩ (.int .i32 ((rd_T32 l0 t221).f2.f0))).setCell ⟨b223, 3, none⟩ (.int .i32 ((rd_T32 l0 t221).f2.f1))).setCell ⟨b223, 4, none⟩ (.int .i32 ((rd_T32 l0 t221).f3))).setCell ⟨b223, 5, none⟩ (.int .i32 ((rd_T32 l0 t221).f4))).setCell ⟨b223, 6, none⟩ (.int .i32 ((rd_T32 l0 t221).f5.f0))).setCell ⟨b223, 7, none⟩ (.int .i32 ((rd_T32 l0 t221).f5.f1))).setCell ⟨b223, 8, none⟩ (.int .i32 ((rd_T32 l0 t221).f6.f0))).setCell ⟨b223, 9, none⟩ (.int .i32 ((rd_T32 l0 t221).f6.f1))) w.heap.size (fun k_ => k_ ≠ b210) u5 x5_1) := ⟨by (with_reducible repeat (first | apply Kd.R_alloc | apply Kd.R_drewN | apply Kd.R_drew)); exact Kd.R_mono (Kd.R_far (p := ⟨b223, 9, none⟩) (Kd.R_far (p := ⟨b223, 8, none⟩) (Kd.R_far (p := ⟨b223, 7, none⟩) (Kd.R_far (p := ⟨b223, 6, none⟩) (Kd.R_far (p := ⟨b223, 5, none⟩) (Kd.R_far (p := ⟨b223, 4, none⟩) (Kd.R_far (p := ⟨b223, 3, none⟩) (Kd.R_far (p := ⟨b223, 2, none⟩) (Kd.R_far (p := ⟨b223, 1, none⟩) (Kd.R_far (p := ⟨b223, 0, none⟩) (Kd.R_types HO_5.out BK223.out (by decide)) (fun _ hk => hk.2) (.int .u32 ((rd_T32 l0 t221).f0))) (fun _ hk => hk.2) (.int .i32 ((rd_T32 l0 t221).f1))) (fun _ hk => hk.2) (.int .i32 ((rd_T32 l0 t221).f2.f0))) (fun _ hk => hk.2) (.int .i32 ((rd_T32 l0 t221).f2.f1))) (fun _ hk => hk.2) (.int .i32 ((rd_T32 l0 t221).f3))) (fun _ hk => hk.2) (.int .i32 ((rd_T32 l0 t221).f4))) (fun _ hk => hk.2) (.int .i32 ((rd_T32 l0 t221).f5.f0))) (fun _ hk => hk.2) (.int .i32 ((rd_T32 l0 t221).f5.f1))) (fun _ hk => hk.2) (.int .i32 ((rd_T32 l0 t221).f6.f0))) (fun _ hk => hk.2) (.int .i32 ((rd_T32 l0 t221).f6.f1))) (fun _ hk => hk.1)⟩
                  have n1_ : Aside0 (((((((((((w56.setCell ⟨b223, 0, none⟩ (.int .u32 ((rd_T32 l0 t221).f0))).setCell ⟨b223, 1, none⟩ (.int .i32 ((rd_T32 l0 t221).f1))).setCell ⟨b223, 2, none⟩ (.int .i32 ((rd_T32 l0 t221).f2.f0))).setCell ⟨b223, 3, none⟩ (.int .i32 ((rd_T32 l0 t221).f2.f1))).setCell ⟨b223, 4, none⟩ (.int .i32 ((rd_T32 l0 t221).f3))).setCell ⟨b223, 5, none⟩ (.int .i32 ((rd_T32 l0 t221).f4))).setCell ⟨b223, 6, none⟩ (.int .i32 ((rd_T32 l0 t221).f5.f0))).setCell ⟨b223, 7, none⟩ (.int .i32 ((rd_T32 l0 t221).f5.f1))).setCell ⟨b223, 8, none⟩ (.int .i32 ((rd_T32 l0 t221).f6.f0))).setCell ⟨b223, 9, none⟩ (.int .i32 ((rd_T32 l0 t221).f6.f1))).heap[b210]? = some (.cells #[.int .i64 x211000_2, .int .i64 x211001_2] 53 (0, 0))) := ⟨by (with_reducible repeat first | apply bN | apply bD | apply bA); refine bR ?_ N6_.out _; (with_reducible repeat first | apply bN | apply bD | apply bA); refine bR ?_ N6_.out _; (with_reducible repeat first | apply bN | apply bD | apply bA); refine bR ?_ N6_.out _; (with_reducible repeat first | apply bN | apply bD | apply bA); refine bR ?_ N6_.out _; (with_reducible repeat first | apply bN | apply bD | apply bA); refine bR ?_ N6_.out _; (with_reducible repeat first | apply bN | apply bD | apply bA); refine bR ?_ N6_.out _; (with_reducible repeat first | apply bN | apply bD | apply bA); refine bR ?_ N6_.out _; (with_reducible repeat first | apply bN | apply bD | apply bA); refine bR ?_ N6_.out _; (with_reducible repeat first | apply bN | apply bD | apply bA); refine bR ?_ N6_.out _; (with_reducible repeat first | apply bN | apply bD | apply bA); refine bR ?_ N6_.out _; (with_reducible repeat first | apply bN | apply bD | apply bA); exact BK210.out⟩
                  have n2_ : Aside0 (((((((((((w56.setCell ⟨b223, 0, none⟩ (.int .u32 ((rd_T32 l0 t221).f0))).setCell ⟨b223, 1, none⟩ (.int .i32 ((rd_T32 l0 t221).f1))).setCell ⟨b223, 2, none⟩ (.int .i32 ((rd_T32 l0 t221).f2.f0))).setCell ⟨b223, 3, none⟩ (.int .i32 ((rd_T32 l0 t221).f2.f1))).setCell ⟨b223, 4, none⟩ (.int .i32 ((rd_T32 l0 t221).f3))).setCell ⟨b223, 5, none⟩ (.int .i32 ((rd_T32 l0 t221).f4))).setCell ⟨b223, 6, none⟩ (.int .i32 ((rd_T32 l0 t221).f5.f0))).setCell ⟨b223, 7, none⟩ (.int .i32 ((rd_T32 l0 t221).f5.f1))).setCell ⟨b223, 8, none⟩ (.int .i32 ((rd_T32 l0 t221).f6.f0))).setCell ⟨b223, 9, none⟩ (.int .i32 ((rd_T32 l0 t221).f6.f1))).heap[b215]? = some (.cells #[.int .u32 ((rd_T37 l1 x8_2).f0.f0), .int .u32 ((rd_T37 l1 x8_2).f0.f1), .int .i32 ((rd_T37 l1 x8_2).f1.f0), .int .i32 ((rd_T37 l1 x8_2).f1.f1), .int .i32 ((rd_T37 l1 x8_2).f2)] 37 (0, 0))) := ⟨by (with_reducible repeat first | apply bN | apply bD | apply bA); refine bR ?_ N8_.out _; (with_reducible repeat first | apply bN | apply bD | apply bA); refine bR ?_ N8_.out _; (with_reducible repeat first | apply bN | apply bD | apply bA); refine bR ?_ N8_.out _; (with_reducible repeat first | apply bN | apply bD | apply bA); refine bR ?_ N8_.out _; (with_reducible repeat first | apply bN | apply bD | apply bA); refine bR ?_ N8_.out _; (with_reducible repeat first | apply bN | apply bD | apply bA); refine bR ?_ N8_.out _; (with_reducible repeat first | apply bN | apply bD | apply bA); refine bR ?_ N8_.out _; (with_reducible repeat first | apply bN | apply bD | apply bA); refine bR ?_ N8_.out _; (with_reducible repeat first | apply bN | apply bD | apply bA); refine bR ?_ N8_.out _; (with_reducible repeat first | apply bN | apply bD | apply bA); refine bR ?_ N8_.out _; (with_reducible repeat first | apply bN | apply bD | apply bA); exact BK215.out⟩
                  have n3_ : Aside0 (((((((((((w56.setCell ⟨b223, 0, none⟩ (.int .u32 ((rd_T32 l0 t221).f0))).setCell ⟨b223, 1, none⟩ (.int .i32 ((rd_T32 l0 t221).f1))).setCell ⟨b223, 2, none⟩ (.int .i32 ((rd_T32 l0 t221).f2.f0))).setCell ⟨b223, 3, none⟩ (.int .i32 ((rd_T32 l0 t221).f2.f1))).setCell ⟨b223, 4, none⟩ (.int .i32 ((rd_T32 l0 t221).f3))).setCell ⟨b223, 5, none⟩ (.int .i32 ((rd_T32 l0 t221).f4))).setCell ⟨b223, 6, none⟩ (.int .i32 ((rd_T32 l0 t221).f5.f0))).setCell ⟨b223, 7, none⟩ (.int .i32 ((rd_T32 l0 t221).f5.f1))).setCell ⟨b223, 8, none⟩ (.int .i32 ((rd_T32 l0 t221).f6.f0))).setCell ⟨b223, 9, none⟩ (.int .i32 ((rd_T32 l0 t221).f6.f1))).heap[b220]? = some (.cells #[.int .u32 ((rd_T32 l0 t218).f0), .int .i32 ((rd_T32 l0 t218).f1), .int .i32 ((rd_T32 l0 t218).f2.f0), .int .i32 ((rd_T32 l0 t218).f2.f1), .int .i32 ((rd_T32 l0 t218).f3), .int .i32 ((rd_T32 l0 t218).f4), .int .i32 ((rd_T32 l0 t218).f5.f0), .int .i32 ((rd_T32 l0 t218).f5.f1), .int .i32 ((rd_T32 l0 t218).f6.f0), .int .i32 ((rd_T32 l0 t218).f6.f1)] 32 (0, 0))) := ⟨by (with_reducible repeat first | apply bN | apply bD | apply bA); refine bR ?_ N10_.out _; (with_reducible repeat first | apply bN | apply bD | apply bA); refine bR ?_ N10_.out _; (with_reducible repeat first | apply bN | apply bD | apply bA); refine bR ?_ N10_.out _; (with_reducible repeat first | apply bN | apply bD | apply bA); refine bR ?_ N10_.out _; (with_reducible repeat first | apply bN | apply bD | apply bA); refine bR ?_ N10_.out _; (with_reducible repeat first | apply bN | apply bD | apply bA); refine bR ?_ N10_.out _; (with_reducible repeat first | apply bN | apply bD | apply bA); refine bR ?_ N10_.out _; (with_reducible repeat first | apply bN | apply bD | apply bA); refine bR ?_ N10_.out _; (with_reducible repeat first | apply bN | apply bD | apply bA); refine bR ?_ N10_.out _; (with_reducible repeat first | apply bN | apply bD | apply bA); refine bR ?_ N10_.out _; (with_reducible repeat first | apply bN | apply bD | apply bA); exact BK220.out⟩
                  have n4_ : Aside0 (((((((((((w56.setCell ⟨b223, 0, none⟩ (.int .u32 ((rd_T32 l0 t221).f0))).setCell ⟨b223, 1, none⟩ (.int .i32 ((rd_T32 l0 t221).f1))).setCell ⟨b223, 2, none⟩ (.int .i32 ((rd_T32 l0 t221).f2.f0))).setCell ⟨b223, 3, none⟩ (.int .i32 ((rd_T32 l0 t221).f2.f1))).setCell ⟨b223, 4, none⟩ (.int .i32 ((rd_T32 l0 t221).f3))).setCell ⟨b223, 5, none⟩ (.int .i32 ((rd_T32 l0 t221).f4))).setCell ⟨b223, 6, none⟩ (.int .i32 ((rd_T32 l0 t221).f5.f0))).setCell ⟨b223, 7, none⟩ (.int .i32 ((rd_T32 l0 t221).f5.f1))).setCell ⟨b223, 8, none⟩ (.int .i32 ((rd_T32 l0 t221).f6.f0))).setCell ⟨b223, 9, none⟩ (.int .i32 ((rd_T32 l0 t221).f6.f1))).heap[b223]? = some (.cells #[.int .u32 ((rd_T32 l0 t221).f0), .int .i32 ((rd_T32 l0 t221).f1), .int .i32 ((rd_T32 l0 t221).f2.f0), .int .i32 ((rd_T32 l0 t221).f2.f1), .int .i32 ((rd_T32 l0 t221).f3), .int .i32 ((rd_T32 l0 t221).f4), .int .i32 ((rd_T32 l0 t221).f5.f0), .int .i32 ((rd_T32 l0 t221).f5.f1), .int .i32 ((rd_T32 l0 t221).f6.f0), .int .i32 ((rd_T32 l0 t221).f6.f1)] 32 (0, 0))) := ⟨by (with_reducible repeat first | apply bN | apply bD | apply bA); refine bP (cs := #[.int .u32 ((rd_T32 l0 t221).f0), .int .i32 ((rd_T32 l0 t221).f1), .int .i32 ((rd_T32 l0 t221).f2.f0), .int .i32 ((rd_T32 l0 t221).f2.f1), .int .i32 ((rd_T32 l0 t221).f3), .int .i32 ((rd_T32 l0 t221).f4), .int .i32 ((rd_T32 l0 t221).f5.f0), .int .i32 ((rd_T32 l0 t221).f5.f1), .int .i32 ((rd_T32 l0 t221).f6.f0), .int .i32 0]) ?_ 9 _ rfl; (with_reducible repeat first | apply bN | apply bD | apply bA); refine bP (cs := #[.int .u32 ((rd_T32 l0 t221).f0), .int .i32 ((rd_T32 l0 t221).f1), .int .i32 ((rd_T32 l0 t221).f2.f0), .int .i32 ((rd_T32 l0 t221).f2.f1), .int .i32 ((rd_T32 l0 t221).f3), .int .i32 ((rd_T32 l0 t221).f4), .int .i32 ((rd_T32 l0 t221).f5.f0), .int .i32 ((rd_T32 l0 t221).f5.f1), .int .i32 0, .int .i32 0]) ?_ 8 _ rfl; (with_reducible repeat first | apply bN | apply bD | apply bA); refine bP (cs := #[.int .u32 ((rd_T32 l0 t221).f0), .int .i32 ((rd_T32 l0 t221).f1), .int .i32 ((rd_T32 l0 t221).f2.f0), .int .i32 ((rd_T32 l0 t221).f2.f1), .int .i32 ((rd_T32 l0 t221).f3), .int .i32 ((rd_T32 l0 t221).f4), .int .i32 ((rd_T32 l0 t221).f5.f0), .int .i32 0, .int .i32 0, .int .i32 0]) ?_ 7 _ rfl; (with_reducible repeat first | apply bN | apply bD | apply bA); refine bP (cs := #[.int .u32 ((rd_T32 l0 t221).f0), .int .i32 ((rd_T32 l0 t221).f1), .int .i32 ((rd_T32 l0 t221).f2.f0), .int .i32 ((rd_T32 l0 t221).f2.f1), .int .i32 ((rd_T32 l0 t221).f3), .int .i32 ((rd_T32 l0 t221).f4), .int .i32 0, .int .i32 0, .int .i32 0, .int .i32 0]) ?_ 6 _ rfl; (with_reducible repeat first | apply bN | apply bD | apply bA); refine bP (cs := #[.int .u32 ((rd_T32 l0 t221).f0), .int .i32 ((rd_T32 l0 t221).f1), .int .i32 ((rd_T32 l0 t221).f2.f0), .int .i32 ((rd_T32 l0 t221).f2.f1), .int .i32 ((rd_T32 l0 t221).f3), .int .i32 0, .int .i32 0, .int .i32 0, .int .i32 0, .int .i32 0]) ?_ 5 _ rfl; (with_reducible repeat first | apply bN | apply bD | apply bA); refine bP (cs := #[.int .u32 ((rd_T32 l0 t221).f0), .int .i32 ((rd_T32 l0 t221).f1), .int .i32 ((rd_T32 l0 t221).f2.f0), .int .i32 ((rd_T32 l0 t221).f2.f1), .int .i32 0, .int .i32 0, .int .i32 0, .int .i32 0, .int .i32 0, .int .i32 0]) ?_ 4 _ rfl; (with_reducible repeat first | apply bN | apply bD | apply bA); refine bP (cs := #[.int .u32 ((rd_T32 l0 t221).f0), .int .i32 ((rd_T32 l0 t221).f1), .int .i32 ((rd_T32 l0 t221).f2.f0), .int .i32 0, .int .i32 0, .int .i32 0, .int .i32 0, .int .i32 0, .int .i32 0, .int .i32 0]) ?_ 3 _ rfl; (with_reducible repeat first | apply bN | apply bD | apply bA); refine bP (cs := #[.int .u32 ((rd_T32 l0 t221).f0), .int .i32 ((rd_T32 l0 t221).f1), .int .i32 0, .int .i32 0, .int .i32 0, .int .i32 0, .int .i32 0, .int .i32 0, .int .i32 0, .int .i32 0]) ?_ 2 _ rfl; (with_reducible repeat first | apply bN | apply bD | apply bA); refine bP (cs := #[.int .u32 ((rd_T32 l0 t221).f0), .int .i32 0, .int .i32 0, .int .i32 0, .int .i32 0, .int .i32 0, .int .i32 0, .int .i32 0, .int .i32 0, .int .i32 0]) ?_ 1 _ rfl; (with_reducible repeat first | apply bN | apply bD | apply bA); refine bP (cs := #[.int .u32 0, .int .i32 0, .int .i32 0, .int .i32 0, .int .i32 0, .int .i32 0, .int .i32 0, .int .i32 0, .int .i32 0, .int .i32 0]) ?_ 0 _ rfl; (with_reducible repeat first | apply bN | apply bD | apply bA); exact BK223.out⟩
                  have n5_ : Aside0 (Below w.heap.size w ((((((((((w56.setCell ⟨b223, 0, none⟩ (.int .u32 ((rd_T32 l0 t221).f0))).setCell ⟨b223, 1, none⟩ (.int .i32 ((rd_T32 l0 t221).f1))).setCell ⟨b223, 2, none⟩ (.int .i32 ((rd_T32 l0 t221).f2.f0))).setCell ⟨b223, 3, none⟩ (.int .i32 ((rd_T32 l0 t221).f2.f1))).setCell ⟨b223, 4, none⟩ (.int .i32 ((rd_T32 l0 t221).f3))).setCell ⟨b223, 5, none⟩ (.int .i32 ((rd_T32 l0 t221).f4))).setCell ⟨b223, 6, none⟩ (.int .i32 ((rd_T32 l0 t221).f5.f0))).setCell ⟨b223, 7, none⟩ (.int .i32 ((rd_T32 l0 t221).f5.f1))).setCell ⟨b223, 8, none⟩ (.int .i32 ((rd_T32 l0 t221).f6.f0))).setCell ⟨b223, 9, none⟩ (.int .i32 ((rd_T32 l0 t221).f6.f1)))) := ⟨by repeat (first | (with_reducible first | exact HB.out | apply lA | apply lN | apply lD | refine lS ?_ GE210.out | refine lS ?_ GE215.out | refine lS ?_ GE220.out | refine lS ?_ GE223.out) | exact HB.out)⟩
                  (try clear HO_5)
                  (try clear BK210)
                  (try clear BK215)
                  (try clear BK220)
                  (try clear BK223)
                  (try clear HB)
                  generalize ((((((((((w56.setCell ⟨b223, 0, none⟩ (.int .u32 ((rd_T32 l0 t221).f0))).setCell ⟨b223, 1, none⟩ (.int .i32 ((rd_T32 l0 t221).f1))).setCell ⟨b223, 2, none⟩ (.int .i32 ((rd_T32 l0 t221).f2.f0))).setCell ⟨b223, 3, none⟩ (.int .i32 ((rd_T32 l0 t221).f2.f1))).setCell ⟨b223, 4, none⟩ (.int .i32 ((rd_T32 l0 t221).f3))).setCell ⟨b223, 5, none⟩ (.int .i32 ((rd_T32 l0 t221).f4))).setCell ⟨b223, 6, none⟩ (.int .i32 ((rd_T32 l0 t221).f5.f0))).setCell ⟨b223, 7, none⟩ (.int .i32 ((rd_T32 l0 t221).f5.f1))).setCell ⟨b223, 8, none⟩ (.int .i32 ((rd_T32 l0 t221).f6.f0))).setCell ⟨b223, 9, none⟩ (.int .i32 ((rd_T32 l0 t221).f6.f1))) = w61 at n0_ n1_ n2_ n3_ n4_ n5_ ⊢
                  have HO_5 := n0_
                  have BK210 := n1_
                  have BK215 := n2_
                  have BK220 := n3_
                  have BK223 := n4_
                  have HB := n5_
                  clear n0_ n1_ n2_ n3_ n4_ n5_
                  have n0_ := aM (Kd.R_drew HO_5.out)
                  have n1_ := aM (bD BK210.out)
                  have n2_ := aM (bD BK215.out)
                  have n3_ := aM (bD BK220.out)
                  have n4_ := aM (bD BK223.out)
                  have n5_ := aM (lD HB.out)
                  clear HO_5
                  clear BK210
                  clear BK215
                  clear BK220
                  clear BK223
                  clear HB
                  have HO_5 := n0_
                  have BK210 := n1_
                  have BK215 := n2_
                  have BK220 := n3_
                  have BK223 := n4_
                  have HB := n5_
                  clear n0_ n1_ n2_ n3_ n4_ n5_
                  have p224 : 0 ≤ (x6_1 : Int) := of_decide_eq_true (by first | (with_reducible assumption) | assumption)
                  have q224 : x6_1 < (l0.length : Int) := of_decide_eq_true (by first | (with_reducible assumption) | assumption)
                  obtain ⟨ad224, e224, hx224_0, hx224_1, hx224_2, hx224_3, hx224_4, hx224_5, hx224_6, hx224_7, hx224_8, hx224_9⟩ := at_T32 HR0.out x6_1 p224 q224
                  have hw224_9 := hx224_9
                  have hw224_8 := hx224_8
                  have hw224_7 := hx224_7
                  have hw224_6 := hx224_6
                  have hw224_5 := hx224_5
                  have hw224_4 := hx224_4
                  have hw224_3 := hx224_3
                  have hw224_2 := hx224_2
                  have hw224_1 := hx224_1
                  have hw224_0 := hx224_0
                  obtain rfl : ad219 = ad224 := (by injection e224)
                  replace hx224_0 := (HB.out.cell (World.block_lt_of_cell? w _ hx224_0)).trans hx224_0
                  replace hx224_1 := (HB.out.cell (World.block_lt_of_cell? w _ hx224_1)).trans hx224_1
                  replace hx224_2 := (HB.out.cell (World.block_lt_of_cell? w _ hx224_2)).trans hx224_2
                  replace hx224_3 := (HB.out.cell (World.block_lt_of_cell? w _ hx224_3)).trans hx224_3
                  replace hx224_4 := (HB.out.cell (World.block_lt_of_cell? w _ hx224_4)).trans hx224_4
                  replace hx224_5 := (HB.out.cell (World.block_lt_of_cell? w _ hx224_5)).trans hx224_5
                  replace hx224_6 := (HB.out.cell (World.block_lt_of_cell? w _ hx224_6)).trans hx224_6
                  replace hx224_7 := (HB.out.cell (World.block_lt_of_cell? w _ hx224_7)).trans hx224_7
                  replace hx224_8 := (HB.out.cell (World.block_lt_of_cell? w _ hx224_8)).trans hx224_8
                  replace hx224_9 := (HB.out.cell (World.block_lt_of_cell? w _ hx224_9)).trans hx224_9
                  replace p224 := eq_true p224
                  replace q224 := eq_true q224
                  refine start_ (n := 10) (S := fun w' => w'.cell? ⟨b215, 0, none⟩ = some (.int .u32 ((rd_T37 l1 x8_2).f0.f0)) ∧ w'.cell? ⟨b215, 1, none⟩ = some (.int .u32 ((rd_T37 l1 x8_2).f0.f1)) ∧ w'.cell? ⟨b215, 2, none⟩ = some (.int .i32 ((rd_T37 l1 x8_2).f1.f0)) ∧ w'.cell? ⟨b215, 3, none⟩ = some (.int .i32 ((rd_T37 l1 x8_2).f1.f1)) ∧ w'.cell? ⟨b215, 4, none⟩ = some (.int .i32 ((rd_T37 l1 x8_2).f2)) ∧ w'.cell? ⟨b220, 0, none⟩ = some (.int .u32 ((rd_T32 l0 t218).f0)) ∧ w'.cell? ⟨b220, 1, none⟩ = some (.int .i32 ((rd_T32 l0 t218).f1)) ∧ w'.cell? ⟨b220, 2, none⟩ = some (.int .i32 ((rd_T32 l0 t218).f2.f0)) ∧ w'.cell? ⟨b220, 3, none⟩ = some (.int .i32 ((rd_T32 l0 t218).f2.f1)) ∧ w'.cell? ⟨b220, 4, none⟩ = some (.int .i32 ((rd_T32 l0 t218).f3)) ∧ w'.cell? ⟨b220, 5, none⟩ = some (.int .i32 ((rd_T32 l0 t218).f4)) ∧ w'.cell? ⟨b220, 6, none⟩ = some (.int .i32 ((rd_T32 l0 t218).f5.f0)) ∧ w'.cell? ⟨b220, 7, none⟩ = some (.int .i32 ((rd_T32 l0 t218).f5.f1)) ∧ w'.cell? ⟨b220, 8, none⟩ = some (.int .i32 ((rd_T32 l0 t218).f6.f0)) ∧ w'.cell? ⟨b220, 9, none⟩ = some (.int .i32 ((rd_T32 l0 t218).f6.f1)) ∧ w'.cell? ⟨b223, 0, none⟩ = some (.int .u32 ((rd_T32 l0 t221).f0)) ∧ w'.cell? ⟨b223, 1, none⟩ = some (.int .i32 ((rd_T32 l0 t221).f1)) ∧ w'.cell? ⟨b223, 2, none⟩ = some (.int .i32 ((rd_T32 l0 t221).f2.f0)) ∧ w'.cell? ⟨b223, 3, none⟩ = some (.int .i32 ((rd_T32 l0 t221).f2.f1)) ∧ w'.cell? ⟨b223, 4, none⟩ = some (.int .i32 ((rd_T32 l0 t221).f3)) ∧ w'.cell? ⟨b223, 5, none⟩ = some (.int .i32 ((rd_T32 l0 t221).f4)) ∧ w'.cell? ⟨b223, 6, none⟩ = some (.int .i32 ((rd_T32 l0 t221).f5.f0)) ∧ w'.cell? ⟨b223, 7, none⟩ = some (.int .i32 ((rd_T32 l0 t221).f5.f1)) ∧ w'.cell? ⟨b223, 8, none⟩ = some (.int .i32 ((rd_T32 l0 t221).f6.f0)) ∧ w'.cell? ⟨b223, 9, none⟩ = some (.int .i32 ((rd_T32 l0 t221).f6.f1)) ∧ w'.cell? (ad219.add ((x6_1).toNat * 10)) = some (.int .u32 ((rd_T32 l0 x6_1).f0)) ∧ w'.cell? ⟨(ad219.add ((x6_1).toNat * 10)).block, (ad219.add ((x6_1).toNat * 10)).off + 1, none⟩ = some (.int .i32 ((rd_T32 l0 x6_1).f1)) ∧ w'.cell? ⟨(ad219.add ((x6_1).toNat * 10)).block, (ad219.add ((x6_1).toNat * 10)).off + 2, none⟩ = some (.int .i32 ((rd_T32 l0 x6_1).f2.f0)) ∧ w'.cell? ⟨(ad219.add ((x6_1).toNat * 10)).block, (ad219.add ((x6_1).toNat * 10)).off + 3, none⟩ = some (.int .i32 ((rd_T32 l0 x6_1).f2.f1)) ∧ w'.cell? ⟨(ad219.add ((x6_1).toNat * 10)).block, (ad219.add ((x6_1).toNat * 10)).off + 4, none⟩ = some (.int .i32 ((rd_T32 l0 x6_1).f3)) ∧ w'.cell? ⟨(ad219.add ((x6_1).toNat * 10)).block, (ad219.add ((x6_1).toNat * 10)).off + 5, none⟩ = some (.int .i32 ((rd_T32 l0 x6_1).f4)) ∧ w'.cell? ⟨(ad219.add ((x6_1).toNat * 10)).block, (ad219.add ((x6_1).toNat * 10)).off + 6, none⟩ = some (.int .i32 ((rd_T32 l0 x6_1).f5.f0)) ∧ w'.cell? ⟨(ad219.add ((x6_1).toNat * 10)).block, (ad219.add ((x6_1).toNat * 10)).off + 7, none⟩ = some (.int .i32 ((rd_T32 l0 x6_1).f5.f1)) ∧ w'.cell? ⟨(ad219.add ((x6_1).toNat * 10)).block, (ad219.add ((x6_1).toNat * 10)).off + 8, none⟩ = some (.int .i32 ((rd_T32 l0 x6_1).f6.f0)) ∧ w'.cell? ⟨(ad219.add ((x6_1).toNat * 10)).block, (ad219.add ((x6_1).toNat * 10)).off + 9, none⟩ = some (.int .i32 ((rd_T32 l0 x6_1).f6.f1))) (ds := []) #[F,F,F,F,F,F,F,F,F,F] (by kernel_rfl) rfl rfl ⟨(bC BK215.out 0).trans rfl, (bC BK215.out 1).trans rfl, (bC BK215.out 2).trans rfl, (bC BK215.out 3).trans rfl, (bC BK215.out 4).trans rfl, (bC BK220.out 0).trans rfl, (bC BK220.out 1).trans rfl, (bC BK220.out 2).trans rfl, (bC BK220.out 3).trans rfl, (bC BK220.out 4).trans rfl, (bC BK220.out 5).trans rfl, (bC BK220.out 6).trans rfl, (bC BK220.out 7).trans rfl, (bC BK220.out 8).trans rfl, (bC BK220.out 9).trans rfl, (bC BK223.out 0).trans rfl, (bC BK223.out 1).trans rfl, (bC BK223.out 2).trans rfl, (bC BK223.out 3).trans rfl, (bC BK223.out 4).trans rfl, (bC BK223.out 5).trans rfl, (bC BK223.out 6).trans rfl, (bC BK223.out 7).trans rfl, (bC BK223.out 8).trans rfl, (bC BK223.out 9).trans rfl, ((HB.out.cell (World.block_lt_of_cell? w _ hw224_0)).trans hw224_0), ((HB.out.cell (World.block_lt_of_cell? w _ hw224_1)).trans hw224_1), ((HB.out.cell (World.block_lt_of_cell? w _ hw224_2)).trans hw224_2), ((HB.out.cell (World.block_lt_of_cell? w _ hw224_3)).trans hw224_3), ((HB.out.cell (World.block_lt_of_cell? w _ hw224_4)).trans hw224_4), ((HB.out.cell (World.block_lt_of_cell? w _ hw224_5)).trans hw224_5), ((HB.out.cell (World.block_lt_of_cell? w _ hw224_6)).trans hw224_6), ((HB.out.cell (World.block_lt_of_cell? w _ hw224_7)).trans hw224_7), ((HB.out.cell (World.block_lt_of_cell? w _ hw224_8)).trans hw224_8), ((HB.out.cell (World.block_lt_of_cell? w _ hw224_9)).trans hw224_9)⟩ (fun hHeld => ?_); refine with_tabW billiardref18_Shifts.tab13 billiardref18_Shifts.bits13 (fun HT_ HW_ => ?_)
                  generalize w61.drew = w62 at HO_5 BK210 BK215 BK220 BK223 HB hx224_0 hx224_1 hx224_2 hx224_3 hx224_4 hx224_5 hx224_6 hx224_7 hx224_8 hx224_9 hHeld ⊢
                  refine pure_ (i := 3) (N := some 70) (v := ?_) (a' := ?_) #[F,F,F,T,F,F,F,F,F,F] rfl rfl (any_of HT_.out (by kernel_rfl)) (fun _ _ _ h => h) (Or.inl ⟨by rfl, ?_⟩) ?_ ?_
                  rotate_left
                  ·intro w'
                   go_simp
                   with_reducible rfl
                  rotate_left
                  ·simp only [Act.put, sA, sB, sC, i64_w, i32_w]
                   rfl
                  refine pure_ (i := 4) (N := some 71) (v := ?_) (a' := ?_) #[F,F,F,T,T,F,F,F,F,F] rfl rfl (any_of HT_.out (by kernel_rfl)) (fun _ _ _ h => h) (Or.inl ⟨by rfl, ?_⟩) ?_ ?_
                  rotate_left
                  ·intro w'
                   go_simp
                   with_reducible rfl
                  rotate_left
                  ·simp only [Act.put, sA, sB, sC, i64_w, i32_w]
                   rfl
                  refine pure_ (i := 5) (N := some 72) (v := ?_) (a' := ?_) #[F,F,F,T,T,T,F,F,F,F] rfl rfl (any_of HT_.out (by kernel_rfl)) (fun _ _ _ h => h) (Or.inl ⟨by rfl, ?_⟩) ?_ ?_
                  rotate_left
                  ·intro w'
                   go_simp
                   with_reducible rfl
                  rotate_left
                  ·simp only [Act.put, sA, sB, sC, i64_w, i32_w]
                   rfl
                  refine pure_ (i := 6) (N := some 73) (v := ?_) (a' := ?_) #[F,F,F,T,T,T,T,F,F,F] rfl rfl (any_of HT_.out (by kernel_rfl)) (fun _ _ _ h => h) (Or.inl ⟨by rfl, ?_⟩) ?_ ?_
                  rotate_left
                  ·intro w'
                   go_simp
                   with_reducible rfl
                  rotate_left
                  ·simp only [Act.put, sA, sB, sC, i64_w, i32_w]
                   rfl
                  refine take_ (i := 0) (N := some 67) (v := ?_) (a' := ?_) #[T,F,F,T,T,T,T,F,F,F] rfl rfl (take_ofW HT_.out HW_.out (by kernel_rfl)) (fun _ _ _ h => h) (Or.inl ⟨by rfl, ?_⟩) hHeld ?_ ?_
                  rotate_left
                  ·rintro w' ⟨s0, s1, s2, s3, s4, s5, s6, s7, s8, s9, s10, s11, s12, s13, s14, s15, s16, s17, s18, s19, s20, s21, s22, s23, s24, s25, s26, s27, s28, s29, s30, s31, s32, s33, s34⟩
                   go_simp
                   with_reducible rfl
                  rotate_left
                  ·simp only [Act.put, sA, sB, sC, i64_w, i32_w]
                   rfl
                  refine take_ (i := 1) (N := some 68) (v := ?_) (a' := ?_) #[T,T,F,T,T,T,T,F,F,F] rfl rfl (take_ofW HT_.out HW_.out (by kernel_rfl)) (fun _ _ _ h => h) (Or.inl ⟨by rfl, ?_⟩) hHeld ?_ ?_
                  rotate_left
                  ·rintro w' ⟨s0, s1, s2, s3, s4, s5, s6, s7, s8, s9, s10, s11, s12, s13, s14, s15, s16, s17, s18, s19, s20, s21, s22, s23, s24, s25, s26, s27, s28, s29, s30, s31, s32, s33, s34⟩
                   go_simp
                   with_reducible rfl
                  rotate_left
                  ·simp only [Act.put, sA, sB, sC, i64_w, i32_w]
                   rfl
                  refine take_ (i := 2) (N := some 69) (v := ?_) (a' := ?_) #[T,T,T,T,T,T,T,F,F,F] rfl rfl (take_ofW HT_.out HW_.out (by kernel_rfl)) (fun _ _ _ h => h) (Or.inl ⟨by rfl, ?_⟩) hHeld ?_ ?_
                  rotate_left
                  ·rintro w' ⟨s0, s1, s2, s3, s4, s5, s6, s7, s8, s9, s10, s11, s12, s13, s14, s15, s16, s17, s18, s19, s20, s21, s22, s23, s24, s25, s26, s27, s28, s29, s30, s31, s32, s33, s34⟩
                   go_simp
                   with_reducible rfl
                  rotate_left
                  ·simp only [Act.put, sA, sB, sC, i64_w, i32_w]
                   rfl
                  refine take_ (i := 7) (N := some 74) (v := ?_) (a' := ?_) #[T,T,T,T,T,T,T,T,F,F] rfl rfl (take_ofW HT_.out HW_.out (by kernel_rfl)) (fun _ _ _ h => h) (Or.inl ⟨by rfl, ?_⟩) hHeld ?_ ?_
                  rotate_left
                  ·rintro w' ⟨s0, s1, s2, s3, s4, s5, s6, s7, s8, s9, s10, s11, s12, s13, s14, s15, s16, s17, s18, s19, s20, s21, s22, s23, s24, s25, s26, s27, s28, s29, s30, s31, s32, s33, s34⟩
                   go_simp
                   with_reducible rfl
                  rotate_left
                  ·simp only [Act.put, sA, sB, sC, i64_w, i32_w]
                   rfl
                  refine one_ (i := 8) (N := some 75) #[T,T,T,T,T,T,T,T,T,F] rfl rfl (one_of HT_.out (by kernel_rfl)) (by decide) (fun K hK => ?_)
                  refine goes_ Try.func13 (by kernel_rfl) rfl #[.agg #[.int .u32 ((rd_T37 l1 x8_2).f0.f0), .int .u32 ((rd_T37 l1 x8_2).f0.f1), .int .i32 ((rd_T37 l1 x8_2).f1.f0), .int .i32 ((rd_T37 l1 x8_2).f1.f1), .int .i32 ((rd_T37 l1 x8_2).f2)], .agg #[.int .u32 ((rd_T32 l0 t218).f0), .int .i32 ((rd_T32 l0 t218).f1), .int .i32 ((rd_T32 l0 t218).f2.f0), .int .i32 ((rd_T32 l0 t218).f2.f1), .int .i32 ((rd_T32 l0 t218).f3), .int .i32 ((rd_T32 l0 t218).f4), .int .i32 ((rd_T32 l0 t218).f5.f0), .int .i32 ((rd_T32 l0 t218).f5.f1), .int .i32 ((rd_T32 l0 t218).f6.f0), .int .i32 ((rd_T32 l0 t218).f6.f1)], .agg #[.int .u32 ((rd_T32 l0 t221).f0), .int .i32 ((rd_T32 l0 t221).f1), .int .i32 ((rd_T32 l0 t221).f2.f0), .int .i32 ((rd_T32 l0 t221).f2.f1), .int .i32 ((rd_T32 l0 t221).f3), .int .i32 ((rd_T32 l0 t221).f4), .int .i32 ((rd_T32 l0 t221).f5.f0), .int .i32 ((rd_T32 l0 t221).f5.f1), .int .i32 ((rd_T32 l0 t221).f6.f0), .int .i32 ((rd_T32 l0 t221).f6.f1)], .int .i32 ((rd_T32 l0 x6_1).f3)] (by rfl) rfl rfl (by (try simp only [List.map_toArray, List.map_cons, List.map_nil]); first | done | rfl | (simp only [List.length_drop, List.length_take]; rfl)) ?_
                  with_reducible refine (billiardref18_Share.calls ((rd_T37 l1 x8_2).f0.f0) ((rd_T37 l1 x8_2).f0.f1) ((rd_T37 l1 x8_2).f1.f0) ((rd_T37 l1 x8_2).f1.f1) ((rd_T37 l1 x8_2).f2) ((rd_T32 l0 t218).f0) ((rd_T32 l0 t218).f1) ((rd_T32 l0 t218).f2.f0) ((rd_T32 l0 t218).f2.f1) ((rd_T32 l0 t218).f3) ((rd_T32 l0 t218).f4) ((rd_T32 l0 t218).f5.f0) ((rd_T32 l0 t218).f5.f1) ((rd_T32 l0 t218).f6.f0) ((rd_T32 l0 t218).f6.f1) ((rd_T32 l0 t221).f0) ((rd_T32 l0 t221).f1) ((rd_T32 l0 t221).f2.f0) ((rd_T32 l0 t221).f2.f1) ((rd_T32 l0 t221).f3) ((rd_T32 l0 t221).f4) ((rd_T32 l0 t221).f5.f0) ((rd_T32 l0 t221).f5.f1) ((rd_T32 l0 t221).f6.f0) ((rd_T32 l0 t221).f6.f1) ((rd_T32 l0 x6_1).f3) t225 _ A27.out).mono ?_
                  rintro e w63 ⟨rfl, hb⟩
                  refine ⟨_, rfl, ?_⟩
                  have n0_ := aM (Kd.R_below (by (with_reducible repeat (first | apply Kd.R_alloc | apply Kd.R_drewN | apply Kd.R_drew)); exact HO_5.out) hb)
                  have n1_ := aM (bB (by (with_reducible repeat first | apply bN | apply bD | apply bA); exact BK210.out) hb)
                  have n2_ := aM (bB (by (with_reducible repeat first | apply bN | apply bD | apply bA); exact BK215.out) hb)
                  have n3_ := aM (bB (by (with_reducible repeat first | apply bN | apply bD | apply bA); exact BK220.out) hb)
                  have n4_ := aM (bB (by (with_reducible repeat first | apply bN | apply bD | apply bA); exact BK223.out) hb)
                  have n5_ := aM (lT (by repeat (first | (with_reducible first | exact HB.out | apply lA | apply lN | apply lD | refine lS ?_ GE210.out | refine lS ?_ GE215.out | refine lS ?_ GE220.out | refine lS ?_ GE223.out) | exact HB.out)) hb)
                  clear HO_5
                  clear BK210
                  clear BK215
                  clear BK220
                  clear BK223
                  clear HB
                  have HO_5 := n0_
                  have BK210 := n1_
                  have BK215 := n2_
                  have BK220 := n3_
                  have BK223 := n4_
                  have HB := n5_
                  clear n0_ n1_ n2_ n3_ n4_ n5_
                  (try clear hb)
                  (try clear hb2)
                  (try clear hk)
                  (try clear hi)
                  refine hK.out _ _ ⟨(bC BK215.out 0).trans rfl, (bC BK215.out 1).trans rfl, (bC BK215.out 2).trans rfl, (bC BK215.out 3).trans rfl, (bC BK215.out 4).trans rfl, (bC BK220.out 0).trans rfl, (bC BK220.out 1).trans rfl, (bC BK220.out 2).trans rfl, (bC BK220.out 3).trans rfl, (bC BK220.out 4).trans rfl, (bC BK220.out 5).trans rfl, (bC BK220.out 6).trans rfl, (bC BK220.out 7).trans rfl, (bC BK220.out 8).trans rfl, (bC BK220.out 9).trans rfl, (bC BK223.out 0).trans rfl, (bC BK223.out 1).trans rfl, (bC BK223.out 2).trans rfl, (bC BK223.out 3).trans rfl, (bC BK223.out 4).trans rfl, (bC BK223.out 5).trans rfl, (bC BK223.out 6).trans rfl, (bC BK223.out 7).trans rfl, (bC BK223.out 8).trans rfl, (bC BK223.out 9).trans rfl, ((HB.out.cell (World.block_lt_of_cell? w _ hw224_0)).trans hw224_0), ((HB.out.cell (World.block_lt_of_cell? w _ hw224_1)).trans hw224_1), ((HB.out.cell (World.block_lt_of_cell? w _ hw224_2)).trans hw224_2), ((HB.out.cell (World.block_lt_of_cell? w _ hw224_3)).trans hw224_3), ((HB.out.cell (World.block_lt_of_cell? w _ hw224_4)).trans hw224_4), ((HB.out.cell (World.block_lt_of_cell? w _ hw224_5)).trans hw224_5), ((HB.out.cell (World.block_lt_of_cell? w _ hw224_6)).trans hw224_6), ((HB.out.cell (World.block_lt_of_cell? w _ hw224_7)).trans hw224_7), ((HB.out.cell (World.block_lt_of_cell? w _ hw224_8)).trans hw224_8), ((HB.out.cell (World.block_lt_of_cell? w _ hw224_9)).trans hw224_9)⟩ (fun hHeld => ?_)
                  clear hK K
                  refine norm_ (a' := ?_) ?_ ?_
                  rotate_left
                  ·show Act.put _ (some 75) _ = _
                   simp only [Act.put, sA, sB, sC, i64_w, i32_w]
                   rfl
                  refine pure_ (i := 9) (N := some 12) (v := ?_) (a' := ?_) #[T,T,T,T,T,T,T,T,T,T] rfl rfl (any_of HT_.out (by kernel_rfl)) (fun _ _ _ h => h) (Or.inl ⟨by rfl, ?_⟩) ?_ ?_
                  rotate_left
                  ·intro w'
                   go_simp
                   with_reducible rfl
                  rotate_left
                  ·simp only [Act.put, sA, sB, sC, i64_w, i32_w]
                   rfl
                  refine done_ (done_of HT_.out (by kernel_rfl)) ?_
                  have hcz64_0 : w63.cell? ⟨b215, 0, none⟩ = some (.int .u32 ((rd_T37 l1 x8_2).f0.f0)) := (bC BK215.out 0).trans rfl
                  have hcz64_1 : w63.cell? ⟨b215, 1, none⟩ = some (.int .u32 ((rd_T37 l1 x8_2).f0.f1)) := (bC BK215.out 1).trans rfl
                  have hcz64_2 : w63.cell? ⟨b215, 2, none⟩ = some (.int .i32 ((rd_T37 l1 x8_2).f1.f0)) := (bC BK215.out 2).trans rfl
                  have hcz64_3 : w63.cell? ⟨b215, 3, none⟩ = some (.int .i32 ((rd_T37 l1 x8_2).f1.f1)) := (bC BK215.out 3).trans rfl
                  have hcz64_4 : w63.cell? ⟨b215, 4, none⟩ = some (.int .i32 ((rd_T37 l1 x8_2).f2)) := (bC BK215.out 4).trans rfl
                  have hfz64_0 := bF BK215.out 0
                  have hfz64_1 := bF BK215.out 1
                  have hfz64_2 := bF BK215.out 2
                  have hfz64_3 := bF BK215.out 3
                  have hfz64_4 := bF BK215.out 4
                  try go_wp2_with (first | ((with_reducible refine gate_callee (f := 21) rfl ?_); refine goesL_ (some 82) rfl rfl Try.func21 (by kernel_rfl) rfl #[.int .i64 (wrap64 (t225 * (wrap64 (((rd_T37 l1 x8_2).f1.f0))))), .int .i64 65536] rfl (by (try simp only [List.map_toArray, List.map_cons, List.map_nil]); first | done | rfl | (simp only [List.length_drop, List.length_take]; rfl)) ?_; (with_reducible refine (billiardref01_Floor.calls (wrap64 (t225 * (wrap64 (((rd_T37 l1 x8_2).f1.f0))))) 65536 t226 _ A28.out).mono ?_); rintro e w' ⟨rfl, ⟨nd, rfl⟩⟩; refine ⟨_, rfl, ?_⟩; (try (rw [drewN_self w63]; generalize hq_ : World.drewN w63 _ = w63; have n0_ : Aside0 (Kd.R k53 53 w63 w.heap.size (fun k_ => k_ ≠ b210) u5 x5_1) := ⟨by rw [← hq_]; exact (by (with_reducible repeat (first | apply Kd.R_alloc | apply Kd.R_drewN | apply Kd.R_drew)); exact HO_5.out)⟩; have n1_ : Aside0 (w63.heap[b210]? = some (.cells #[.int .i64 x211000_2, .int .i64 x211001_2] 53 (0, 0))) := ⟨by rw [← hq_]; exact (by (with_reducible repeat first | apply bN | apply bD | apply bA); exact BK210.out)⟩; have n2_ : Aside0 (w63.heap[b215]? = some (.cells #[.int .u32 ((rd_T37 l1 x8_2).f0.f0), .int .u32 ((rd_T37 l1 x8_2).f0.f1), .int .i32 ((rd_T37 l1 x8_2).f1.f0), .int .i32 ((rd_T37 l1 x8_2).f1.f1), .int .i32 ((rd_T37 l1 x8_2).f2)] 37 (0, 0))) := ⟨by rw [← hq_]; exact (by (with_reducible repeat first | apply bN | apply bD | apply bA); exact BK215.out)⟩; have n3_ : Aside0 (w63.heap[b220]? = some (.cells #[.int .u32 ((rd_T32 l0 t218).f0), .int .i32 ((rd_T32 l0 t218).f1), .int .i32 ((rd_T32 l0 t218).f2.f0), .int .i32 ((rd_T32 l0 t218).f2.f1), .int .i32 ((rd_T32 l0 t218).f3), .int .i32 ((rd_T32 l0 t218).f4), .int .i32 ((rd_T32 l0 t218).f5.f0), .int .i32 ((rd_T32 l0 t218).f5.f1), .int .i32 ((rd_T32 l0 t218).f6.f0), .int .i32 ((rd_T32 l0 t218).f6.f1)] 32 (0, 0))) := ⟨by rw [← hq_]; exact (by (with_reducible repeat first | apply bN | apply bD | apply bA); exact BK220.out)⟩; have n4_ : Aside0 (w63.heap[b223]? = some (.cells #[.int .u32 ((rd_T32 l0 t221).f0), .int .i32 ((rd_T32 l0 t221).f1), .int .i32 ((rd_T32 l0 t221).f2.f0), .int .i32 ((rd_T32 l0 t221).f2.f1), .int .i32 ((rd_T32 l0 t221).f3), .int .i32 ((rd_T32 l0 t221).f4), .int .i32 ((rd_T32 l0 t221).f5.f0), .int .i32 ((rd_T32 l0 t221).f5.f1), .int .i32 ((rd_T32 l0 t221).f6.f0), .int .i32 ((rd_T32 l0 t221).f6.f1)] 32 (0, 0))) := ⟨by rw [← hq_]; exact (by (with_reducible repeat first | apply bN | apply bD | apply bA); exact BK223.out)⟩; have n5_ : Aside0 (Below w.heap.size w w63) := ⟨by rw [← hq_]; exact (by repeat (first | (with_reducible first | exact HB.out | apply lA | apply lN | apply lD | refine lS ?_ GE210.out | refine lS ?_ GE215.out | refine lS ?_ GE220.out | refine lS ?_ GE223.out) | exact HB.out))⟩; clear HO_5 BK210 BK215 BK220 BK223 HB hq_; have HO_5 := n0_; have BK210 := n1_; have BK215 := n2_; have BK220 := n3_; have BK223 := n4_; have HB := n5_; have hcz64_0 : w63.cell? ⟨b215, 0, none⟩ = some (.int .u32 ((rd_T37 l1 x8_2).f0.f0)) := (bC BK215.out 0).trans rfl; have hcz64_1 : w63.cell? ⟨b215, 1, none⟩ = some (.int .u32 ((rd_T37 l1 x8_2).f0.f1)) := (bC BK215.out 1).trans rfl; have hcz64_2 : w63.cell? ⟨b215, 2, none⟩ = some (.int .i32 ((rd_T37 l1 x8_2).f1.f0)) := (bC BK215.out 2).trans rfl; have hcz64_3 : w63.cell? ⟨b215, 3, none⟩ = some (.int .i32 ((rd_T37 l1 x8_2).f1.f1)) := (bC BK215.out 3).trans rfl; have hcz64_4 : w63.cell? ⟨b215, 4, none⟩ = some (.int .i32 ((rd_T37 l1 x8_2).f2)) := (bC BK215.out 4).trans rfl; have hfz64_0 := bF BK215.out 0; have hfz64_1 := bF BK215.out 1; have hfz64_2 := bF BK215.out 2; have hfz64_3 := bF BK215.out 3; have hfz64_4 := bF BK215.out 4; clear n0_ n1_ n2_ n3_ n4_ n5_))) | ((with_reducible refine gate_callee (f := 21) rfl ?_); refine goesL_ (some 89) rfl rfl Try.func21 (by kernel_rfl) rfl #[.int .i64 (wrap64 (t225 * (wrap64 (((rd_T37 l1 x8_2).f1.f1))))), .int .i64 65536] rfl (by (try simp only [List.map_toArray, List.map_cons, List.map_nil]); first | done | rfl | (simp only [List.length_drop, List.length_take]; rfl)) ?_; (with_reducible refine (billiardref01_Floor.calls (wrap64 (t225 * (wrap64 (((rd_T37 l1 x8_2).f1.f1))))) 65536 t227 _ A29.out).mono ?_); rintro e w' ⟨rfl, ⟨nd, rfl⟩⟩; refine ⟨_, rfl, ?_⟩; (try (rw [drewN_self w63]; generalize hq_ : World.drewN w63 _ = w63; have n0_ : Aside0 (Kd.R k53 53 w63 w.heap.size (fun k_ => k_ ≠ b210) u5 x5_1) := ⟨by rw [← hq_]; exact (by (with_reducible repeat (first | apply Kd.R_alloc | apply Kd.R_drewN | apply Kd.R_drew)); exact HO_5.out)⟩; have n1_ : Aside0 (w63.heap[b210]? = some (.cells #[.int .i64 x211000_2, .int .i64 x211001_2] 53 (0, 0))) := ⟨by rw [← hq_]; exact (by (with_reducible repeat first | apply bN | apply bD | apply bA); exact BK210.out)⟩; have n2_ : Aside0 (w63.heap[b215]? = some (.cells #[.int .u32 ((rd_T37 l1 x8_2).f0.f0), .int .u32 ((rd_T37 l1 x8_2).f0.f1), .int .i32 ((rd_T37 l1 x8_2).f1.f0), .int .i32 ((rd_T37 l1 x8_2).f1.f1), .int .i32 ((rd_T37 l1 x8_2).f2)] 37 (0, 0))) := ⟨by rw [← hq_]; exact (by (with_reducible repeat first | apply bN | apply bD | apply bA); exact BK215.out)⟩; have n3_ : Aside0 (w63.heap[b220]? = some (.cells #[.int .u32 ((rd_T32 l0 t218).f0), .int .i32 ((rd_T32 l0 t218).f1), .int .i32 ((rd_T32 l0 t218).f2.f0), .int .i32 ((rd_T32 l0 t218).f2.f1), .int .i32 ((rd_T32 l0 t218).f3), .int .i32 ((rd_T32 l0 t218).f4), .int .i32 ((rd_T32 l0 t218).f5.f0), .int .i32 ((rd_T32 l0 t218).f5.f1), .int .i32 ((rd_T32 l0 t218).f6.f0), .int .i32 ((rd_T32 l0 t218).f6.f1)] 32 (0, 0))) := ⟨by rw [← hq_]; exact (by (with_reducible repeat first | apply bN | apply bD | apply bA); exact BK220.out)⟩; have n4_ : Aside0 (w63.heap[b223]? = some (.cells #[.int .u32 ((rd_T32 l0 t221).f0), .int .i32 ((rd_T32 l0 t221).f1), .int .i32 ((rd_T32 l0 t221).f2.f0), .int .i32 ((rd_T32 l0 t221).f2.f1), .int .i32 ((rd_T32 l0 t221).f3), .int .i32 ((rd_T32 l0 t221).f4), .int .i32 ((rd_T32 l0 t221).f5.f0), .int .i32 ((rd_T32 l0 t221).f5.f1), .int .i32 ((rd_T32 l0 t221).f6.f0), .int .i32 ((rd_T32 l0 t221).f6.f1)] 32 (0, 0))) := ⟨by rw [← hq_]; exact (by (with_reducible repeat first | apply bN | apply bD | apply bA); exact BK223.out)⟩; have n5_ : Aside0 (Below w.heap.size w w63) := ⟨by rw [← hq_]; exact (by repeat (first | (with_reducible first | exact HB.out | apply lA | apply lN | apply lD | refine lS ?_ GE210.out | refine lS ?_ GE215.out | refine lS ?_ GE220.out | refine lS ?_ GE223.out) | exact HB.out))⟩; clear HO_5 BK210 BK215 BK220 BK223 HB hq_; have HO_5 := n0_; have BK210 := n1_; have BK215 := n2_; have BK220 := n3_; have BK223 := n4_; have HB := n5_; have hcz64_0 : w63.cell? ⟨b215, 0, none⟩ = some (.int .u32 ((rd_T37 l1 x8_2).f0.f0)) := (bC BK215.out 0).trans rfl; have hcz64_1 : w63.cell? ⟨b215, 1, none⟩ = some (.int .u32 ((rd_T37 l1 x8_2).f0.f1)) := (bC BK215.out 1).trans rfl; have hcz64_2 : w63.cell? ⟨b215, 2, none⟩ = some (.int .i32 ((rd_T37 l1 x8_2).f1.f0)) := (bC BK215.out 2).trans rfl; have hcz64_3 : w63.cell? ⟨b215, 3, none⟩ = some (.int .i32 ((rd_T37 l1 x8_2).f1.f1)) := (bC BK215.out 3).trans rfl; have hcz64_4 : w63.cell? ⟨b215, 4, none⟩ = some (.int .i32 ((rd_T37 l1 x8_2).f2)) := (bC BK215.out 4).trans rfl; have hfz64_0 := bF BK215.out 0; have hfz64_1 := bF BK215.out 1; have hfz64_2 := bF BK215.out 2; have hfz64_3 := bF BK215.out 3; have hfz64_4 := bF BK215.out 4; clear n0_ n1_ n2_ n3_ n4_ n5_))))
                  have n0_ := aM (Kd.R_drew HO_5.out)
                  have n1_ := aM (bD BK210.out)
                  have n2_ := aM (bD BK215.out)
                  have n3_ := aM (bD BK220.out)
                  have n4_ := aM (bD BK223.out)
                  have n5_ := aM (lD HB.out)
                  clear HO_5
                  clear BK210
                  clear BK215
                  clear BK220
                  clear BK223
                  clear HB
                  have HO_5 := n0_
                  have BK210 := n1_
                  have BK215 := n2_
                  have BK220 := n3_
                  have BK223 := n4_
                  have HB := n5_
                  clear n0_ n1_ n2_ n3_ n4_ n5_
                  have p228 : 0 ≤ (x6_1 : Int) := of_decide_eq_true (by first | (with_reducible assumption) | assumption)
                  have q228 : x6_1 < (l0.length : Int) := of_decide_eq_true (by first | (with_reducible assumption) | assumption)
                  obtain ⟨ad228, e228, hx228_0, hx228_1, hx228_2, hx228_3, hx228_4, hx228_5, hx228_6, hx228_7, hx228_8, hx228_9⟩ := at_T32 HR0.out x6_1 p228 q228
                  have hw228_9 := hx228_9
                  have hw228_8 := hx228_8
                  have hw228_7 := hx228_7
                  have hw228_6 := hx228_6
                  have hw228_5 := hx228_5
                  have hw228_4 := hx228_4
                  have hw228_3 := hx228_3
                  have hw228_2 := hx228_2
                  have hw228_1 := hx228_1
                  have hw228_0 := hx228_0
                  obtain rfl : ad219 = ad228 := (by injection e228)
                  replace hx228_0 := (HB.out.cell (World.block_lt_of_cell? w _ hx228_0)).trans hx228_0
                  replace hx228_1 := (HB.out.cell (World.block_lt_of_cell? w _ hx228_1)).trans hx228_1
                  replace hx228_2 := (HB.out.cell (World.block_lt_of_cell? w _ hx228_2)).trans hx228_2
                  replace hx228_3 := (HB.out.cell (World.block_lt_of_cell? w _ hx228_3)).trans hx228_3
                  replace hx228_4 := (HB.out.cell (World.block_lt_of_cell? w _ hx228_4)).trans hx228_4
                  replace hx228_5 := (HB.out.cell (World.block_lt_of_cell? w _ hx228_5)).trans hx228_5
                  replace hx228_6 := (HB.out.cell (World.block_lt_of_cell? w _ hx228_6)).trans hx228_6
                  replace hx228_7 := (HB.out.cell (World.block_lt_of_cell? w _ hx228_7)).trans hx228_7
                  replace hx228_8 := (HB.out.cell (World.block_lt_of_cell? w _ hx228_8)).trans hx228_8
                  replace hx228_9 := (HB.out.cell (World.block_lt_of_cell? w _ hx228_9)).trans hx228_9
                  replace p228 := eq_true p228
                  replace q228 := eq_true q228
                  refine start_ (n := 9) (S := fun w' => w'.cell? ⟨b215, 0, none⟩ = some (.int .u32 ((rd_T37 l1 x8_2).f0.f0)) ∧ w'.cell? ⟨b215, 1, none⟩ = some (.int .u32 ((rd_T37 l1 x8_2).f0.f1)) ∧ w'.cell? ⟨b215, 2, none⟩ = some (.int .i32 ((rd_T37 l1 x8_2).f1.f0)) ∧ w'.cell? ⟨b215, 3, none⟩ = some (.int .i32 ((rd_T37 l1 x8_2).f1.f1)) ∧ w'.cell? ⟨b215, 4, none⟩ = some (.int .i32 ((rd_T37 l1 x8_2).f2)) ∧ w'.cell? (ad219.add ((x6_1).toNat * 10)) = some (.int .u32 ((rd_T32 l0 x6_1).f0)) ∧ w'.cell? ⟨(ad219.add ((x6_1).toNat * 10)).block, (ad219.add ((x6_1).toNat * 10)).off + 1, none⟩ = some (.int .i32 ((rd_T32 l0 x6_1).f1)) ∧ w'.cell? ⟨(ad219.add ((x6_1).toNat * 10)).block, (ad219.add ((x6_1).toNat * 10)).off + 2, none⟩ = some (.int .i32 ((rd_T32 l0 x6_1).f2.f0)) ∧ w'.cell? ⟨(ad219.add ((x6_1).toNat * 10)).block, (ad219.add ((x6_1).toNat * 10)).off + 3, none⟩ = some (.int .i32 ((rd_T32 l0 x6_1).f2.f1)) ∧ w'.cell? ⟨(ad219.add ((x6_1).toNat * 10)).block, (ad219.add ((x6_1).toNat * 10)).off + 4, none⟩ = some (.int .i32 ((rd_T32 l0 x6_1).f3)) ∧ w'.cell? ⟨(ad219.add ((x6_1).toNat * 10)).block, (ad219.add ((x6_1).toNat * 10)).off + 5, none⟩ = some (.int .i32 ((rd_T32 l0 x6_1).f4)) ∧ w'.cell? ⟨(ad219.add ((x6_1).toNat * 10)).block, (ad219.add ((x6_1).toNat * 10)).off + 6, none⟩ = some (.int .i32 ((rd_T32 l0 x6_1).f5.f0)) ∧ w'.cell? ⟨(ad219.add ((x6_1).toNat * 10)).block, (ad219.add ((x6_1).toNat * 10)).off + 7, none⟩ = some (.int .i32 ((rd_T32 l0 x6_1).f5.f1)) ∧ w'.cell? ⟨(ad219.add ((x6_1).toNat * 10)).block, (ad219.add ((x6_1).toNat * 10)).off + 8, none⟩ = some (.int .i32 ((rd_T32 l0 x6_1).f6.f0)) ∧ w'.cell? ⟨(ad219.add ((x6_1).toNat * 10)).block, (ad219.add ((x6_1).toNat * 10)).off + 9, none⟩ = some (.int .i32 ((rd_T32 l0 x6_1).f6.f1))) (ds := []) #[F,F,F,F,F,F,F,F,F] (by kernel_rfl) rfl rfl ⟨(bC BK215.out 0).trans rfl, (bC BK215.out 1).trans rfl, (bC BK215.out 2).trans rfl, (bC BK215.out 3).trans rfl, (bC BK215.out 4).trans rfl, ((HB.out.cell (World.block_lt_of_cell? w _ hw228_0)).trans hw228_0), ((HB.out.cell (World.block_lt_of_cell? w _ hw228_1)).trans hw228_1), ((HB.out.cell (World.block_lt_of_cell? w _ hw228_2)).trans hw228_2), ((HB.out.cell (World.block_lt_of_cell? w _ hw228_3)).trans hw228_3), ((HB.out.cell (World.block_lt_of_cell? w _ hw228_4)).trans hw228_4), ((HB.out.cell (World.block_lt_of_cell? w _ hw228_5)).trans hw228_5), ((HB.out.cell (World.block_lt_of_cell? w _ hw228_6)).trans hw228_6), ((HB.out.cell (World.block_lt_of_cell? w _ hw228_7)).trans hw228_7), ((HB.out.cell (World.block_lt_of_cell? w _ hw228_8)).trans hw228_8), ((HB.out.cell (World.block_lt_of_cell? w _ hw228_9)).trans hw228_9)⟩ (fun hHeld => ?_); refine with_tabW billiardref18_Shifts.tab16 billiardref18_Shifts.bits16 (fun HT_ HW_ => ?_)
                  generalize w63.drew = w65 at HO_5 BK210 BK215 BK220 BK223 HB hx228_0 hx228_1 hx228_2 hx228_3 hx228_4 hx228_5 hx228_6 hx228_7 hx228_8 hx228_9 hHeld ⊢
                  refine pure_ (i := 0) (N := some 90) (v := ?_) (a' := ?_) #[T,F,F,F,F,F,F,F,F] rfl rfl (any_of HT_.out (by kernel_rfl)) (fun _ _ _ h => h) (Or.inl ⟨by rfl, ?_⟩) ?_ ?_
                  rotate_left
                  ·intro w'
                   go_simp
                   with_reducible rfl
                  rotate_left
                  ·simp only [Act.put, sA, sB, sC, i64_w, i32_w]
                   rfl
                  refine pure_ (i := 1) (N := some 91) (v := ?_) (a' := ?_) #[T,T,F,F,F,F,F,F,F] rfl rfl (any_of HT_.out (by kernel_rfl)) (fun _ _ _ h => h) (Or.inl ⟨by rfl, ?_⟩) ?_ ?_
                  rotate_left
                  ·intro w'
                   go_simp
                   with_reducible rfl
                  rotate_left
                  ·simp only [Act.put, sA, sB, sC, i64_w, i32_w]
                   rfl
                  refine pure_ (i := 3) (N := some 93) (v := ?_) (a' := ?_) #[T,T,F,T,F,F,F,F,F] rfl rfl (any_of HT_.out (by kernel_rfl)) (fun _ _ _ h => h) (Or.inl ⟨by rfl, ?_⟩) ?_ ?_
                  rotate_left
                  ·intro w'
                   go_simp
                   with_reducible rfl
                  rotate_left
                  ·simp only [Act.put, sA, sB, sC, i64_w, i32_w]
                   rfl
                  refine pure_ (i := 4) (N := some 94) (v := ?_) (a' := ?_) #[T,T,F,T,T,F,F,F,F] rfl rfl (any_of HT_.out (by kernel_rfl)) (fun _ _ _ h => h) (Or.inl ⟨by rfl, ?_⟩) ?_ ?_
                  rotate_left
                  ·intro w'
                   go_simp
                   with_reducible rfl
                  rotate_left
                  ·simp only [Act.put, sA, sB, sC, i64_w, i32_w]
                   rfl
                  refine pure_ (i := 5) (N := some 95) (v := ?_) (a' := ?_) #[T,T,F,T,T,T,F,F,F] rfl rfl (any_of HT_.out (by kernel_rfl)) (fun _ _ _ h => h) (Or.inl ⟨by rfl, ?_⟩) ?_ ?_
                  rotate_left
                  ·intro w'
                   go_simp
                   with_reducible rfl
                  rotate_left
                  ·simp only [Act.put, sA, sB, sC, i64_w, i32_w]
                   rfl
                  refine pure_ (i := 6) (N := some 96) (v := ?_) (a' := ?_) #[T,T,F,T,T,T,T,F,F] rfl rfl (any_of HT_.out (by kernel_rfl)) (fun _ _ _ h => h) (Or.inl ⟨by rfl, ?_⟩) ?_ ?_
                  rotate_left
                  ·intro w'
                   go_simp
                   with_reducible rfl
                  rotate_left
                  ·simp only [Act.put, sA, sB, sC, i64_w, i32_w]
                   rfl
                  refine take_ (i := 2) (N := some 92) (v := ?_) (a' := ?_) #[T,T,T,T,T,T,T,F,F] rfl rfl (take_ofW HT_.out HW_.out (by kernel_rfl)) (fun _ _ _ h => h) (Or.inl ⟨by rfl, ?_⟩) hHeld ?_ ?_
                  rotate_left
                  ·rintro w' ⟨s0, s1, s2, s3, s4, s5, s6, s7, s8, s9, s10, s11, s12, s13, s14⟩
                   go_simp
                   with_reducible rfl
                  rotate_left
                  ·simp only [Act.put, sA, sB, sC, i64_w, i32_w]
                   rfl
                  refine take_ (i := 7) (N := some 97) (v := ?_) (a' := ?_) #[T,T,T,T,T,T,T,T,F] rfl rfl (take_ofW HT_.out HW_.out (by kernel_rfl)) (fun _ _ _ h => h) (Or.inl ⟨by rfl, ?_⟩) hHeld ?_ ?_
                  rotate_left
                  ·rintro w' ⟨s0, s1, s2, s3, s4, s5, s6, s7, s8, s9, s10, s11, s12, s13, s14⟩
                   go_simp
                   with_reducible rfl
                  rotate_left
                  ·simp only [Act.put, sA, sB, sC, i64_w, i32_w]
                   rfl
                  refine pure_ (i := 8) (N := some 98) (v := ?_) (a' := ?_) #[T,T,T,T,T,T,T,T,T] rfl rfl (any_of HT_.out (by kernel_rfl)) (fun _ _ _ h => h) (Or.inl ⟨by rfl, ?_⟩) ?_ ?_
                  rotate_left
                  ·intro w'
                   go_simp
                   with_reducible rfl
                  rotate_left
                  ·simp only [Act.put, sA, sB, sC, i64_w, i32_w]
                   rfl
                  refine done_ (done_of HT_.out (by kernel_rfl)) ?_
                  have hcz66_0 : w65.cell? ⟨b210, 0, none⟩ = some (.int .i64 x211000_2) := (bC BK210.out 0).trans rfl
                  have hcz66_1 : w65.cell? ⟨b210, 1, none⟩ = some (.int .i64 x211001_2) := (bC BK210.out 1).trans rfl
                  have hfz66_0 := bF BK210.out 0
                  have hfz66_1 := bF BK210.out 1
                  try go_wp2
                  go_roundg kj6
                  case measure => have := HK1.out; have := HK2.out; have := HJ6.out; omega
                  case rel => exact ⟨(wrap64 (x8_2 + 1)), (wrap64 (x211000_2 + t226)), (wrap64 (x211001_2 + t227)), (by first | rfl | (simp; done) | (simp [*]; done)), H', ⟨by have := HK1.out; have := HK2.out; have := HJ6.out; omega⟩, ⟨by (with_reducible repeat (first | apply Kd.R_alloc | apply Kd.R_drewN | apply Kd.R_drew)); exact Kd.R_mono (Kd.R_far (p := ⟨b210, 1, none⟩) (Kd.R_far (p := ⟨b210, 0, none⟩) (Kd.R_mono HO_5.out (fun k_ hk => (⟨hk, hk⟩ : _ ∧ k_ ≠ b210))) (fun _ hk => hk.2) (.int .i64 (wrap64 (x211000_2 + t226)))) (fun _ hk => hk.2) (.int .i64 (wrap64 (x211001_2 + t227)))) (fun _ hk => hk.1)⟩, ⟨by (with_reducible repeat first | apply bN | apply bD | apply bA); refine bP (cs := #[.int .i64 (wrap64 (x211000_2 + t226)), .int .i64 x211001_2]) ?_ 1 _ rfl; (with_reducible repeat first | apply bN | apply bD | apply bA); refine bP (cs := #[.int .i64 x211000_2, .int .i64 x211001_2]) ?_ 0 _ rfl; (with_reducible repeat first | apply bN | apply bD | apply bA); exact BK210.out⟩, ⟨by repeat (first | (with_reducible first | exact HB.out | apply lA | apply lN | apply lD | refine lS ?_ GE210.out | refine lS ?_ GE215.out | refine lS ?_ GE220.out | refine lS ?_ GE223.out) | exact HB.out)⟩⟩
                ·rw [if_neg c26] at H
                 exact absurd H (by simp)
               ·rw [if_neg c25] at H
                exact absurd H (by simp)
              ·rw [if_neg c24] at H
               exact absurd H (by simp)
             ·rw [if_neg c23] at H
              exact absurd H (by simp)
            ·rw [if_neg c21] at H
             exact absurd H (by simp)
           ·rw [if_neg c20] at H
            exact absurd H (by simp)
       ·rw [if_neg c6] at H
        exact absurd H (by simp)
      ·rw [if_neg c5] at H
       have c5b0 : decide (x8_2 < (l1.length : Int)) = false := decide_eq_false c5
       clear c5
       by_cases c67 : x5_1.length < 8796093022208
       ·rw [if_pos c67] at H
        have LMc67 := aM c67
        clear c67
        obtain ⟨y211, hy211⟩ : ∃ y_ : List (S53), y_ = (x5_1 ++ [(⟨x211000_2, x211001_2⟩ : S53)]) := ⟨_, rfl⟩
        replace H : (billiardref18_Shifts.l0 k2 l0 l1 y211 (wrap64 (x6_1 + 1))) = some r := by first | (rw [hy211]; with_reducible exact H) | (have H2_ := (Option.bind_some _ _).symm.trans H; rw [hy211]; with_reducible exact H2_) | (have H2_ := (Option.bind_some _ _).symm.trans H; with_reducible exact H2_) | with_reducible exact H | (rw [hy211]; exact H) | exact H
        have Ny211 := aM hy211
        clear hy211
        have H' := aM H
        clear H
        have hcz68_0 : wr.cell? ⟨b210, 0, none⟩ = some (.int .i64 x211000_2) := (bC BK210.out 0).trans rfl
        have hcz68_1 : wr.cell? ⟨b210, 1, none⟩ = some (.int .i64 x211001_2) := (bC BK210.out 1).trans rfl
        have hfz68_0 := bF BK210.out 0
        have hfz68_1 := bF BK210.out 1
        go_wp2_with (first | ((with_reducible refine gate_builtin (b := .append) (xs := #[.tmp 113, .tmp 115]) rfl ?_); at_builtin; refine Kd.R_append k53 (w0 := w) w.heap.size rfl (.tmp 113) (.tmp 115) 42 53 (.agg #[(.int .i64 0), (.int .i64 0)]) 16 rfl Try.underlying42 info53 rfl (by decide) (by omega) u5 x5_1 (⟨x211000_2, x211001_2⟩ : S53) [.int .i64 x211000_2, .int .i64 x211001_2] (fun k_ => k_ ≠ b210) (fun _ => False) rfl rfl ?aP (fun _ hk => hk.elim) ?aF ?aO ?aB ?aS ?aL ?_; (case aP => exact k53_mkM _ _ _ (⟨x211000_2, x211001_2⟩ : S53)); (case aB => exact (by repeat (first | (with_reducible first | exact HB.out | apply lA | apply lN | apply lD | refine lS ?_ GE210.out) | exact HB.out))); (case aF => exact (fun k_ hk => Kd.freshB (g := b210) (o := .cells #[.int .i64 x211000_2, .int .i64 x211001_2] 53 (0, 0)) (by (with_reducible repeat first | apply bN | apply bD | apply bA); exact BK210.out) k_ hk)); (case aO => exact (by (with_reducible repeat (first | apply Kd.R_alloc | apply Kd.R_drewN | apply Kd.R_drew)); exact HO_5.out)); (case aS => exact (lZ (by repeat (first | (with_reducible first | exact HB.out | apply lA | apply lN | apply lD | refine lS ?_ GE210.out) | exact HB.out)))); (case aL => have := LMc67.out; omega); intro v212 w69 ho hb hg hat; rw [← Ny211.out] at ho; have n0_ := aM (blk_grown (g := b210) (o := .cells #[.int .i64 x211000_2, .int .i64 x211001_2] 53 (0, 0)) (by (with_reducible repeat first | apply bN | apply bD | apply bA); exact BK210.out) hg (Kd.R_away HO_5.out (fun _ hk => hk))); have n1_ := aM (hb); have n2_ := aM (ho); clear BK210; clear HB; clear HO_5; have BK210 := n0_; have HB := n1_; have HO213 := n2_; clear n0_ n1_ n2_; clear ho hb hg hat))
        go_roundg k2
        case measure => have := HK1.out; have := HK2.out; omega
        case rel => exact ⟨(y211), (wrap64 (x6_1 + 1)), (by first | rfl | (simp; done) | (simp [*]; done)), H', ⟨by have := HK1.out; have := HK2.out; omega⟩, ⟨by (with_reducible repeat (first | apply Kd.R_alloc | apply Kd.R_drewN | apply Kd.R_drew)); exact Kd.R_mono HO213.out (fun _ hk => trivial)⟩, ⟨by repeat (first | (with_reducible first | exact HB.out | apply lA | apply lN | apply lD | refine lS ?_ GE210.out) | exact HB.out)⟩⟩
       ·rw [if_neg c67] at H
        exact absurd H (by simp)
   ·rw [if_neg c3] at H
    have c3b0 : decide (x6_1 < (l0.length : Int)) = false := decide_eq_false c3
    clear c3
    obtain rfl := Option.some.inj H
    go_wp2
    go_ret
    exact ⟨_, by first | rfl | (simp [errW_none, errW_some] <;> rfl) | (simp [*, errW_none, errW_some] <;> rfl), by (with_reducible repeat (first | apply Kd.R_alloc | apply Kd.R_drewN | apply Kd.R_drew)); exact HO_5.out, by repeat (first | (with_reducible first | exact HB.out | apply lA | apply lN | apply lD) | exact HB.out)⟩

end Go.Proofs.Ytplmeknmeobanaa.Q
