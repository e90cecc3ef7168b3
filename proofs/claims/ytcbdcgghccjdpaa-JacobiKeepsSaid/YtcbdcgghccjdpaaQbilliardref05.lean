-- PRINTED by print.py (a twelfth state) out of the translation. Not trusted: Lean checks it.
import Derived.Test.YtcbdcgghccjdpaaQ0
import Derived.Test.YtcbdcgghccjdpaaMspec
namespace Go.Proofs.Ytcbdcgghccjdpaa.Q
open Go.RowKit Go.Proofs.YtcbdcgghccjdpaaW.PrintWords Go.Proofs.YtcbdcgghccjdpaaW.PrintLast Go.Proofs.YtcbdcgghccjdpaaW.PrintMore
open Go.Proofs.YtcbdcgghccjdpaaW.PrintWords renaming blk_drewN → bN, blk_drew → bD, blk_alloc → bA, blk_cell → bC, blk_frozen → bF, below_alloc → lA, pw_below_drewN → lN, below_drew1 → lD, below_set → lS, below_step → lT, below_size → lZ, Aside0.mk → aM
open List renaming setIfInBounds_toArray → sA, set_cons_zero → sB, set_cons_succ → sC
open Bool renaming true → T, false → F
attribute [local go_sem] max2_int min2_int max_two min_two max_three min_three max_four min_four   -- for this text's walks alone
set_option linter.unusedVariables false
set_option linter.unusedSimpArgs false

/-! ### billiardref05_In: function 46 -/
def billiardref05_In.f (a0 : Int) (a1 : Int) : Option (Bool) := if a0 ≥ (wrap32 (-a1)) then (some (decide (a0 ≤ a1))) else (some false)
set_option maxHeartbeats 8000000 in
set_option maxRecDepth 100000 in
theorem billiardref05_In.calls (a0 : Int) (a1 : Int) (r : Bool) (w : World) (h : billiardref05_In.f a0 a1 = some r) :
  Calls Try.prog 46 #[.int .i32 a0, .int .i32 a1] w fun e w' => e = .returned (.bool r) ∧ Drawn0 w w' := by
 have H : (if a0 ≥ (wrap32 (-a1)) then (some (decide (a0 ≤ a1))) else (some false)) = some r := h
 clear h
 by_cases c3 : a0 ≥ (wrap32 (-a1))
 ·rw [if_pos c3] at H
  have c3b0 : decide ((wrap32 (-a1)) ≤ a0) = true := decide_eq_true c3
  clear c3
  obtain rfl := Option.some.inj H
  go_enter Try.func46, Try.ntmps46
  go_wp2
  go_ret
  exact ⟨by first | rfl | (simp; done) | (simp [*]; done), by repeat (first | exact Drawn0.refl _ | apply Drawn0.step)⟩
 ·rw [if_neg c3] at H
  have c3b0 : decide ((wrap32 (-a1)) ≤ a0) = false := decide_eq_false c3
  clear c3
  obtain rfl := Option.some.inj H
  go_enter Try.func46, Try.ntmps46
  go_wp2
  go_ret
  exact ⟨by first | rfl | (simp; done) | (simp [*]; done), by repeat (first | exact Drawn0.refl _ | apply Drawn0.step)⟩

/-! ### billiardref05_Check: function 33 -/
mutual
def billiardref05_Check.j0 : Nat → Bool → Int → Int → Int → Int → Int → Int → Int → Int → Int → Int → Option (Int)
 | 0, _, _, _, _, _, _, _, _, _, _, _ => none
 | k + 1, x10, x102000, x102001, x102002, x102003, x102004, x102005, x102006, x102007, x102008, x102009 => if x10 = true then (some 4) else ((billiardref05_In.f x102002 4194304).bind fun t102 => (if t102 = true then ((billiardref05_In.f x102003 4194304).bind fun t103 => (billiardref05_Check.j1 k (!t103) x102000 x102001 x102002 x102003 x102004 x102005 x102006 x102007 x102008 x102009)) else (billiardref05_Check.j1 k true x102000 x102001 x102002 x102003 x102004 x102005 x102006 x102007 x102008 x102009)))
def billiardref05_Check.j1 : Nat → Bool → Int → Int → Int → Int → Int → Int → Int → Int → Int → Int → Option (Int)
 | 0, _, _, _, _, _, _, _, _, _, _, _ => none
 | k + 1, x22, x102000, x102001, x102002, x102003, x102004, x102005, x102006, x102007, x102008, x102009 => if x22 = true then (some 5) else (if x102004 < 0 then (billiardref05_Check.j2 k true x102000 x102001 x102002 x102003 x102004 x102005 x102006 x102007 x102008 x102009) else (billiardref05_Check.j2 k (decide (x102004 > 1048576)) x102000 x102001 x102002 x102003 x102004 x102005 x102006 x102007 x102008 x102009))
def billiardref05_Check.j2 : Nat → Bool → Int → Int → Int → Int → Int → Int → Int → Int → Int → Int → Option (Int)
 | 0, _, _, _, _, _, _, _, _, _, _, _ => none
 | k + 1, x30, x102000, x102001, x102002, x102003, x102004, x102005, x102006, x102007, x102008, x102009 => if x30 = true then (some 6) else (if x102005 < 0 then (billiardref05_Check.j3 k true x102000 x102001 x102002 x102003 x102004 x102005 x102006 x102007 x102008 x102009) else (billiardref05_Check.j3 k (decide (x102005 > 65536)) x102000 x102001 x102002 x102003 x102004 x102005 x102006 x102007 x102008 x102009))
def billiardref05_Check.j3 : Nat → Bool → Int → Int → Int → Int → Int → Int → Int → Int → Int → Int → Option (Int)
 | 0, _, _, _, _, _, _, _, _, _, _, _ => none
 | k + 1, x38, x102000, x102001, x102002, x102003, x102004, x102005, x102006, x102007, x102008, x102009 => if x38 = true then (some 7) else ((billiardref05_In.f x102006 1073741824).bind fun t104 => (if t104 = true then ((billiardref05_In.f x102007 1073741824).bind fun t105 => (billiardref05_Check.j4 k (!t105) x102000 x102001 x102002 x102003 x102004 x102005 x102006 x102007 x102008 x102009)) else (billiardref05_Check.j4 k true x102000 x102001 x102002 x102003 x102004 x102005 x102006 x102007 x102008 x102009)))
def billiardref05_Check.j4 : Nat → Bool → Int → Int → Int → Int → Int → Int → Int → Int → Int → Int → Option (Int)
 | 0, _, _, _, _, _, _, _, _, _, _, _ => none
 | k + 1, x50, x102000, x102001, x102002, x102003, x102004, x102005, x102006, x102007, x102008, x102009 => if x50 = true then (some 8) else ((billiardref05_In.f x102008 16777216).bind fun t106 => (if t106 = true then ((billiardref05_In.f x102009 16777216).bind fun t107 => (if t107 = true then (some 0) else (some 9))) else (some 9)))
end
def billiardref05_Check.f (k : Nat) (a0_0 : Int) (a0_1 : Int) (a0_2 : Int) (a0_3 : Int) (a0_4 : Int) (a0_5 : Int) (a0_6 : Int) (a0_7 : Int) (a0_8 : Int) (a0_9 : Int) : Option (Int) := if a0_1 < 4096 then (billiardref05_Check.j0 k true a0_0 a0_1 a0_2 a0_3 a0_4 a0_5 a0_6 a0_7 a0_8 a0_9) else (billiardref05_Check.j0 k (decide (a0_1 > 4194304)) a0_0 a0_1 a0_2 a0_3 a0_4 a0_5 a0_6 a0_7 a0_8 a0_9)
theorem billiardref05_Check.mono_l : ∀ k, (∀ y0 y1 y2 y3 y4 y5 y6 y7 y8 y9 y10, LeO (billiardref05_Check.j0 k y0 y1 y2 y3 y4 y5 y6 y7 y8 y9 y10) (billiardref05_Check.j0 (k + 1) y0 y1 y2 y3 y4 y5 y6 y7 y8 y9 y10)) ∧ (∀ y0 y1 y2 y3 y4 y5 y6 y7 y8 y9 y10, LeO (billiardref05_Check.j1 k y0 y1 y2 y3 y4 y5 y6 y7 y8 y9 y10) (billiardref05_Check.j1 (k + 1) y0 y1 y2 y3 y4 y5 y6 y7 y8 y9 y10)) ∧ (∀ y0 y1 y2 y3 y4 y5 y6 y7 y8 y9 y10, LeO (billiardref05_Check.j2 k y0 y1 y2 y3 y4 y5 y6 y7 y8 y9 y10) (billiardref05_Check.j2 (k + 1) y0 y1 y2 y3 y4 y5 y6 y7 y8 y9 y10)) ∧ (∀ y0 y1 y2 y3 y4 y5 y6 y7 y8 y9 y10, LeO (billiardref05_Check.j3 k y0 y1 y2 y3 y4 y5 y6 y7 y8 y9 y10) (billiardref05_Check.j3 (k + 1) y0 y1 y2 y3 y4 y5 y6 y7 y8 y9 y10)) ∧ (∀ y0 y1 y2 y3 y4 y5 y6 y7 y8 y9 y10, LeO (billiardref05_Check.j4 k y0 y1 y2 y3 y4 y5 y6 y7 y8 y9 y10) (billiardref05_Check.j4 (k + 1) y0 y1 y2 y3 y4 y5 y6 y7 y8 y9 y10))
 | 0 => ⟨fun _ _ _ _ _ _ _ _ _ _ _ r h => by simp [billiardref05_Check.j0] at h, fun _ _ _ _ _ _ _ _ _ _ _ r h => by simp [billiardref05_Check.j1] at h, fun _ _ _ _ _ _ _ _ _ _ _ r h => by simp [billiardref05_Check.j2] at h, fun _ _ _ _ _ _ _ _ _ _ _ r h => by simp [billiardref05_Check.j3] at h, fun _ _ _ _ _ _ _ _ _ _ _ r h => by simp [billiardref05_Check.j4] at h⟩
 | k + 1 => by
  obtain ⟨ih0, ih1, ih2, ih3, ih4⟩ := billiardref05_Check.mono_l k
  refine ⟨?_, ?_, ?_, ?_, ?_⟩
  ·intro y0 y1 y2 y3 y4 y5 y6 y7 y8 y9 y10
   unfold billiardref05_Check.j0
   repeat' first
   | (with_reducible exact ih0 _ _ _ _ _ _ _ _ _ _ _)
   | (with_reducible exact ih1 _ _ _ _ _ _ _ _ _ _ _)
   | (with_reducible exact ih2 _ _ _ _ _ _ _ _ _ _ _)
   | (with_reducible exact ih3 _ _ _ _ _ _ _ _ _ _ _)
   | (with_reducible exact ih4 _ _ _ _ _ _ _ _ _ _ _)
   | (with_reducible exact LeO.refl _)
   | (with_reducible exact LeO.none _)
   | (with_reducible refine LeO.ite ?_ ?_)
   | (with_reducible refine LeO.bind ?_ (fun _ => ?_))
   | exact ih0 _ _ _ _ _ _ _ _ _ _ _
   | exact ih1 _ _ _ _ _ _ _ _ _ _ _
   | exact ih2 _ _ _ _ _ _ _ _ _ _ _
   | exact ih3 _ _ _ _ _ _ _ _ _ _ _
   | exact ih4 _ _ _ _ _ _ _ _ _ _ _
   | exact LeO.none _
   | refine LeO.ite ?_ ?_
   | refine LeO.bind ?_ (fun _ => ?_)
  ·intro y0 y1 y2 y3 y4 y5 y6 y7 y8 y9 y10
   unfold billiardref05_Check.j1
   repeat' first
   | (with_reducible exact ih0 _ _ _ _ _ _ _ _ _ _ _)
   | (with_reducible exact ih1 _ _ _ _ _ _ _ _ _ _ _)
   | (with_reducible exact ih2 _ _ _ _ _ _ _ _ _ _ _)
   | (with_reducible exact ih3 _ _ _ _ _ _ _ _ _ _ _)
   | (with_reducible exact ih4 _ _ _ _ _ _ _ _ _ _ _)
   | (with_reducible exact LeO.refl _)
   | (with_reducible exact LeO.none _)
   | (with_reducible refine LeO.ite ?_ ?_)
   | (with_reducible refine LeO.bind ?_ (fun _ => ?_))
   | exact ih0 _ _ _ _ _ _ _ _ _ _ _
   | exact ih1 _ _ _ _ _ _ _ _ _ _ _
   | exact ih2 _ _ _ _ _ _ _ _ _ _ _
   | exact ih3 _ _ _ _ _ _ _ _ _ _ _
   | exact ih4 _ _ _ _ _ _ _ _ _ _ _
   | exact LeO.none _
   | refine LeO.ite ?_ ?_
   | refine LeO.bind ?_ (fun _ => ?_)
  ·intro y0 y1 y2 y3 y4 y5 y6 y7 y8 y9 y10
   unfold billiardref05_Check.j2
   repeat' first
   | (with_reducible exact ih0 _ _ _ _ _ _ _ _ _ _ _)
   | (with_reducible exact ih1 _ _ _ _ _ _ _ _ _ _ _)
   | (with_reducible exact ih2 _ _ _ _ _ _ _ _ _ _ _)
   | (with_reducible exact ih3 _ _ _ _ _ _ _ _ _ _ _)
   | (with_reducible exact ih4 _ _ _ _ _ _ _ _ _ _ _)
   | (with_reducible exact LeO.refl _)
   | (with_reducible exact LeO.none _)
   | (with_reducible refine LeO.ite ?_ ?_)
   | (with_reducible refine LeO.bind ?_ (fun _ => ?_))
   | exact ih0 _ _ _ _ _ _ _ _ _ _ _
   | exact ih1 _ _ _ _ _ _ _ _ _ _ _
   | exact ih2 _ _ _ _ _ _ _ _ _ _ _
   | exact ih3 _ _ _ _ _ _ _ _ _ _ _
   | exact ih4 _ _ _ _ _ _ _ _ _ _ _
   | exact LeO.none _
   | refine LeO.ite ?_ ?_
   | refine LeO.bind ?_ (fun _ => ?_)
  ·intro y0 y1 y2 y3 y4 y5 y6 y7 y8 y9 y10
   unfold billiardref05_Check.j3
   repeat' first
   | (with_reducible exact ih0 _ _ _ _ _ _ _ _ _ _ _)
   | (with_reducible exact ih1 _ _ _ _ _ _ _ _ _ _ _)
   | (with_reducible exact ih2 _ _ _ _ _ _ _ _ _ _ _)
   | (with_reducible exact ih3 _ _ _ _ _ _ _ _ _ _ _)
   | (with_reducible exact ih4 _ _ _ _ _ _ _ _ _ _ _)
   | (with_reducible exact LeO.refl _)
   | (with_reducible exact LeO.none _)
   | (with_reducible refine LeO.ite ?_ ?_)
   | (with_reducible refine LeO.bind ?_ (fun _ => ?_))
   | exact ih0 _ _ _ _ _ _ _ _ _ _ _
   | exact ih1 _ _ _ _ _ _ _ _ _ _ _
   | exact ih2 _ _ _ _ _ _ _ _ _ _ _
   | exact ih3 _ _ _ _ _ _ _ _ _ _ _
   | exact ih4 _ _ _ _ _ _ _ _ _ _ _
   | exact LeO.none _
   | refine LeO.ite ?_ ?_
   | refine LeO.bind ?_ (fun _ => ?_)
  ·intro y0 y1 y2 y3 y4 y5 y6 y7 y8 y9 y10
   unfold billiardref05_Check.j4
   repeat' first
   | (with_reducible exact ih0 _ _ _ _ _ _ _ _ _ _ _)
   | (with_reducible exact ih1 _ _ _ _ _ _ _ _ _ _ _)
   | (with_reducible exact ih2 _ _ _ _ _ _ _ _ _ _ _)
   | (with_reducible exact ih3 _ _ _ _ _ _ _ _ _ _ _)
   | (with_reducible exact ih4 _ _ _ _ _ _ _ _ _ _ _)
   | (with_reducible exact LeO.refl _)
   | (with_reducible exact LeO.none _)
   | (with_reducible refine LeO.ite ?_ ?_)
   | (with_reducible refine LeO.bind ?_ (fun _ => ?_))
   | exact ih0 _ _ _ _ _ _ _ _ _ _ _
   | exact ih1 _ _ _ _ _ _ _ _ _ _ _
   | exact ih2 _ _ _ _ _ _ _ _ _ _ _
   | exact ih3 _ _ _ _ _ _ _ _ _ _ _
   | exact ih4 _ _ _ _ _ _ _ _ _ _ _
   | exact LeO.none _
   | refine LeO.ite ?_ ?_
   | refine LeO.bind ?_ (fun _ => ?_)
theorem billiardref05_Check.mono : ∀ a0 a1 a2 a3 a4 a5 a6 a7 a8 a9 k, LeO (billiardref05_Check.f k a0 a1 a2 a3 a4 a5 a6 a7 a8 a9) (billiardref05_Check.f (k + 1) a0 a1 a2 a3 a4 a5 a6 a7 a8 a9) := by
 intro a0 a1 a2 a3 a4 a5 a6 a7 a8 a9 k
 obtain ⟨ih0, ih1, ih2, ih3, ih4⟩ := billiardref05_Check.mono_l k
 unfold billiardref05_Check.f
 repeat' first
   | (with_reducible exact ih0 _ _ _ _ _ _ _ _ _ _ _)
   | (with_reducible exact ih1 _ _ _ _ _ _ _ _ _ _ _)
   | (with_reducible exact ih2 _ _ _ _ _ _ _ _ _ _ _)
   | (with_reducible exact ih3 _ _ _ _ _ _ _ _ _ _ _)
   | (with_reducible exact ih4 _ _ _ _ _ _ _ _ _ _ _)
   | (with_reducible exact LeO.refl _)
   | (with_reducible exact LeO.none _)
   | (with_reducible refine LeO.ite ?_ ?_)
   | (with_reducible refine LeO.bind ?_ (fun _ => ?_))
   | exact ih0 _ _ _ _ _ _ _ _ _ _ _
   | exact ih1 _ _ _ _ _ _ _ _ _ _ _
   | exact ih2 _ _ _ _ _ _ _ _ _ _ _
   | exact ih3 _ _ _ _ _ _ _ _ _ _ _
   | exact ih4 _ _ _ _ _ _ _ _ _ _ _
   | exact LeO.none _
   | refine LeO.ite ?_ ?_
   | refine LeO.bind ?_ (fun _ => ?_)
set_option maxHeartbeats 8000000 in
set_option maxRecDepth 100000 in
theorem billiardref05_Check.calls (k : Nat) (a0_0 : Int) (a0_1 : Int) (a0_2 : Int) (a0_3 : Int) (a0_4 : Int) (a0_5 : Int) (a0_6 : Int) (a0_7 : Int) (a0_8 : Int) (a0_9 : Int) (r : Int) (w : World) (h : billiardref05_Check.f k a0_0 a0_1 a0_2 a0_3 a0_4 a0_5 a0_6 a0_7 a0_8 a0_9 = some r) :
  Calls Try.prog 33 #[.agg #[.int .u32 a0_0, .int .i32 a0_1, .int .i32 a0_2, .int .i32 a0_3, .int .i32 a0_4, .int .i32 a0_5, .int .i32 a0_6, .int .i32 a0_7, .int .i32 a0_8, .int .i32 a0_9]] w fun e w' => e = .returned (.int .i64 r) ∧ Below w.heap.size w w' := by
 have hu44 := Try.underlying44
 have HB := aM (Below.refl w.heap.size w)
 have H : (if a0_1 < 4096 then (billiardref05_Check.j0 k true a0_0 a0_1 a0_2 a0_3 a0_4 a0_5 a0_6 a0_7 a0_8 a0_9) else (billiardref05_Check.j0 k (decide (a0_1 > 4194304)) a0_0 a0_1 a0_2 a0_3 a0_4 a0_5 a0_6 a0_7 a0_8 a0_9)) = some r := h
 clear h
 have HC2 := aM H
 clear H
 go_enter Try.func33, Try.ntmps33
 go_upto_region 1 with (first | ((with_reducible refine gate_dst (N := 1) rfl ?_); refine box_event ?hg (N := 1) ?hd (cs := #[.int .u32 a0_0, .int .i32 a0_1, .int .i32 a0_2, .int .i32 a0_3, .int .i32 a0_4, .int .i32 a0_5, .int .i32 a0_6, .int .i32 a0_7, .int .i32 a0_8, .int .i32 a0_9]) (t := 44) ?hr ?_; (case hd => rfl); (case hg => rfl); (case hr => first | (go_simp; done) | (go_simp; rfl)); intro b101 hg w3 hbox hb; have n0_ := aM (lT (by repeat (first | (with_reducible first | exact HB.out | apply lA | apply lN | apply lD) | exact HB.out)) hb); have n1_ := aM (hbox); have n2_ := aM ((by rw [hg]; exact (lZ (by repeat (first | (with_reducible first | exact HB.out | apply lA | apply lN | apply lD) | exact HB.out))) : w.heap.size ≤ b101)); have n3_ := aM ((by rw [hg]; exact (lZ (by repeat (first | (with_reducible first | exact HB.out | apply lA | apply lN | apply lD) | exact HB.out))) : w.heap.size ≤ b101)); clear HB; have HB := n0_; have BK101 := n1_; have GW101 := n2_; have GE101 := n3_; clear n0_ n1_ n2_ n3_; clear hb hbox hg))
 (try simp only [Act.put, sA, sB, sC])
 go_cut [10] (fun v10 wc => ∃ (kq : Nat) (x10_1 : Bool), v10 = .bool x10_1 ∧ Aside0 (billiardref05_Check.j0 kq x10_1 a0_0 a0_1 a0_2 a0_3 a0_4 a0_5 a0_6 a0_7 a0_8 a0_9 = some r) ∧ Aside0 (kq ≤ k) ∧ Aside0 (wc.heap[b101]? = some (.cells #[.int .u32 a0_0, .int .i32 a0_1, .int .i32 a0_2, .int .i32 a0_3, .int .i32 a0_4, .int .i32 a0_5, .int .i32 a0_6, .int .i32 a0_7, .int .i32 a0_8, .int .i32 a0_9] 44 (0, 0))) ∧ Aside0 (Below w.heap.size w wc))
 case first =>
  have H := HC2.out
  clear HC2
  by_cases c4 : a0_1 < 4096
  ·rw [if_pos c4] at H
   have c4b0 : decide (a0_1 < 4096) = true := decide_eq_true c4
   clear c4
   (first | rw [c4b0] | (simp only [i64_w, i32_w]; rw [c4b0]) | skip)
   have H' := aM H
   clear H
   have hcz5_0 : w3.cell? ⟨b101, 0, none⟩ = some (.int .u32 a0_0) := (bC BK101.out 0).trans rfl
   have hcz5_1 : w3.cell? ⟨b101, 1, none⟩ = some (.int .i32 a0_1) := (bC BK101.out 1).trans rfl
   have hcz5_2 : w3.cell? ⟨b101, 2, none⟩ = some (.int .i32 a0_2) := (bC BK101.out 2).trans rfl
   have hcz5_3 : w3.cell? ⟨b101, 3, none⟩ = some (.int .i32 a0_3) := (bC BK101.out 3).trans rfl
   have hcz5_4 : w3.cell? ⟨b101, 4, none⟩ = some (.int .i32 a0_4) := (bC BK101.out 4).trans rfl
   have hcz5_5 : w3.cell? ⟨b101, 5, none⟩ = some (.int .i32 a0_5) := (bC BK101.out 5).trans rfl
   have hcz5_6 : w3.cell? ⟨b101, 6, none⟩ = some (.int .i32 a0_6) := (bC BK101.out 6).trans rfl
   have hcz5_7 : w3.cell? ⟨b101, 7, none⟩ = some (.int .i32 a0_7) := (bC BK101.out 7).trans rfl
   have hcz5_8 : w3.cell? ⟨b101, 8, none⟩ = some (.int .i32 a0_8) := (bC BK101.out 8).trans rfl
   have hcz5_9 : w3.cell? ⟨b101, 9, none⟩ = some (.int .i32 a0_9) := (bC BK101.out 9).trans rfl
   go_wp2
   go_meet
   case rel => exact ⟨_, (true), (by first | rfl | (simp; done) | (simp [*]; done)), H', ⟨by first | omega | exact Nat.le_refl _⟩, ⟨by (with_reducible repeat first | apply bN | apply bD | apply bA); exact BK101.out⟩, ⟨by repeat (first | (with_reducible first | exact HB.out | apply lA | apply lN | apply lD) | exact HB.out)⟩⟩
  ·rw [if_neg c4] at H
   have c4b0 : decide (a0_1 < 4096) = false := decide_eq_false c4
   clear c4
   (first | rw [c4b0] | (simp only [i64_w, i32_w]; rw [c4b0]) | skip)
   have H' := aM H
   clear H
   have hcz6_0 : w3.cell? ⟨b101, 0, none⟩ = some (.int .u32 a0_0) := (bC BK101.out 0).trans rfl
   have hcz6_1 : w3.cell? ⟨b101, 1, none⟩ = some (.int .i32 a0_1) := (bC BK101.out 1).trans rfl
   have hcz6_2 : w3.cell? ⟨b101, 2, none⟩ = some (.int .i32 a0_2) := (bC BK101.out 2).trans rfl
   have hcz6_3 : w3.cell? ⟨b101, 3, none⟩ = some (.int .i32 a0_3) := (bC BK101.out 3).trans rfl
   have hcz6_4 : w3.cell? ⟨b101, 4, none⟩ = some (.int .i32 a0_4) := (bC BK101.out 4).trans rfl
   have hcz6_5 : w3.cell? ⟨b101, 5, none⟩ = some (.int .i32 a0_5) := (bC BK101.out 5).trans rfl
   have hcz6_6 : w3.cell? ⟨b101, 6, none⟩ = some (.int .i32 a0_6) := (bC BK101.out 6).trans rfl
   have hcz6_7 : w3.cell? ⟨b101, 7, none⟩ = some (.int .i32 a0_7) := (bC BK101.out 7).trans rfl
   have hcz6_8 : w3.cell? ⟨b101, 8, none⟩ = some (.int .i32 a0_8) := (bC BK101.out 8).trans rfl
   have hcz6_9 : w3.cell? ⟨b101, 9, none⟩ = some (.int .i32 a0_9) := (bC BK101.out 9).trans rfl
   go_wp2
   go_meet
   case rel => exact ⟨_, (decide (a0_1 > 4194304)), (by first | rfl | (simp; done) | (simp [*]; done)), H', ⟨by first | omega | exact Nat.le_refl _⟩, ⟨by (with_reducible repeat first | apply bN | apply bD | apply bA); exact BK101.out⟩, ⟨by repeat (first | (with_reducible first | exact HB.out | apply lA | apply lN | apply lD) | exact HB.out)⟩⟩
 case rest =>
  clear HC2
  try clear p2
  try clear c3
  try clear c4
  try clear c4b0
  try clear hcz5_0
  try clear hcz5_1
  try clear hcz5_2
  try clear hcz5_3
  try clear hcz5_4
  try clear hcz5_5
  try clear hcz5_6
  try clear hcz5_7
  try clear hcz5_8
  try clear hcz5_9
  try clear hcz6_0
  try clear hcz6_1
  try clear hcz6_2
  try clear hcz6_3
  try clear hcz6_4
  try clear hcz6_5
  try clear hcz6_6
  try clear hcz6_7
  try clear hcz6_8
  try clear hcz6_9
  try clear hfz5_0
  try clear hfz5_1
  try clear hfz5_2
  try clear hfz5_3
  try clear hfz5_4
  try clear hfz5_5
  try clear hfz5_6
  try clear hfz5_7
  try clear hfz5_8
  try clear hfz5_9
  try clear hfz6_0
  try clear hfz6_1
  try clear hfz6_2
  try clear hfz6_3
  try clear hfz6_4
  try clear hfz6_5
  try clear hfz6_6
  try clear hfz6_7
  try clear hfz6_8
  try clear hfz6_9
  obtain ⟨kq, x10_1, rfl, HA, HJ1, BK101, HB⟩ := hcut
  cases kq with
  | zero => exact absurd HA.out (by simp [billiardref05_Check.j0])
  | succ kj1 =>
   have H := HA.out
   clear HA
   simp only [billiardref05_Check.j0] at H
   by_cases c7 : x10_1 = true
   ·subst c7
    rw [if_pos rfl] at H
    obtain rfl := Option.some.inj H
    go_wp2
    go_ret
    exact ⟨by first | rfl | (simp [errW_none, errW_some] <;> rfl) | (simp [*, errW_none, errW_some] <;> rfl), by repeat (first | (with_reducible first | exact HB.out | apply lA | apply lN | apply lD) | exact HB.out)⟩
   ·replace c7 := Bool.eq_false_iff.mpr c7
    subst c7
    rw [if_neg (show ¬ (false = true) by decide)] at H
    have HC8 := aM H
    clear H
    go_upto_region 3 with (fail)
    go_cut [22] (fun v22 wc => ∃ (kq : Nat) (x22_7 : Bool), v22 = .bool x22_7 ∧ Aside0 (billiardref05_Check.j1 kq x22_7 a0_0 a0_1 a0_2 a0_3 a0_4 a0_5 a0_6 a0_7 a0_8 a0_9 = some r) ∧ Aside0 (kq ≤ kj1) ∧ Aside0 (wc.heap[b101]? = some (.cells #[.int .u32 a0_0, .int .i32 a0_1, .int .i32 a0_2, .int .i32 a0_3, .int .i32 a0_4, .int .i32 a0_5, .int .i32 a0_6, .int .i32 a0_7, .int .i32 a0_8, .int .i32 a0_9] 44 (0, 0))) ∧ Aside0 (Below w.heap.size w wc))
    case first =>
     have H := HC8.out
     clear HC8
     replace H := Option.bind_eq_some_iff.mp H
     obtain ⟨t102, A90, H⟩ := H
     try dsimp only at H
     have A9 := aM A90
     clear A90
     by_cases c10 : t102 = true
     ·subst c10
      rw [if_pos rfl] at H
      replace H := Option.bind_eq_some_iff.mp H
      obtain ⟨t103, A110, H⟩ := H
      try dsimp only at H
      have A11 := aM A110
      clear A110
      have H' := aM H
      clear H
      have hcz12_0 : wc.cell? ⟨b101, 0, none⟩ = some (.int .u32 a0_0) := (bC BK101.out 0).trans rfl
      have hcz12_1 : wc.cell? ⟨b101, 1, none⟩ = some (.int .i32 a0_1) := (bC BK101.out 1).trans rfl
      have hcz12_2 : wc.cell? ⟨b101, 2, none⟩ = some (.int .i32 a0_2) := (bC BK101.out 2).trans rfl
      have hcz12_3 : wc.cell? ⟨b101, 3, none⟩ = some (.int .i32 a0_3) := (bC BK101.out 3).trans rfl
      have hcz12_4 : wc.cell? ⟨b101, 4, none⟩ = some (.int .i32 a0_4) := (bC BK101.out 4).trans rfl
      have hcz12_5 : wc.cell? ⟨b101, 5, none⟩ = some (.int .i32 a0_5) := (bC BK101.out 5).trans rfl
      have hcz12_6 : wc.cell? ⟨b101, 6, none⟩ = some (.int .i32 a0_6) := (bC BK101.out 6).trans rfl
      have hcz12_7 : wc.cell? ⟨b101, 7, none⟩ = some (.int .i32 a0_7) := (bC BK101.out 7).trans rfl
      have hcz12_8 : wc.cell? ⟨b101, 8, none⟩ = some (.int .i32 a0_8) := (bC BK101.out 8).trans rfl
      have hcz12_9 : wc.cell? ⟨b101, 9, none⟩ = some (.int .i32 a0_9) := (bC BK101.out 9).trans rfl
      go_wp2_with (first | ((with_reducible refine gate_callee (f := 46) rfl ?_); refine goesL_ (some 14) rfl rfl Try.func46 (by kernel_rfl) rfl #[.int .i32 a0_2, .int .i32 4194304] rfl (by (try simp only [List.map_toArray, List.map_cons, List.map_nil]); first | done | rfl | (simp only [List.length_drop, List.length_take]; rfl)) ?_; (with_reducible refine (billiardref05_In.calls a0_2 4194304 true _ A9.out).mono ?_); rintro e w' ⟨rfl, ⟨nd, rfl⟩⟩; refine ⟨_, rfl, ?_⟩) | (go_at_call 46; (with_reducible refine (billiardref05_In.calls a0_3 4194304 t103 _ A11.out).mono ?_); rintro e w' ⟨rfl, ⟨nd, rfl⟩⟩))
      go_meet
      case rel => exact ⟨_, (!t103), (by first | rfl | (simp; done) | (simp [*]; done)), H', ⟨by have := HJ1.out; first | omega | exact Nat.le_refl _⟩, ⟨by (with_reducible repeat first | apply bN | apply bD | apply bA); exact BK101.out⟩, ⟨by repeat (first | (with_reducible first | exact HB.out | apply lA | apply lN | apply lD) | exact HB.out)⟩⟩
     ·replace c10 := Bool.eq_false_iff.mpr c10
      subst c10
      rw [if_neg (show ¬ (false = true) by decide)] at H
      have H' := aM H
      clear H
      have hcz13_0 : wc.cell? ⟨b101, 0, none⟩ = some (.int .u32 a0_0) := (bC BK101.out 0).trans rfl
      have hcz13_1 : wc.cell? ⟨b101, 1, none⟩ = some (.int .i32 a0_1) := (bC BK101.out 1).trans rfl
      have hcz13_2 : wc.cell? ⟨b101, 2, none⟩ = some (.int .i32 a0_2) := (bC BK101.out 2).trans rfl
      have hcz13_3 : wc.cell? ⟨b101, 3, none⟩ = some (.int .i32 a0_3) := (bC BK101.out 3).trans rfl
      have hcz13_4 : wc.cell? ⟨b101, 4, none⟩ = some (.int .i32 a0_4) := (bC BK101.out 4).trans rfl
      have hcz13_5 : wc.cell? ⟨b101, 5, none⟩ = some (.int .i32 a0_5) := (bC BK101.out 5).trans rfl
      have hcz13_6 : wc.cell? ⟨b101, 6, none⟩ = some (.int .i32 a0_6) := (bC BK101.out 6).trans rfl
      have hcz13_7 : wc.cell? ⟨b101, 7, none⟩ = some (.int .i32 a0_7) := (bC BK101.out 7).trans rfl
      have hcz13_8 : wc.cell? ⟨b101, 8, none⟩ = some (.int .i32 a0_8) := (bC BK101.out 8).trans rfl
      have hcz13_9 : wc.cell? ⟨b101, 9, none⟩ = some (.int .i32 a0_9) := (bC BK101.out 9).trans rfl
      go_wp2_with (first | ((with_reducible refine gate_callee (f := 46) rfl ?_); refine goesL_ (some 14) rfl rfl Try.func46 (by kernel_rfl) rfl #[.int .i32 a0_2, .int .i32 4194304] rfl (by (try simp only [List.map_toArray, List.map_cons, List.map_nil]); first | done | rfl | (simp only [List.length_drop, List.length_take]; rfl)) ?_; (with_reducible refine (billiardref05_In.calls a0_2 4194304 false _ A9.out).mono ?_); rintro e w' ⟨rfl, ⟨nd, rfl⟩⟩; refine ⟨_, rfl, ?_⟩))
      go_meet
      case rel => exact ⟨_, (true), (by first | rfl | (simp; done) | (simp [*]; done)), H', ⟨by have := HJ1.out; first | omega | exact Nat.le_refl _⟩, ⟨by (with_reducible repeat first | apply bN | apply bD | apply bA); exact BK101.out⟩, ⟨by repeat (first | (with_reducible first | exact HB.out | apply lA | apply lN | apply lD) | exact HB.out)⟩⟩
    case rest =>
     clear HC8
     try clear c1
     try clear p2
     try clear c3
     try clear c4
     try clear c4b0
     try clear c7
     try clear c10
     try clear hcz12_0
     try clear hcz12_1
     try clear hcz12_2
     try clear hcz12_3
     try clear hcz12_4
     try clear hcz12_5
     try clear hcz12_6
     try clear hcz12_7
     try clear hcz12_8
     try clear hcz12_9
     try clear hcz13_0
     try clear hcz13_1
     try clear hcz13_2
     try clear hcz13_3
     try clear hcz13_4
     try clear hcz13_5
     try clear hcz13_6
     try clear hcz13_7
     try clear hcz13_8
     try clear hcz13_9
     try clear hcz5_0
     try clear hcz5_1
     try clear hcz5_2
     try clear hcz5_3
     try clear hcz5_4
     try clear hcz5_5
     try clear hcz5_6
     try clear hcz5_7
     try clear hcz5_8
     try clear hcz5_9
     try clear hcz6_0
     try clear hcz6_1
     try clear hcz6_2
     try clear hcz6_3
     try clear hcz6_4
     try clear hcz6_5
     try clear hcz6_6
     try clear hcz6_7
     try clear hcz6_8
     try clear hcz6_9
     try clear hfz12_0
     try clear hfz12_1
     try clear hfz12_2
     try clear hfz12_3
     try clear hfz12_4
     try clear hfz12_5
     try clear hfz12_6
     try clear hfz12_7
     try clear hfz12_8
     try clear hfz12_9
     try clear hfz13_0
     try clear hfz13_1
     try clear hfz13_2
     try clear hfz13_3
     try clear hfz13_4
     try clear hfz13_5
     try clear hfz13_6
     try clear hfz13_7
     try clear hfz13_8
     try clear hfz13_9
     try clear hfz5_0
     try clear hfz5_1
     try clear hfz5_2
     try clear hfz5_3
     try clear hfz5_4
     try clear hfz5_5
     try clear hfz5_6
     try clear hfz5_7
     try clear hfz5_8
     try clear hfz5_9
     try clear hfz6_0
     try clear hfz6_1
     try clear hfz6_2
     try clear hfz6_3
     try clear hfz6_4
     try clear hfz6_5
     try clear hfz6_6
     try clear hfz6_7
     try clear hfz6_8
     try clear hfz6_9
     try clear p2
     obtain ⟨kq, x22_7, rfl, HA, HJ7, BK101, HB⟩ := hcut
     cases kq with
     | zero => exact absurd HA.out (by simp [billiardref05_Check.j1])
     | succ kj7 =>
      have H := HA.out
      clear HA
      simp only [billiardref05_Check.j1] at H
      by_cases c14 : x22_7 = true
      ·subst c14
       rw [if_pos rfl] at H
       obtain rfl := Option.some.inj H
       go_wp2
       go_ret
       exact ⟨by first | rfl | (simp [errW_none, errW_some] <;> rfl) | (simp [*, errW_none, errW_some] <;> rfl), by repeat (first | (with_reducible first | exact HB.out | apply lA | apply lN | apply lD) | exact HB.out)⟩
      ·replace c14 := Bool.eq_false_iff.mpr c14
       subst c14
       rw [if_neg (show ¬ (false = true) by decide)] at H
       have HC15 := aM H
       clear H
       go_upto_region 5 with (fail)
       go_cut [30] (fun v30 wc => ∃ (kq : Nat) (x30_14 : Bool), v30 = .bool x30_14 ∧ Aside0 (billiardref05_Check.j2 kq x30_14 a0_0 a0_1 a0_2 a0_3 a0_4 a0_5 a0_6 a0_7 a0_8 a0_9 = some r) ∧ Aside0 (kq ≤ kj7) ∧ Aside0 (wc.heap[b101]? = some (.cells #[.int .u32 a0_0, .int .i32 a0_1, .int .i32 a0_2, .int .i32 a0_3, .int .i32 a0_4, .int .i32 a0_5, .int .i32 a0_6, .int .i32 a0_7, .int .i32 a0_8, .int .i32 a0_9] 44 (0, 0))) ∧ Aside0 (Below w.heap.size w wc))
       case first =>
        have H := HC15.out
        clear HC15
        by_cases c16 : a0_4 < 0
        ·rw [if_pos c16] at H
         have c16b0 : decide (a0_4 < 0) = true := decide_eq_true c16
         clear c16
         (first | rw [c16b0] | (simp only [i64_w, i32_w]; rw [c16b0]) | skip)
         have H' := aM H
         clear H
         have hcz17_0 : wc.cell? ⟨b101, 0, none⟩ = some (.int .u32 a0_0) := (bC BK101.out 0).trans rfl
         have hcz17_1 : wc.cell? ⟨b101, 1, none⟩ = some (.int .i32 a0_1) := (bC BK101.out 1).trans rfl
         have hcz17_2 : wc.cell? ⟨b101, 2, none⟩ = some (.int .i32 a0_2) := (bC BK101.out 2).trans rfl
         have hcz17_3 : wc.cell? ⟨b101, 3, none⟩ = some (.int .i32 a0_3) := (bC BK101.out 3).trans rfl
         have hcz17_4 : wc.cell? ⟨b101, 4, none⟩ = some (.int .i32 a0_4) := (bC BK101.out 4).trans rfl
         have hcz17_5 : wc.cell? ⟨b101, 5, none⟩ = some (.int .i32 a0_5) := (bC BK101.out 5).trans rfl
         have hcz17_6 : wc.cell? ⟨b101, 6, none⟩ = some (.int .i32 a0_6) := (bC BK101.out 6).trans rfl
         have hcz17_7 : wc.cell? ⟨b101, 7, none⟩ = some (.int .i32 a0_7) := (bC BK101.out 7).trans rfl
         have hcz17_8 : wc.cell? ⟨b101, 8, none⟩ = some (.int .i32 a0_8) := (bC BK101.out 8).trans rfl
         have hcz17_9 : wc.cell? ⟨b101, 9, none⟩ = some (.int .i32 a0_9) := (bC BK101.out 9).trans rfl
         go_wp2
         go_meet
         case rel => exact ⟨_, (true), (by first | rfl | (simp; done) | (simp [*]; done)), H', ⟨by have := HJ1.out; have := HJ7.out; first | omega | exact Nat.le_refl _⟩, ⟨by (with_reducible repeat first | apply bN | apply bD | apply bA); exact BK101.out⟩, ⟨by repeat (first | (with_reducible first | exact HB.out | apply lA | apply lN | apply lD) | exact HB.out)⟩⟩
        ·rw [if_neg c16] at H
         have c16b0 : decide (a0_4 < 0) = false := decide_eq_false c16
         clear c16
         (first | rw [c16b0] | (simp only [i64_w, i32_w]; rw [c16b0]) | skip)
         have H' := aM H
         clear H
         have hcz18_0 : wc.cell? ⟨b101, 0, none⟩ = some (.int .u32 a0_0) := (bC BK101.out 0).trans rfl
         have hcz18_1 : wc.cell? ⟨b101, 1, none⟩ = some (.int .i32 a0_1) := (bC BK101.out 1).trans rfl
         have hcz18_2 : wc.cell? ⟨b101, 2, none⟩ = some (.int .i32 a0_2) := (bC BK101.out 2).trans rfl
         have hcz18_3 : wc.cell? ⟨b101, 3, none⟩ = some (.int .i32 a0_3) := (bC BK101.out 3).trans rfl
         have hcz18_4 : wc.cell? ⟨b101, 4, none⟩ = some (.int .i32 a0_4) := (bC BK101.out 4).trans rfl
         have hcz18_5 : wc.cell? ⟨b101, 5, none⟩ = some (.int .i32 a0_5) := (bC BK101.out 5).trans rfl
         have hcz18_6 : wc.cell? ⟨b101, 6, none⟩ = some (.int .i32 a0_6) := (bC BK101.out 6).trans rfl
         have hcz18_7 : wc.cell? ⟨b101, 7, none⟩ = some (.int .i32 a0_7) := (bC BK101.out 7).trans rfl
         have hcz18_8 : wc.cell? ⟨b101, 8, none⟩ = some (.int .i32 a0_8) := (bC BK101.out 8).trans rfl
         have hcz18_9 : wc.cell? ⟨b101, 9, none⟩ = some (.int .i32 a0_9) := (bC BK101.out 9).trans rfl
         go_wp2
         go_meet
         case rel => exact ⟨_, (decide (a0_4 > 1048576)), (by first | rfl | (simp; done) | (simp [*]; done)), H', ⟨by have := HJ1.out; have := HJ7.out; first | omega | exact Nat.le_refl _⟩, ⟨by (with_reducible repeat first | apply bN | apply bD | apply bA); exact BK101.out⟩, ⟨by repeat (first | (with_reducible first | exact HB.out | apply lA | apply lN | apply lD) | exact HB.out)⟩⟩
       case rest =>
        clear HC15
        try clear c1
        try clear p2
        try clear c3
        try clear c4
        try clear c4b0
        try clear c7
        try clear c10
        try clear c14
        try clear c16
        try clear c16b0
        try clear hcz12_0
        try clear hcz12_1
        try clear hcz12_2
        try clear hcz12_3
        try clear hcz12_4
        try clear hcz12_5
        try clear hcz12_6
        try clear hcz12_7
        try clear hcz12_8
        try clear hcz12_9
        try clear hcz13_0
        try clear hcz13_1
        try clear hcz13_2
        try clear hcz13_3
        try clear hcz13_4
        try clear hcz13_5
        try clear hcz13_6
        try clear hcz13_7
        try clear hcz13_8
        try clear hcz13_9
        try clear hcz17_0
        try clear hcz17_1
        try clear hcz17_2
        try clear hcz17_3
        try clear hcz17_4
        try clear hcz17_5
        try clear hcz17_6
        try clear hcz17_7
        try clear hcz17_8
        try clear hcz17_9
        try clear hcz18_0
        try clear hcz18_1
        try clear hcz18_2
        try clear hcz18_3
        try clear hcz18_4
        try clear hcz18_5
        try clear hcz18_6
        try clear hcz18_7
        try clear hcz18_8
        try clear hcz18_9
        try clear hcz5_0
        try clear hcz5_1
        try clear hcz5_2
        try clear hcz5_3
        try clear hcz5_4
        try clear hcz5_5
        try clear hcz5_6
        try clear hcz5_7
        try clear hcz5_8
        try clear hcz5_9
        try clear hcz6_0
        try clear hcz6_1
        try clear hcz6_2
        try clear hcz6_3
        try clear hcz6_4
        try clear hcz6_5
        try clear hcz6_6
        try clear hcz6_7
        try clear hcz6_8
        try clear hcz6_9
        try clear hfz12_0
        try clear hfz12_1
        try clear hfz12_2
        try clear hfz12_3
        try clear hfz12_4
        try clear hfz12_5
        try clear hfz12_6
        try clear hfz12_7
        try clear hfz12_8
        try clear hfz12_9
        try clear hfz13_0
        try clear hfz13_1
        try clear hfz13_2
        try clear hfz13_3
        try clear hfz13_4
        try clear hfz13_5
        try clear hfz13_6
        try clear hfz13_7
        try clear hfz13_8
        try clear hfz13_9
        try clear hfz17_0
        try clear hfz17_1
        try clear hfz17_2
        try clear hfz17_3
        try clear hfz17_4
        try clear hfz17_5
        try clear hfz17_6
        try clear hfz17_7
        try clear hfz17_8
        try clear hfz17_9
        try clear hfz18_0
        try clear hfz18_1
        try clear hfz18_2
        try clear hfz18_3
        try clear hfz18_4
        try clear hfz18_5
        try clear hfz18_6
        try clear hfz18_7
        try clear hfz18_8
        try clear hfz18_9
        try clear hfz5_0
        try clear hfz5_1
        try clear hfz5_2
        try clear hfz5_3
        try clear hfz5_4
        try clear hfz5_5
        try clear hfz5_6
        try clear hfz5_7
        try clear hfz5_8
        try clear hfz5_9
        try clear hfz6_0
        try clear hfz6_1
        try clear hfz6_2
        try clear hfz6_3
        try clear hfz6_4
        try clear hfz6_5
        try clear hfz6_6
        try clear hfz6_7
        try clear hfz6_8
        try clear hfz6_9
        try clear p2
        obtain ⟨kq, x30_14, rfl, HA, HJ14, BK101, HB⟩ := hcut
        cases kq with
        | zero => exact absurd HA.out (by simp [billiardref05_Check.j2])
        | succ kj14 =>
         have H := HA.out
         clear HA
         simp only [billiardref05_Check.j2] at H
         by_cases c19 : x30_14 = true
         ·subst c19
          rw [if_pos rfl] at H
          obtain rfl := Option.some.inj H
          go_wp2
          go_ret
          exact ⟨by first | rfl | (simp [errW_none, errW_some] <;> rfl) | (simp [*, errW_none, errW_some] <;> rfl), by repeat (first | (with_reducible first | exact HB.out | apply lA | apply lN | apply lD) | exact HB.out)⟩
         ·replace c19 := Bool.eq_false_iff.mpr c19
          subst c19
          rw [if_neg (show ¬ (false = true) by decide)] at H
          have HC20 := aM H
          clear H
          go_upto_region 7 with (fail)
          go_cut [38] (fun v38 wc => ∃ (kq : Nat) (x38_19 : Bool), v38 = .bool x38_19 ∧ Aside0 (billiardref05_Check.j3 kq x38_19 a0_0 a0_1 a0_2 a0_3 a0_4 a0_5 a0_6 a0_7 a0_8 a0_9 = some r) ∧ Aside0 (kq ≤ kj14) ∧ Aside0 (wc.heap[b101]? = some (.cells #[.int .u32 a0_0, .int .i32 a0_1, .int .i32 a0_2, .int .i32 a0_3, .int .i32 a0_4, .int .i32 a0_5, .int .i32 a0_6, .int .i32 a0_7, .int .i32 a0_8, .int .i32 a0_9] 44 (0, 0))) ∧ Aside0 (Below w.heap.size w wc))
          case first =>
           have H := HC20.out
           clear HC20
           by_cases c21 : a0_5 < 0
           ·rw [if_pos c21] at H
            have c21b0 : decide (a0_5 < 0) = true := decide_eq_true c21
            clear c21
            (first | rw [c21b0] | (simp only [i64_w, i32_w]; rw [c21b0]) | skip)
            have H' := aM H
            clear H
            have hcz22_0 : wc.cell? ⟨b101, 0, none⟩ = some (.int .u32 a0_0) := (bC BK101.out 0).trans rfl
            have hcz22_1 : wc.cell? ⟨b101, 1, none⟩ = some (.int .i32 a0_1) := (bC BK101.out 1).trans rfl
            have hcz22_2 : wc.cell? ⟨b101, 2, none⟩ = some (.int .i32 a0_2) := (bC BK101.out 2).trans rfl
            have hcz22_3 : wc.cell? ⟨b101, 3, none⟩ = some (.int .i32 a0_3) := (bC BK101.out 3).trans rfl
            have hcz22_4 : wc.cell? ⟨b101, 4, none⟩ = some (.int .i32 a0_4) := (bC BK101.out 4).trans rfl
            have hcz22_5 : wc.cell? ⟨b101, 5, none⟩ = some (.int .i32 a0_5) := (bC BK101.out 5).trans rfl
            have hcz22_6 : wc.cell? ⟨b101, 6, none⟩ = some (.int .i32 a0_6) := (bC BK101.out 6).trans rfl
            have hcz22_7 : wc.cell? ⟨b101, 7, none⟩ = some (.int .i32 a0_7) := (bC BK101.out 7).trans rfl
            have hcz22_8 : wc.cell? ⟨b101, 8, none⟩ = some (.int .i32 a0_8) := (bC BK101.out 8).trans rfl
            have hcz22_9 : wc.cell? ⟨b101, 9, none⟩ = some (.int .i32 a0_9) := (bC BK101.out 9).trans rfl
            go_wp2
            go_meet
            case rel => exact ⟨_, (true), (by first | rfl | (simp; done) | (simp [*]; done)), H', ⟨by have := HJ1.out; have := HJ7.out; have := HJ14.out; first | omega | exact Nat.le_refl _⟩, ⟨by (with_reducible repeat first | apply bN | apply bD | apply bA); exact BK101.out⟩, ⟨by repeat (first | (with_reducible first | exact HB.out | apply lA | apply lN | apply lD) | exact HB.out)⟩⟩
           ·rw [if_neg c21] at H
            have c21b0 : decide (a0_5 < 0) = false := decide_eq_false c21
            clear c21
            (first | rw [c21b0] | (simp only [i64_w, i32_w]; rw [c21b0]) | skip)
            have H' := aM H
            clear H
            have hcz23_0 : wc.cell? ⟨b101, 0, none⟩ = some (.int .u32 a0_0) := (bC BK101.out 0).trans rfl
            have hcz23_1 : wc.cell? ⟨b101, 1, none⟩ = some (.int .i32 a0_1) := (bC BK101.out 1).trans rfl
            have hcz23_2 : wc.cell? ⟨b101, 2, none⟩ = some (.int .i32 a0_2) := (bC BK101.out 2).trans rfl
            have hcz23_3 : wc.cell? ⟨b101, 3, none⟩ = some (.int .i32 a0_3) := (bC BK101.out 3).trans rfl
            have hcz23_4 : wc.cell? ⟨b101, 4, none⟩ = some (.int .i32 a0_4) := (bC BK101.out 4).trans rfl
            have hcz23_5 : wc.cell? ⟨b101, 5, none⟩ = some (.int .i32 a0_5) := (bC BK101.out 5).trans rfl
            have hcz23_6 : wc.cell? ⟨b101, 6, none⟩ = some (.int .i32 a0_6) := (bC BK101.out 6).trans rfl
            have hcz23_7 : wc.cell? ⟨b101, 7, none⟩ = some (.int .i32 a0_7) := (bC BK101.out 7).trans rfl
            have hcz23_8 : wc.cell? ⟨b101, 8, none⟩ = some (.int .i32 a0_8) := (bC BK101.out 8).trans rfl
            have hcz23_9 : wc.cell? ⟨b101, 9, none⟩ = some (.int .i32 a0_9) := (bC BK101.out 9).trans rfl
            go_wp2
            go_meet
            case rel => exact ⟨_, (decide (a0_5 > 65536)), (by first | rfl | (simp; done) | (simp [*]; done)), H', ⟨by have := HJ1.out; have := HJ7.out; have := HJ14.out; first | omega | exact Nat.le_refl _⟩, ⟨by (with_reducible repeat first | apply bN | apply bD | apply bA); exact BK101.out⟩, ⟨by repeat (first | (with_reducible first | exact HB.out | apply lA | apply lN | apply lD) | exact HB.out)⟩⟩
          case rest =>
           clear HC20
           try clear c1
           try clear c2
           try clear p2
           try clear c3
           try clear c4
           try clear c4b0
           try clear c7
           try clear c10
           try clear c14
           try clear c16
           try clear c16b0
           try clear c19
           try clear c21
           try clear c21b0
           try clear hcz12_0
           try clear hcz12_1
           try clear hcz12_2
           try clear hcz12_3
           try clear hcz12_4
           try clear hcz12_5
           try clear hcz12_6
           try clear hcz12_7
           try clear hcz12_8
           try clear hcz12_9
           try clear hcz13_0
           try clear hcz13_1
           try clear hcz13_2
           try clear hcz13_3
           try clear hcz13_4
           try clear hcz13_5
           try clear hcz13_6
           try clear hcz13_7
           try clear hcz13_8
           try clear hcz13_9
           try clear hcz17_0
           try clear hcz17_1
           try clear hcz17_2
           try clear hcz17_3
           try clear hcz17_4
           try clear hcz17_5
           try clear hcz17_6
           try clear hcz17_7
           try clear hcz17_8
           try clear hcz17_9
           try clear hcz18_0
           try clear hcz18_1
           try clear hcz18_2
           try clear hcz18_3
           try clear hcz18_4
           try clear hcz18_5
           try clear hcz18_6
           try clear hcz18_7
           try clear hcz18_8
           try clear hcz18_9
           try clear hcz22_0
           try clear hcz22_1
           try clear hcz22_2
           try clear hcz22_3
           try clear hcz22_4
           try clear hcz22_5
           try clear hcz22_6
           try clear hcz22_7
           try clear hcz22_8
           try clear hcz22_9
           try clear hcz23_0
           try clear hcz23_1
           try clear hcz23_2
           try clear hcz23_3
           try clear hcz23_4
           try clear hcz23_5
           try clear hcz23_6
           try clear hcz23_7
           try clear hcz23_8
           try clear hcz23_9
           try clear hcz5_0
           try clear hcz5_1
           try clear hcz5_2
           try clear hcz5_3
           try clear hcz5_4
           try clear hcz5_5
           try clear hcz5_6
           try clear hcz5_7
           try clear hcz5_8
           try clear hcz5_9
           try clear hcz6_0
           try clear hcz6_1
           try clear hcz6_2
           try clear hcz6_3
           try clear hcz6_4
           try clear hcz6_5
           try clear hcz6_6
           try clear hcz6_7
           try clear hcz6_8
           try clear hcz6_9
           try clear hfz12_0
           try clear hfz12_1
           try clear hfz12_2
           try clear hfz12_3
           try clear hfz12_4
           try clear hfz12_5
           try clear hfz12_6
           try clear hfz12_7
           try clear hfz12_8
           try clear hfz12_9
           try clear hfz13_0
           try clear hfz13_1
           try clear hfz13_2
           try clear hfz13_3
           try clear hfz13_4
           try clear hfz13_5
           try clear hfz13_6
           try clear hfz13_7
           try clear hfz13_8
           try clear hfz13_9
           try clear hfz17_0
           try clear hfz17_1
           try clear hfz17_2
           try clear hfz17_3
           try clear hfz17_4
           try clear hfz17_5
           try clear hfz17_6
           try clear hfz17_7
           try clear hfz17_8
           try clear hfz17_9
           try clear hfz18_0
           try clear hfz18_1
           try clear hfz18_2
           try clear hfz18_3
           try clear hfz18_4
           try clear hfz18_5
           try clear hfz18_6
           try clear hfz18_7
           try clear hfz18_8
           try clear hfz18_9
           try clear hfz22_0
           try clear hfz22_1
           try clear hfz22_2
           try clear hfz22_3
           try clear hfz22_4
           try clear hfz22_5
           try clear hfz22_6
           try clear hfz22_7
           try clear hfz22_8
           try clear hfz22_9
           try clear hfz23_0
           try clear hfz23_1
           try clear hfz23_2
           try clear hfz23_3
           try clear hfz23_4
           try clear hfz23_5
           try clear hfz23_6
           try clear hfz23_7
           try clear hfz23_8
           try clear hfz23_9
           try clear hfz5_0
           try clear hfz5_1
           try clear hfz5_2
           try clear hfz5_3
           try clear hfz5_4
           try clear hfz5_5
           try clear hfz5_6
           try clear hfz5_7
           try clear hfz5_8
           try clear hfz5_9
           try clear hfz6_0
           try clear hfz6_1
           try clear hfz6_2
           try clear hfz6_3
           try clear hfz6_4
           try clear hfz6_5
           try clear hfz6_6
           try clear hfz6_7
           try clear hfz6_8
           try clear hfz6_9
           try clear p2
           obtain ⟨kq, x38_19, rfl, HA, HJ19, BK101, HB⟩ := hcut
           cases kq with
           | zero => exact absurd HA.out (by simp [billiardref05_Check.j3])
           | succ kj19 =>
            have H := HA.out
            clear HA
            simp only [billiardref05_Check.j3] at H
            by_cases c24 : x38_19 = true
            ·subst c24
             rw [if_pos rfl] at H
             obtain rfl := Option.some.inj H
             go_wp2
             go_ret
             exact ⟨by first | rfl | (simp [errW_none, errW_some] <;> rfl) | (simp [*, errW_none, errW_some] <;> rfl), by repeat (first | (with_reducible first | exact HB.out | apply lA | apply lN | apply lD) | exact HB.out)⟩
            ·replace c24 := Bool.eq_false_iff.mpr c24
             subst c24
             rw [if_neg (show ¬ (false = true) by decide)] at H
             have HC25 := aM H
             clear H
             go_upto_region 9 with (fail)
             go_cut [50] (fun v50 wc => ∃ (kq : Nat) (x50_24 : Bool), v50 = .bool x50_24 ∧ Aside0 (billiardref05_Check.j4 kq x50_24 a0_0 a0_1 a0_2 a0_3 a0_4 a0_5 a0_6 a0_7 a0_8 a0_9 = some r) ∧ Aside0 (kq ≤ kj19) ∧ Aside0 (wc.heap[b101]? = some (.cells #[.int .u32 a0_0, .int .i32 a0_1, .int .i32 a0_2, .int .i32 a0_3, .int .i32 a0_4, .int .i32 a0_5, .int .i32 a0_6, .int .i32 a0_7, .int .i32 a0_8, .int .i32 a0_9] 44 (0, 0))) ∧ Aside0 (Below w.heap.size w wc))
             case first =>
              have H := HC25.out
              clear HC25
              replace H := Option.bind_eq_some_iff.mp H
              obtain ⟨t104, A260, H⟩ := H
              try dsimp only at H
              have A26 := aM A260
              clear A260
              by_cases c27 : t104 = true
              ·subst c27
               rw [if_pos rfl] at H
               replace H := Option.bind_eq_some_iff.mp H
               obtain ⟨t105, A280, H⟩ := H
               try dsimp only at H
               have A28 := aM A280
               clear A280
               have H' := aM H
               clear H
               have hcz29_0 : wc.cell? ⟨b101, 0, none⟩ = some (.int .u32 a0_0) := (bC BK101.out 0).trans rfl
               have hcz29_1 : wc.cell? ⟨b101, 1, none⟩ = some (.int .i32 a0_1) := (bC BK101.out 1).trans rfl
               have hcz29_2 : wc.cell? ⟨b101, 2, none⟩ = some (.int .i32 a0_2) := (bC BK101.out 2).trans rfl
               have hcz29_3 : wc.cell? ⟨b101, 3, none⟩ = some (.int .i32 a0_3) := (bC BK101.out 3).trans rfl
               have hcz29_4 : wc.cell? ⟨b101, 4, none⟩ = some (.int .i32 a0_4) := (bC BK101.out 4).trans rfl
               have hcz29_5 : wc.cell? ⟨b101, 5, none⟩ = some (.int .i32 a0_5) := (bC BK101.out 5).trans rfl
               have hcz29_6 : wc.cell? ⟨b101, 6, none⟩ = some (.int .i32 a0_6) := (bC BK101.out 6).trans rfl
               have hcz29_7 : wc.cell? ⟨b101, 7, none⟩ = some (.int .i32 a0_7) := (bC BK101.out 7).trans rfl
               have hcz29_8 : wc.cell? ⟨b101, 8, none⟩ = some (.int .i32 a0_8) := (bC BK101.out 8).trans rfl
               have hcz29_9 : wc.cell? ⟨b101, 9, none⟩ = some (.int .i32 a0_9) := (bC BK101.out 9).trans rfl
               go_wp2_with (first | ((with_reducible refine gate_callee (f := 46) rfl ?_); refine goesL_ (some 42) rfl rfl Try.func46 (by kernel_rfl) rfl #[.int .i32 a0_6, .int .i32 1073741824] rfl (by (try simp only [List.map_toArray, List.map_cons, List.map_nil]); first | done | rfl | (simp only [List.length_drop, List.length_take]; rfl)) ?_; (with_reducible refine (billiardref05_In.calls a0_6 1073741824 true _ A26.out).mono ?_); rintro e w' ⟨rfl, ⟨nd, rfl⟩⟩; refine ⟨_, rfl, ?_⟩) | (go_at_call 46; (with_reducible refine (billiardref05_In.calls a0_7 1073741824 t105 _ A28.out).mono ?_); rintro e w' ⟨rfl, ⟨nd, rfl⟩⟩))
               go_meet
               case rel => exact ⟨_, (!t105), (by first | rfl | (simp; done) | (simp [*]; done)), H', ⟨by have := HJ1.out; have := HJ7.out; have := HJ14.out; have := HJ19.out; first | omega | exact Nat.le_refl _⟩, ⟨by (with_reducible repeat first | apply bN | apply bD | apply bA); exact BK101.out⟩, ⟨by repeat (first | (with_reducible first | exact HB.out | apply lA | apply lN | apply lD) | exact HB.out)⟩⟩
              ·replace c27 := Bool.eq_false_iff.mpr c27
               subst c27
               rw [if_neg (show ¬ (false = true) by decide)] at H
               have H' := aM H
               clear H
               have hcz30_0 : wc.cell? ⟨b101, 0, none⟩ = some (.int .u32 a0_0) := (bC BK101.out 0).trans rfl
               have hcz30_1 : wc.cell? ⟨b101, 1, none⟩ = some (.int .i32 a0_1) := (bC BK101.out 1).trans rfl
               have hcz30_2 : wc.cell? ⟨b101, 2, none⟩ = some (.int .i32 a0_2) := (bC BK101.out 2).trans rfl
               have hcz30_3 : wc.cell? ⟨b101, 3, none⟩ = some (.int .i32 a0_3) := (bC BK101.out 3).trans rfl
               have hcz30_4 : wc.cell? ⟨b101, 4, none⟩ = some (.int .i32 a0_4) := (bC BK101.out 4).trans rfl
               have hcz30_5 : wc.cell? ⟨b101, 5, none⟩ = some (.int .i32 a0_5) := (bC BK101.out 5).trans rfl
               have hcz30_6 : wc.cell? ⟨b101, 6, none⟩ = some (.int .i32 a0_6) := (bC BK101.out 6).trans rfl
               have hcz30_7 : wc.cell? ⟨b101, 7, none⟩ = some (.int .i32 a0_7) := (bC BK101.out 7).trans rfl
               have hcz30_8 : wc.cell? ⟨b101, 8, none⟩ = some (.int .i32 a0_8) := (bC BK101.out 8).trans rfl
               have hcz30_9 : wc.cell? ⟨b101, 9, none⟩ = some (.int .i32 a0_9) := (bC BK101.out 9).trans rfl
               go_wp2_with (first | ((with_reducible refine gate_callee (f := 46) rfl ?_); refine goesL_ (some 42) rfl rfl Try.func46 (by kernel_rfl) rfl #[.int .i32 a0_6, .int .i32 1073741824] rfl (by (try simp only [List.map_toArray, List.map_cons, List.map_nil]); first | done | rfl | (simp only [List.length_drop, List.length_take]; rfl)) ?_; (with_reducible refine (billiardref05_In.calls a0_6 1073741824 false _ A26.out).mono ?_); rintro e w' ⟨rfl, ⟨nd, rfl⟩⟩; refine ⟨_, rfl, ?_⟩))
               go_meet
               case rel => exact ⟨_, (true), (by first | rfl | (simp; done) | (simp [*]; done)), H', ⟨by have := HJ1.out; have := HJ7.out; have := HJ14.out; have := HJ19.out; first | omega | exact Nat.le_refl _⟩, ⟨by (with_reducible repeat first | apply bN | apply bD | apply bA); exact BK101.out⟩, ⟨by repeat (first | (with_reducible first | exact HB.out | apply lA | apply lN | apply lD) | exact HB.out)⟩⟩
             case rest =>
              clear HC25
              try clear c1
              try clear c2
              try clear p2
              try clear c3
              try clear c4
              try clear c4b0
              try clear c7
              try clear c10
              try clear c14
              try clear c16
              try clear c16b0
              try clear c19
              try clear c21
              try clear c21b0
              try clear c24
              try clear c27
              try clear hcz12_0
              try clear hcz12_1
              try clear hcz12_2
              try clear hcz12_3
              try clear hcz12_4
              try clear hcz12_5
              try clear hcz12_6
              try clear hcz12_7
              try clear hcz12_8
              try clear hcz12_9
              try clear hcz13_0
              try clear hcz13_1
              try clear hcz13_2
              try clear hcz13_3
              try clear hcz13_4
              try clear hcz13_5
              try clear hcz13_6
              try clear hcz13_7
              try clear hcz13_8
              try clear hcz13_9
              try clear hcz17_0
              try clear hcz17_1
              try clear hcz17_2
              try clear hcz17_3
              try clear hcz17_4
              try clear hcz17_5
              try clear hcz17_6
              try clear hcz17_7
              try clear hcz17_8
              try clear hcz17_9
              try clear hcz18_0
              try clear hcz18_1
              try clear hcz18_2
              try clear hcz18_3
              try clear hcz18_4
              try clear hcz18_5
              try clear hcz18_6
              try clear hcz18_7
              try clear hcz18_8
              try clear hcz18_9
              try clear hcz22_0
              try clear hcz22_1
              try clear hcz22_2
              try clear hcz22_3
              try clear hcz22_4
              try clear hcz22_5
              try clear hcz22_6
              try clear hcz22_7
              try clear hcz22_8
              try clear hcz22_9
              try clear hcz23_0
              try clear hcz23_1
              try clear hcz23_2
              try clear hcz23_3
              try clear hcz23_4
              try clear hcz23_5
              try clear hcz23_6
              try clear hcz23_7
              try clear hcz23_8
              try clear hcz23_9
              try clear hcz29_0
              try clear hcz29_1
              try clear hcz29_2
              try clear hcz29_3
              try clear hcz29_4
              try clear hcz29_5
              try clear hcz29_6
              try clear hcz29_7
              try clear hcz29_8
              try clear hcz29_9
              try clear hcz30_0
              try clear hcz30_1
              try clear hcz30_2
              try clear hcz30_3
              try clear hcz30_4
              try clear hcz30_5
              try clear hcz30_6
              try clear hcz30_7
              try clear hcz30_8
              try clear hcz30_9
              try clear hcz5_0
              try clear hcz5_1
              try clear hcz5_2
              try clear hcz5_3
              try clear hcz5_4
              try clear hcz5_5
              try clear hcz5_6
              try clear hcz5_7
              try clear hcz5_8
              try clear hcz5_9
              try clear hcz6_0
              try clear hcz6_1
              try clear hcz6_2
              try clear hcz6_3
              try clear hcz6_4
              try clear hcz6_5
              try clear hcz6_6
              try clear hcz6_7
              try clear hcz6_8
              try clear hcz6_9
              try clear hfz12_0
              try clear hfz12_1
              try clear hfz12_2
              try clear hfz12_3
              try clear hfz12_4
              try clear hfz12_5
              try clear hfz12_6
              try clear hfz12_7
              try clear hfz12_8
              try clear hfz12_9
              try clear hfz13_0
              try clear hfz13_1
              try clear hfz13_2
              try clear hfz13_3
              try clear hfz13_4
              try clear hfz13_5
              try clear hfz13_6
              try clear hfz13_7
              try clear hfz13_8
              try clear hfz13_9
              try clear hfz17_0
              try clear hfz17_1
              try clear hfz17_2
              try clear hfz17_3
              try clear hfz17_4
              try clear hfz17_5
              try clear hfz17_6
              try clear hfz17_7
              try clear hfz17_8
              try clear hfz17_9
              try clear hfz18_0
              try clear hfz18_1
              try clear hfz18_2
              try clear hfz18_3
              try clear hfz18_4
              try clear hfz18_5
              try clear hfz18_6
              try clear hfz18_7
              try clear hfz18_8
              try clear hfz18_9
              try clear hfz22_0
              try clear hfz22_1
              try clear hfz22_2
              try clear hfz22_3
              try clear hfz22_4
              try clear hfz22_5
              try clear hfz22_6
              try clear hfz22_7
              try clear hfz22_8
              try clear hfz22_9
              try clear hfz23_0
              try clear hfz23_1
              try clear hfz23_2
              try clear hfz23_3
              try clear hfz23_4
              try clear hfz23_5
              try clear hfz23_6
              try clear hfz23_7
              try clear hfz23_8
              try clear hfz23_9
              try clear hfz29_0
              try clear hfz29_1
              try clear hfz29_2
              try clear hfz29_3
              try clear hfz29_4
              try clear hfz29_5
              try clear hfz29_6
              try clear hfz29_7
              try clear hfz29_8
              try clear hfz29_9
              try clear hfz30_0
              try clear hfz30_1
              try clear hfz30_2
              try clear hfz30_3
              try clear hfz30_4
              try clear hfz30_5
              try clear hfz30_6
              try clear hfz30_7
              try clear hfz30_8
              try clear hfz30_9
              try clear hfz5_0
              try clear hfz5_1
              try clear hfz5_2
              try clear hfz5_3
              try clear hfz5_4
              try clear hfz5_5
              try clear hfz5_6
              try clear hfz5_7
              try clear hfz5_8
              try clear hfz5_9
              try clear hfz6_0
              try clear hfz6_1
              try clear hfz6_2
              try clear hfz6_3
              try clear hfz6_4
              try clear hfz6_5
              try clear hfz6_6
              try clear hfz6_7
              try clear hfz6_8
              try clear hfz6_9
              try clear p2
              obtain ⟨kq, x50_24, rfl, HA, HJ24, BK101, HB⟩ := hcut
              cases kq with
              | zero => exact absurd HA.out (by simp [billiardref05_Check.j4])
              | succ kj24 =>
               have H := HA.out
               clear HA
               simp only [billiardref05_Check.j4] at H
               by_cases c31 : x50_24 = true
               ·subst c31
                rw [if_pos rfl] at H
                obtain rfl := Option.some.inj H
                go_wp2
                go_ret
                exact ⟨by first | rfl | (simp [errW_none, errW_some] <;> rfl) | (simp [*, errW_none, errW_some] <;> rfl), by repeat (first | (with_reducible first | exact HB.out | apply lA | apply lN | apply lD) | exact HB.out)⟩
               ·replace c31 := Bool.eq_false_iff.mpr c31
                subst c31
                rw [if_neg (show ¬ (false = true) by decide)] at H
                replace H := Option.bind_eq_some_iff.mp H
                obtain ⟨t106, A320, H⟩ := H
                try dsimp only at H
                have A32 := aM A320
                clear A320
                by_cases c33 : t106 = true
                ·subst c33
                 rw [if_pos rfl] at H
                 replace H := Option.bind_eq_some_iff.mp H
                 obtain ⟨t107, A340, H⟩ := H
                 try dsimp only at H
                 have A34 := aM A340
                 clear A340
                 by_cases c35 : t107 = true
                 ·subst c35
                  rw [if_pos rfl] at H
                  obtain rfl := Option.some.inj H
                  have hcz36_0 : wc.cell? ⟨b101, 0, none⟩ = some (.int .u32 a0_0) := (bC BK101.out 0).trans rfl
                  have hcz36_1 : wc.cell? ⟨b101, 1, none⟩ = some (.int .i32 a0_1) := (bC BK101.out 1).trans rfl
                  have hcz36_2 : wc.cell? ⟨b101, 2, none⟩ = some (.int .i32 a0_2) := (bC BK101.out 2).trans rfl
                  have hcz36_3 : wc.cell? ⟨b101, 3, none⟩ = some (.int .i32 a0_3) := (bC BK101.out 3).trans rfl
                  have hcz36_4 : wc.cell? ⟨b101, 4, none⟩ = some (.int .i32 a0_4) := (bC BK101.out 4).trans rfl
                  have hcz36_5 : wc.cell? ⟨b101, 5, none⟩ = some (.int .i32 a0_5) := (bC BK101.out 5).trans rfl
                  have hcz36_6 : wc.cell? ⟨b101, 6, none⟩ = some (.int .i32 a0_6) := (bC BK101.out 6).trans rfl
                  have hcz36_7 : wc.cell? ⟨b101, 7, none⟩ = some (.int .i32 a0_7) := (bC BK101.out 7).trans rfl
                  have hcz36_8 : wc.cell? ⟨b101, 8, none⟩ = some (.int .i32 a0_8) := (bC BK101.out 8).trans rfl
                  have hcz36_9 : wc.cell? ⟨b101, 9, none⟩ = some (.int .i32 a0_9) := (bC BK101.out 9).trans rfl
                  go_wp2_with (first | ((with_reducible refine gate_callee (f := 46) rfl ?_); refine goesL_ (some 54) rfl rfl Try.func46 (by kernel_rfl) rfl #[.int .i32 a0_8, .int .i32 16777216] rfl (by (try simp only [List.map_toArray, List.map_cons, List.map_nil]); first | done | rfl | (simp only [List.length_drop, List.length_take]; rfl)) ?_; (with_reducible refine (billiardref05_In.calls a0_8 16777216 true _ A32.out).mono ?_); rintro e w' ⟨rfl, ⟨nd, rfl⟩⟩; refine ⟨_, rfl, ?_⟩) | (go_at_call 46; (with_reducible refine (billiardref05_In.calls a0_9 16777216 true _ A34.out).mono ?_); rintro e w' ⟨rfl, ⟨nd, rfl⟩⟩))
                  go_ret
                  exact ⟨by first | rfl | (simp [errW_none, errW_some] <;> rfl) | (simp [*, errW_none, errW_some] <;> rfl), by repeat (first | (with_reducible first | exact HB.out | apply lA | apply lN | apply lD) | exact HB.out)⟩
                 ·replace c35 := Bool.eq_false_iff.mpr c35
                  subst c35
                  rw [if_neg (show ¬ (false = true) by decide)] at H
                  obtain rfl := Option.some.inj H
                  have hcz37_0 : wc.cell? ⟨b101, 0, none⟩ = some (.int .u32 a0_0) := (bC BK101.out 0).trans rfl
                  have hcz37_1 : wc.cell? ⟨b101, 1, none⟩ = some (.int .i32 a0_1) := (bC BK101.out 1).trans rfl
                  have hcz37_2 : wc.cell? ⟨b101, 2, none⟩ = some (.int .i32 a0_2) := (bC BK101.out 2).trans rfl
                  have hcz37_3 : wc.cell? ⟨b101, 3, none⟩ = some (.int .i32 a0_3) := (bC BK101.out 3).trans rfl
                  have hcz37_4 : wc.cell? ⟨b101, 4, none⟩ = some (.int .i32 a0_4) := (bC BK101.out 4).trans rfl
                  have hcz37_5 : wc.cell? ⟨b101, 5, none⟩ = some (.int .i32 a0_5) := (bC BK101.out 5).trans rfl
                  have hcz37_6 : wc.cell? ⟨b101, 6, none⟩ = some (.int .i32 a0_6) := (bC BK101.out 6).trans rfl
                  have hcz37_7 : wc.cell? ⟨b101, 7, none⟩ = some (.int .i32 a0_7) := (bC BK101.out 7).trans rfl
                  have hcz37_8 : wc.cell? ⟨b101, 8, none⟩ = some (.int .i32 a0_8) := (bC BK101.out 8).trans rfl
                  have hcz37_9 : wc.cell? ⟨b101, 9, none⟩ = some (.int .i32 a0_9) := (bC BK101.out 9).trans rfl
                  go_wp2_with (first | ((with_reducible refine gate_callee (f := 46) rfl ?_); refine goesL_ (some 54) rfl rfl Try.func46 (by kernel_rfl) rfl #[.int .i32 a0_8, .int .i32 16777216] rfl (by (try simp only [List.map_toArray, List.map_cons, List.map_nil]); first | done | rfl | (simp only [List.length_drop, List.length_take]; rfl)) ?_; (with_reducible refine (billiardref05_In.calls a0_8 16777216 true _ A32.out).mono ?_); rintro e w' ⟨rfl, ⟨nd, rfl⟩⟩; refine ⟨_, rfl, ?_⟩) | (go_at_call 46; (with_reducible refine (billiardref05_In.calls a0_9 16777216 false _ A34.out).mono ?_); rintro e w' ⟨rfl, ⟨nd, rfl⟩⟩))
                  go_ret
                  exact ⟨by first | rfl | (simp [errW_none, errW_some] <;> rfl) | (simp [*, errW_none, errW_some] <;> rfl), by repeat (first | (with_reducible first | exact HB.out | apply lA | apply lN | apply lD) | exact HB.out)⟩
                ·replace c33 := Bool.eq_false_iff.mpr c33
                 subst c33
                 rw [if_neg (show ¬ (false = true) by decide)] at H
                 obtain rfl := Option.some.inj H
                 have hcz38_0 : wc.cell? ⟨b101, 0, none⟩ = some (.int .u32 a0_0) := (bC BK101.out 0).trans rfl
                 have hcz38_1 : wc.cell? ⟨b101, 1, none⟩ = some (.int .i32 a0_1) := (bC BK101.out 1).trans rfl
                 have hcz38_2 : wc.cell? ⟨b101, 2, none⟩ = some (.int .i32 a0_2) := (bC BK101.out 2).trans rfl
                 have hcz38_3 : wc.cell? ⟨b101, 3, none⟩ = some (.int .i32 a0_3) := (bC BK101.out 3).trans rfl
                 have hcz38_4 : wc.cell? ⟨b101, 4, none⟩ = some (.int .i32 a0_4) := (bC BK101.out 4).trans rfl
                 have hcz38_5 : wc.cell? ⟨b101, 5, none⟩ = some (.int .i32 a0_5) := (bC BK101.out 5).trans rfl
                 have hcz38_6 : wc.cell? ⟨b101, 6, none⟩ = some (.int .i32 a0_6) := (bC BK101.out 6).trans rfl
                 have hcz38_7 : wc.cell? ⟨b101, 7, none⟩ = some (.int .i32 a0_7) := (bC BK101.out 7).trans rfl
                 have hcz38_8 : wc.cell? ⟨b101, 8, none⟩ = some (.int .i32 a0_8) := (bC BK101.out 8).trans rfl
                 have hcz38_9 : wc.cell? ⟨b101, 9, none⟩ = some (.int .i32 a0_9) := (bC BK101.out 9).trans rfl
                 go_wp2_with (first | ((with_reducible refine gate_callee (f := 46) rfl ?_); refine goesL_ (some 54) rfl rfl Try.func46 (by kernel_rfl) rfl #[.int .i32 a0_8, .int .i32 16777216] rfl (by (try simp only [List.map_toArray, List.map_cons, List.map_nil]); first | done | rfl | (simp only [List.length_drop, List.length_take]; rfl)) ?_; (with_reducible refine (billiardref05_In.calls a0_8 16777216 false _ A32.out).mono ?_); rintro e w' ⟨rfl, ⟨nd, rfl⟩⟩; refine ⟨_, rfl, ?_⟩))
                 go_ret
                 exact ⟨by first | rfl | (simp [errW_none, errW_some] <;> rfl) | (simp [*, errW_none, errW_some] <;> rfl), by repeat (first | (with_reducible first | exact HB.out | apply lA | apply lN | apply lD) | exact HB.out)⟩

end Go.Proofs.Ytcbdcgghccjdpaa.Q
