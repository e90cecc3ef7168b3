-- PRINTED by print.py (a twelfth state) out of the translation. Not trusted: Lean checks it.
import Derived.Test.YtahbfafnodeimaaQ0
import Derived.Test.YtahbfafnodeimaaQbilliardref01
import Derived.Test.YtahbfafnodeimaaQbilliardref03
namespace Go.Proofs.Ytahbfafnodeimaa.Q
open Go.RowKit Go.Proofs.YtahbfafnodeimaaW.PrintWords Go.Proofs.YtahbfafnodeimaaW.PrintLast Go.Proofs.YtahbfafnodeimaaW.PrintMore
open Go.Proofs.YtahbfafnodeimaaW.PrintWords renaming blk_drewN → bN, blk_drew → bD, blk_alloc → bA, blk_cell → bC, blk_frozen → bF, blk_put → bP, below_alloc → lA, pw_below_drewN → lN, below_drew1 → lD, below_set → lS, below_step → lT, below_size → lZ, Aside0.mk → aM
open List renaming setIfInBounds_toArray → sA, set_cons_zero → sB, set_cons_succ → sC
open Bool renaming true → T, false → F
attribute [local go_sem] max2_int min2_int max_two min_two max_three min_three max_four min_four   -- for this text's walks alone
set_option linter.unusedVariables false
set_option linter.unusedSimpArgs false

/-! ### billiardref04_LengthSq: function 39 -/
def billiardref04_LengthSq.f (a0 : Int) (a1 : Int) : Option (Int) := if a0 < 0 then (if a1 < 0 then (some (IntKind.u64.wrap ((IntKind.u64.wrap ((IntKind.u64.wrap (wrap64 (-a0))) * (IntKind.u64.wrap (wrap64 (-a0))))) + (IntKind.u64.wrap ((IntKind.u64.wrap (wrap64 (-a1))) * (IntKind.u64.wrap (wrap64 (-a1)))))))) else (some (IntKind.u64.wrap ((IntKind.u64.wrap ((IntKind.u64.wrap (wrap64 (-a0))) * (IntKind.u64.wrap (wrap64 (-a0))))) + (IntKind.u64.wrap ((IntKind.u64.wrap (a1)) * (IntKind.u64.wrap (a1)))))))) else (if a1 < 0 then (some (IntKind.u64.wrap ((IntKind.u64.wrap ((IntKind.u64.wrap (a0)) * (IntKind.u64.wrap (a0)))) + (IntKind.u64.wrap ((IntKind.u64.wrap (wrap64 (-a1))) * (IntKind.u64.wrap (wrap64 (-a1)))))))) else (some (IntKind.u64.wrap ((IntKind.u64.wrap ((IntKind.u64.wrap (a0)) * (IntKind.u64.wrap (a0)))) + (IntKind.u64.wrap ((IntKind.u64.wrap (a1)) * (IntKind.u64.wrap (a1))))))))
set_option maxHeartbeats 8000000 in
set_option maxRecDepth 100000 in
theorem billiardref04_LengthSq.calls (a0 : Int) (a1 : Int) (r : Int) (w : World) (h : billiardref04_LengthSq.f a0 a1 = some r) :
  Calls Try.prog 39 #[.int .i64 a0, .int .i64 a1] w fun e w' => e = .returned (.int .u64 r) ∧ Drawn0 w w' := by
 have H : (if a0 < 0 then (if a1 < 0 then (some (IntKind.u64.wrap ((IntKind.u64.wrap ((IntKind.u64.wrap (wrap64 (-a0))) * (IntKind.u64.wrap (wrap64 (-a0))))) + (IntKind.u64.wrap ((IntKind.u64.wrap (wrap64 (-a1))) * (IntKind.u64.wrap (wrap64 (-a1)))))))) else (some (IntKind.u64.wrap ((IntKind.u64.wrap ((IntKind.u64.wrap (wrap64 (-a0))) * (IntKind.u64.wrap (wrap64 (-a0))))) + (IntKind.u64.wrap ((IntKind.u64.wrap (a1)) * (IntKind.u64.wrap (a1)))))))) else (if a1 < 0 then (some (IntKind.u64.wrap ((IntKind.u64.wrap ((IntKind.u64.wrap (a0)) * (IntKind.u64.wrap (a0)))) + (IntKind.u64.wrap ((IntKind.u64.wrap (wrap64 (-a1))) * (IntKind.u64.wrap (wrap64 (-a1)))))))) else (some (IntKind.u64.wrap ((IntKind.u64.wrap ((IntKind.u64.wrap (a0)) * (IntKind.u64.wrap (a0)))) + (IntKind.u64.wrap ((IntKind.u64.wrap (a1)) * (IntKind.u64.wrap (a1))))))))) = some r := h
 clear h
 by_cases c3 : a0 < 0
 ·rw [if_pos c3] at H
  have c3b0 : decide (a0 < 0) = true := decide_eq_true c3
  clear c3
  by_cases c4 : a1 < 0
  ·rw [if_pos c4] at H
   have c4b0 : decide (a1 < 0) = true := decide_eq_true c4
   clear c4
   obtain rfl := Option.some.inj H
   go_enter Try.func39, Try.ntmps39
   go_wp2
   go_ret
   exact ⟨by first | rfl | (simp; done) | (simp [*]; done), by repeat (first | exact Drawn0.refl _ | apply Drawn0.step)⟩
  ·rw [if_neg c4] at H
   have c4b0 : decide (a1 < 0) = false := decide_eq_false c4
   clear c4
   obtain rfl := Option.some.inj H
   go_enter Try.func39, Try.ntmps39
   go_wp2
   go_ret
   exact ⟨by first | rfl | (simp; done) | (simp [*]; done), by repeat (first | exact Drawn0.refl _ | apply Drawn0.step)⟩
 ·rw [if_neg c3] at H
  have c3b0 : decide (a0 < 0) = false := decide_eq_false c3
  clear c3
  by_cases c5 : a1 < 0
  ·rw [if_pos c5] at H
   have c5b0 : decide (a1 < 0) = true := decide_eq_true c5
   clear c5
   obtain rfl := Option.some.inj H
   go_enter Try.func39, Try.ntmps39
   go_wp2
   go_ret
   exact ⟨by first | rfl | (simp; done) | (simp [*]; done), by repeat (first | exact Drawn0.refl _ | apply Drawn0.step)⟩
  ·rw [if_neg c5] at H
   have c5b0 : decide (a1 < 0) = false := decide_eq_false c5
   clear c5
   obtain rfl := Option.some.inj H
   go_enter Try.func39, Try.ntmps39
   go_wp2
   go_ret
   exact ⟨by first | rfl | (simp; done) | (simp [*]; done), by repeat (first | exact Drawn0.refl _ | apply Drawn0.step)⟩

/-! ### billiardref04_Length: function 27 -/
def billiardref04_Length.f (k : Nat) (a0 : Int) (a1 : Int) : Option (Int) := (billiardref04_LengthSq.f a0 a1).bind fun t366 => ((billiardref03_Isqrt.f k t366).bind fun t367 => (some (wrap64 (t367))))
theorem billiardref04_Length.mono : ∀ a0 a1 k, LeO (billiardref04_Length.f k a0 a1) (billiardref04_Length.f (k + 1) a0 a1) := by
 intro a0 a1 k
 unfold billiardref04_Length.f
 repeat' first
   | (with_reducible exact billiardref03_Isqrt.mono _ _)
   | (with_reducible exact LeO.refl _)
   | (with_reducible exact LeO.none _)
   | (with_reducible refine LeO.ite ?_ ?_)
   | (with_reducible refine LeO.bind ?_ (fun _ => ?_))
   | exact billiardref03_Isqrt.mono _ _
   | exact LeO.none _
   | refine LeO.ite ?_ ?_
   | refine LeO.bind ?_ (fun _ => ?_)
set_option maxHeartbeats 8000000 in
set_option maxRecDepth 100000 in
theorem billiardref04_Length.calls (k : Nat) (a0 : Int) (a1 : Int) (r : Int) (w : World) (h : billiardref04_Length.f k a0 a1 = some r) :
  Calls Try.prog 27 #[.int .i64 a0, .int .i64 a1] w fun e w' => e = .returned (.int .i64 r) ∧ Drawn0 w w' := by
 have H : ((billiardref04_LengthSq.f a0 a1).bind fun t366 => ((billiardref03_Isqrt.f k t366).bind fun t367 => (some (wrap64 (t367))))) = some r := h
 clear h
 replace H := Option.bind_eq_some_iff.mp H
 obtain ⟨t366, A30, H⟩ := H
 replace H : ((billiardref03_Isqrt.f k t366).bind fun t367 => (some (wrap64 (t367)))) = some r := H
 have A3 := aM A30
 clear A30
 replace H := Option.bind_eq_some_iff.mp H
 obtain ⟨t367, A40, H⟩ := H
 replace H : (some (wrap64 (t367))) = some r := H
 have A4 := aM A40
 clear A40
 obtain rfl := Option.some.inj H
 go_enter Try.func27, Try.ntmps27
 go_wp2_with (first | ((with_reducible refine gate_callee (f := 39) rfl ?_); refine goesL_ (some 7) rfl rfl Try.func39 (by kernel_rfl) rfl #[.int .i64 a0, .int .i64 a1] rfl (by (try simp only [List.map_toArray, List.map_cons, List.map_nil]); first | done | rfl | (simp only [List.length_drop, List.length_take]; rfl)) ?_; (with_reducible refine (billiardref04_LengthSq.calls a0 a1 t366 _ A3.out).mono ?_); rintro e w' ⟨rfl, ⟨nd, rfl⟩⟩; refine ⟨_, rfl, ?_⟩) | ((with_reducible refine gate_callee (f := 41) rfl ?_); refine goesL_ (some 8) rfl rfl Try.func41 (by kernel_rfl) rfl #[.int .u64 t366] rfl (by (try simp only [List.map_toArray, List.map_cons, List.map_nil]); first | done | rfl | (simp only [List.length_drop, List.length_take]; rfl)) ?_; (with_reducible refine (billiardref03_Isqrt.calls k t366 t367 _ A4.out).mono ?_); rintro e w' ⟨rfl, ⟨nd, rfl⟩⟩; refine ⟨_, rfl, ?_⟩))
 go_ret
 exact ⟨by first | rfl | (simp; done) | (simp [*]; done), by repeat (first | exact Drawn0.refl _ | apply Drawn0.step)⟩

/-! ### billiardref04_Unit: function 26 -/
def billiardref04_Unit.j0 : Nat → Int → Int → Bool → Option (Int × Int)
 | 0, _, _, _ => none
 | k + 1, x0, x1, x11 => if x11 = true then (some (65536, 0)) else ((billiardref04_Length.f k x0 x1).bind fun t369 => ((billiardref01_Floor.f (wrap64 (x0 * 65536)) t369).bind fun t370 => ((billiardref01_Floor.f (wrap64 (x1 * 65536)) t369).bind fun t371 => (some (wrap32 (t370), wrap32 (t371))))))
def billiardref04_Unit.f (k : Nat) (a0 : Int) (a1 : Int) : Option (Int × Int) := if a0 = 0 then (billiardref04_Unit.j0 k a0 a1 (a1 == 0)) else (billiardref04_Unit.j0 k a0 a1 false)
theorem billiardref04_Unit.mono_l : ∀ k, (∀ y0 y1 y2, LeO (billiardref04_Unit.j0 k y0 y1 y2) (billiardref04_Unit.j0 (k + 1) y0 y1 y2))
 | 0 => fun _ _ _ r h => by simp [billiardref04_Unit.j0] at h
 | k + 1 => by
  have ih0 := billiardref04_Unit.mono_l k
  ·intro y0 y1 y2
   unfold billiardref04_Unit.j0
   repeat' first
   | (with_reducible exact ih0 _ _ _)
   | (with_reducible exact billiardref04_Length.mono _ _ _)
   | (with_reducible exact LeO.refl _)
   | (with_reducible exact LeO.none _)
   | (with_reducible refine LeO.ite ?_ ?_)
   | (with_reducible refine LeO.bind ?_ (fun _ => ?_))
   | exact ih0 _ _ _
   | exact billiardref04_Length.mono _ _ _
   | exact LeO.none _
   | refine LeO.ite ?_ ?_
   | refine LeO.bind ?_ (fun _ => ?_)
theorem billiardref04_Unit.mono : ∀ a0 a1 k, LeO (billiardref04_Unit.f k a0 a1) (billiardref04_Unit.f (k + 1) a0 a1) := by
 intro a0 a1 k
 have ih0 := billiardref04_Unit.mono_l k
 unfold billiardref04_Unit.f
 repeat' first
   | (with_reducible exact ih0 _ _ _)
   | (with_reducible exact billiardref04_Length.mono _ _ _)
   | (with_reducible exact LeO.refl _)
   | (with_reducible exact LeO.none _)
   | (with_reducible refine LeO.ite ?_ ?_)
   | (with_reducible refine LeO.bind ?_ (fun _ => ?_))
   | exact ih0 _ _ _
   | exact billiardref04_Length.mono _ _ _
   | exact LeO.none _
   | refine LeO.ite ?_ ?_
   | refine LeO.bind ?_ (fun _ => ?_)
set_option maxHeartbeats 8000000 in
set_option maxRecDepth 100000 in
theorem billiardref04_Unit.calls (k : Nat) (a0 : Int) (a1 : Int) (r1 : Int) (r2 : Int) (w : World) (h : billiardref04_Unit.f k a0 a1 = some (r1, r2)) :
  Calls Try.prog 26 #[.int .i64 a0, .int .i64 a1] w fun e w' => e = .returned (.agg #[.int .i32 r1, .int .i32 r2]) ∧ Below w.heap.size w w' := by
 have hu24 := Try.underlying24
 have HB := aM (Below.refl w.heap.size w)
 have H : (if a0 = 0 then (billiardref04_Unit.j0 k a0 a1 (a1 == 0)) else (billiardref04_Unit.j0 k a0 a1 false)) = some (r1, r2) := h
 clear h
 have HC3 := aM H
 clear H
 go_enter Try.func26, Try.ntmps26
 go_upto_region 1 with (first | ((with_reducible refine gate_dst (N := 4) rfl ?_); refine box_event ?hg (N := 4) ?hd (cs := #[.int .i32 0, .int .i32 0]) (t := 24) ?hr ?_; (case hd => rfl); (case hg => rfl); (case hr => first | (go_simp; done) | (go_simp; rfl)); intro b368 hg w4 hbox hb; have n0_ := aM (lT (by repeat (first | (with_reducible first | exact HB.out | apply lA | apply lN | apply lD) | exact HB.out)) hb); have n1_ := aM (hbox); have n2_ := aM ((by rw [hg]; exact (lZ (by repeat (first | (with_reducible first | exact HB.out | apply lA | apply lN | apply lD) | exact HB.out))) : w.heap.size ≤ b368)); have n3_ := aM ((by rw [hg]; exact (lZ (by repeat (first | (with_reducible first | exact HB.out | apply lA | apply lN | apply lD) | exact HB.out))) : w.heap.size ≤ b368)); clear HB; have HB := n0_; have BK368 := n1_; have GW368 := n2_; have GE368 := n3_; clear n0_ n1_ n2_ n3_; clear hb hbox hg))
 (try simp only [Act.put, sA, sB, sC])
 go_cut [11] (fun v11 wc => ∃ (kq : Nat) (x11_2 : Bool), v11 = .bool x11_2 ∧ Aside0 (billiardref04_Unit.j0 kq a0 a1 x11_2 = some (r1, r2)) ∧ Aside0 (kq ≤ k) ∧ Aside0 (wc.heap[b368]? = some (.cells #[.int .i32 0, .int .i32 0] 24 (0, 0))) ∧ Aside0 (Below w.heap.size w wc))
 case first =>
  have H := HC3.out
  clear HC3
  by_cases c5 : a0 = 0
  ·rw [if_pos c5] at H
   have c5b0 : (a0 == 0) = true := beq_iff_eq.mpr c5
   have c5b1 : (a0 != 0) = false := bne_eq_false_iff_eq.mpr c5
   clear c5
   (first | rw [c5b0] | (simp only [i64_w, i32_w]; rw [c5b0]) | skip)
   have H' := aM H
   clear H
   go_wp2
   go_meet
   case rel => exact ⟨_, ((a1 == 0)), (by first | rfl | (simp; done) | (simp [*]; done)), H', ⟨by first | omega | exact Nat.le_refl _⟩, ⟨by (with_reducible repeat first | apply bN | apply bD | apply bA); exact BK368.out⟩, ⟨by repeat (first | (with_reducible first | exact HB.out | apply lA | apply lN | apply lD | refine lS ?_ GE368.out) | exact HB.out)⟩⟩
  ·rw [if_neg c5] at H
   have c5b0 : (a0 == 0) = false := beq_eq_false_iff_ne.mpr c5
   have c5b1 : (a0 != 0) = true := bne_iff_ne.mpr c5
   (first | rw [c5b0] | (simp only [i64_w, i32_w]; rw [c5b0]) | skip)
   have H' := aM H
   clear H
   go_wp2
   go_meet
   case rel => exact ⟨_, (false), (by first | rfl | (simp; done) | (simp [*]; done)), H', ⟨by first | omega | exact Nat.le_refl _⟩, ⟨by (with_reducible repeat first | apply bN | apply bD | apply bA); exact BK368.out⟩, ⟨by repeat (first | (with_reducible first | exact HB.out | apply lA | apply lN | apply lD | refine lS ?_ GE368.out) | exact HB.out)⟩⟩
 case rest =>
  clear HC3
  try clear c2
  try clear p2
  try clear c5
  try clear c5b0
  try clear c5b1
  obtain ⟨kq, x11_2, rfl, HA, HJ2, BK368, HB⟩ := hcut
  cases kq with
  | zero => exact absurd HA.out (by simp [billiardref04_Unit.j0])
  | succ kj2 =>
   have H := HA.out
   clear HA
   simp only [billiardref04_Unit.j0] at H
   by_cases c6 : x11_2 = true
   ·subst c6
    have H1 : (some (65536, 0)) = some (r1, r2) := by rw [if_pos rfl] at H; exact H
    clear H
    have H := H1
    clear H1
    simp only [Option.some.injEq, Prod.mk.injEq] at H
    obtain ⟨rfl, rfl⟩ := H
    have hcz7_0 : wc.cell? ⟨b368, 0, none⟩ = some (.int .i32 0) := (bC BK368.out 0).trans rfl
    have hcz7_1 : wc.cell? ⟨b368, 1, none⟩ = some (.int .i32 0) := (bC BK368.out 1).trans rfl
    have hfz7_0 := bF BK368.out 0
    have hfz7_1 := bF BK368.out 1
    go_wp2
    refine bodyPost_ret (results_cell_row rfl _ _ b368 24 #[.int .i32 65536, .int .i32 0] (0, 0) _ rfl (by (with_reducible repeat first | apply bN | apply bD | apply bA); refine bP (cs := #[.int .i32 65536, .int .i32 0]) ?_ 1 _ rfl; (with_reducible repeat first | apply bN | apply bD | apply bA); refine bP (cs := #[.int .i32 0, .int .i32 0]) ?_ 0 _ rfl; (with_reducible repeat first | apply bN | apply bD | apply bA); exact BK368.out) Try.underlying24 rfl (by kernel_rfl)) rfl ?_
    exact ⟨by first | rfl | (simp [errW_none, errW_some] <;> rfl) | (simp [*, errW_none, errW_some] <;> rfl), by repeat (first | (with_reducible first | exact HB.out | apply lA | apply lN | apply lD | refine lS ?_ GE368.out) | exact HB.out)⟩
   ·replace c6 := Bool.eq_false_iff.mpr c6
    subst c6
    have H1 : ((billiardref04_Length.f kj2 a0 a1).bind fun t369 => ((billiardref01_Floor.f (wrap64 (a0 * 65536)) t369).bind fun t370 => ((billiardref01_Floor.f (wrap64 (a1 * 65536)) t369).bind fun t371 => (some (wrap32 (t370), wrap32 (t371)))))) = some (r1, r2) := by rw [if_neg (show ¬ (false = true) by decide)] at H; exact H
    clear H
    have H := H1
    clear H1
    replace H := Option.bind_eq_some_iff.mp H
    obtain ⟨t369, A80, H⟩ := H
    replace H : ((billiardref01_Floor.f (wrap64 (a0 * 65536)) t369).bind fun t370 => ((billiardref01_Floor.f (wrap64 (a1 * 65536)) t369).bind fun t371 => (some (wrap32 (t370), wrap32 (t371))))) = some (r1, r2) := H
    have A8 := aM A80
    clear A80
    replace H := Option.bind_eq_some_iff.mp H
    obtain ⟨t370, A90, H⟩ := H
    replace H : ((billiardref01_Floor.f (wrap64 (a1 * 65536)) t369).bind fun t371 => (some (wrap32 (t370), wrap32 (t371)))) = some (r1, r2) := H
    have A9 := aM A90
    clear A90
    replace H := Option.bind_eq_some_iff.mp H
    obtain ⟨t371, A100, H⟩ := H
    replace H : (some (wrap32 (t370), wrap32 (t371))) = some (r1, r2) := H
    have A10 := aM A100
    clear A100
    simp only [Option.some.injEq, Prod.mk.injEq] at H
    obtain ⟨rfl, rfl⟩ := H
    go_wp2_with (first | ((with_reducible refine gate_callee (f := 27) rfl ?_); refine goesL_ (some 15) rfl rfl Try.func27 (by kernel_rfl) rfl #[.int .i64 a0, .int .i64 a1] rfl (by (try simp only [List.map_toArray, List.map_cons, List.map_nil]); first | done | rfl | (simp only [List.length_drop, List.length_take]; rfl)) ?_; (with_reducible refine (billiardref04_Length.calls kj2 a0 a1 t369 _ A8.out).mono ?_); rintro e w' ⟨rfl, ⟨nd, rfl⟩⟩; refine ⟨_, rfl, ?_⟩; (try (rw [drewN_self wc]; generalize hq_ : World.drewN wc _ = wc; have n0_ : Aside0 (wc.heap[b368]? = some (.cells #[.int .i32 0, .int .i32 0] 24 (0, 0))) := ⟨by rw [← hq_]; exact (by (with_reducible repeat first | apply bN | apply bD | apply bA); exact BK368.out)⟩; have n1_ : Aside0 (Below w.heap.size w wc) := ⟨by rw [← hq_]; exact (by repeat (first | (with_reducible first | exact HB.out | apply lA | apply lN | apply lD | refine lS ?_ GE368.out) | exact HB.out))⟩; clear BK368 HB hq_; have BK368 := n0_; have HB := n1_; clear n0_ n1_))) | ((with_reducible refine gate_callee (f := 40) rfl ?_); refine goesL_ (some 19) rfl rfl Try.func40 (by kernel_rfl) rfl #[.int .i64 (wrap64 (a0 * 65536)), .int .i64 t369] rfl (by (try simp only [List.map_toArray, List.map_cons, List.map_nil]); first | done | rfl | (simp only [List.length_drop, List.length_take]; rfl)) ?_; (with_reducible refine (billiardref01_Floor.calls (wrap64 (a0 * 65536)) t369 t370 _ A9.out).mono ?_); rintro e w' ⟨rfl, ⟨nd, rfl⟩⟩; refine ⟨_, rfl, ?_⟩; (try (rw [drewN_self wc]; generalize hq_ : World.drewN wc _ = wc; have n0_ : Aside0 (wc.heap[b368]? = some (.cells #[.int .i32 0, .int .i32 0] 24 (0, 0))) := ⟨by rw [← hq_]; exact (by (with_reducible repeat first | apply bN | apply bD | apply bA); exact BK368.out)⟩; have n1_ : Aside0 (Below w.heap.size w wc) := ⟨by rw [← hq_]; exact (by repeat (first | (with_reducible first | exact HB.out | apply lA | apply lN | apply lD | refine lS ?_ GE368.out) | exact HB.out))⟩; clear BK368 HB hq_; have BK368 := n0_; have HB := n1_; clear n0_ n1_))) | ((with_reducible refine gate_callee (f := 40) rfl ?_); refine goesL_ (some 24) rfl rfl Try.func40 (by kernel_rfl) rfl #[.int .i64 (wrap64 (a1 * 65536)), .int .i64 t369] rfl (by (try simp only [List.map_toArray, List.map_cons, List.map_nil]); first | done | rfl | (simp only [List.length_drop, List.length_take]; rfl)) ?_; (with_reducible refine (billiardref01_Floor.calls (wrap64 (a1 * 65536)) t369 t371 _ A10.out).mono ?_); rintro e w' ⟨rfl, ⟨nd, rfl⟩⟩; refine ⟨_, rfl, ?_⟩; (try (rw [drewN_self wc]; generalize hq_ : World.drewN wc _ = wc; have n0_ : Aside0 (wc.heap[b368]? = some (.cells #[.int .i32 0, .int .i32 0] 24 (0, 0))) := ⟨by rw [← hq_]; exact (by (with_reducible repeat first | apply bN | apply bD | apply bA); exact BK368.out)⟩; have n1_ : Aside0 (Below w.heap.size w wc) := ⟨by rw [← hq_]; exact (by repeat (first | (with_reducible first | exact HB.out | apply lA | apply lN | apply lD | refine lS ?_ GE368.out) | exact HB.out))⟩; clear BK368 HB hq_; have BK368 := n0_; have HB := n1_; clear n0_ n1_)); have hcz11_0 : wc.cell? ⟨b368, 0, none⟩ = some (.int .i32 0) := (bC BK368.out 0).trans rfl; have hcz11_1 : wc.cell? ⟨b368, 1, none⟩ = some (.int .i32 0) := (bC BK368.out 1).trans rfl; have hfz11_0 := bF BK368.out 0; have hfz11_1 := bF BK368.out 1))
    refine bodyPost_ret (results_cell_row rfl _ _ b368 24 #[.int .i32 (wrap32 (t370)), .int .i32 (wrap32 (t371))] (0, 0) _ rfl (by (with_reducible repeat first | apply bN | apply bD | apply bA); refine bP (cs := #[.int .i32 (wrap32 (t370)), .int .i32 0]) ?_ 1 _ rfl; (with_reducible repeat first | apply bN | apply bD | apply bA); refine bP (cs := #[.int .i32 0, .int .i32 0]) ?_ 0 _ rfl; (with_reducible repeat first | apply bN | apply bD | apply bA); exact BK368.out) Try.underlying24 rfl (by kernel_rfl)) rfl ?_
    exact ⟨by first | rfl | (simp [errW_none, errW_some] <;> rfl) | (simp [*, errW_none, errW_some] <;> rfl), by repeat (first | (with_reducible first | exact HB.out | apply lA | apply lN | apply lD | refine lS ?_ GE368.out) | exact HB.out)⟩

end Go.Proofs.Ytahbfafnodeimaa.Q
