-- PRINTED by print.py (a twelfth state) out of the translation. Not trusted: Lean checks it.
import Derived.Test.YtahbfafnodeimaaQ0
import Derived.Test.YtahbfafnodeimaaQroot
namespace Go.Proofs.Ytahbfafnodeimaa.Q
open Go.RowKit Go.Proofs.YtahbfafnodeimaaW.PrintWords Go.Proofs.YtahbfafnodeimaaW.PrintLast Go.Proofs.YtahbfafnodeimaaW.PrintMore
open Go.Proofs.YtahbfafnodeimaaW.PrintWords renaming blk_drewN → bN, blk_drew → bD, blk_alloc → bA, blk_below → bB, blk_cell → bC, blk_frozen → bF, blk_lt → bL, blk_put → bP, below_alloc → lA, pw_below_drewN → lN, below_drew1 → lD, below_set → lS, below_step → lT, below_size → lZ, Aside0.mk → aM
open Bool renaming true → T, false → F
attribute [local go_sem] max2_int min2_int max_two min_two max_three min_three max_four min_four   -- for this text's walks alone
set_option linter.unusedVariables false
set_option linter.unusedSimpArgs false

/-! ### vec_square: function 33 -/
def vec_square.f (a0 : Int) : Option (Int) := if a0 < 0 then (some (IntKind.u64.wrap ((IntKind.u64.wrap (wrap64 (-a0))) * (IntKind.u64.wrap (wrap64 (-a0)))))) else (some (IntKind.u64.wrap ((IntKind.u64.wrap (a0)) * (IntKind.u64.wrap (a0)))))
set_option maxHeartbeats 8000000 in
set_option maxRecDepth 100000 in
theorem vec_square.calls (a0 : Int) (r : Int) (w : World) (h : vec_square.f a0 = some r) :
  Calls Try.prog 33 #[.int .i64 a0] w fun e w' => e = .returned (.int .u64 r) ∧ Drawn0 w w' := by
 have H : (if a0 < 0 then (some (IntKind.u64.wrap ((IntKind.u64.wrap (wrap64 (-a0))) * (IntKind.u64.wrap (wrap64 (-a0)))))) else (some (IntKind.u64.wrap ((IntKind.u64.wrap (a0)) * (IntKind.u64.wrap (a0)))))) = some r := h
 clear h
 by_cases c2 : a0 < 0
 ·rw [if_pos c2] at H
  have c2b0 : decide (a0 < 0) = true := decide_eq_true c2
  clear c2
  obtain rfl := Option.some.inj H
  go_enter Try.func33, Try.ntmps33
  go_wp2
  go_ret
  exact ⟨by first | rfl | (simp; done) | (simp [*]; done), by repeat (first | exact Drawn0.refl _ | apply Drawn0.step)⟩
 ·rw [if_neg c2] at H
  have c2b0 : decide (a0 < 0) = false := decide_eq_false c2
  clear c2
  obtain rfl := Option.some.inj H
  go_enter Try.func33, Try.ntmps33
  go_wp2
  go_ret
  exact ⟨by first | rfl | (simp; done) | (simp [*]; done), by repeat (first | exact Drawn0.refl _ | apply Drawn0.step)⟩

/-! ### vec_LengthSq: function 21 -/
def vec_LengthSq.f (a0 : Int) (a1 : Int) : Option (Int) := (vec_square.f a0).bind fun t169 => ((vec_square.f a1).bind fun t170 => (some (IntKind.u64.wrap (t169 + t170))))
set_option maxHeartbeats 8000000 in
set_option maxRecDepth 100000 in
theorem vec_LengthSq.calls (a0 : Int) (a1 : Int) (r : Int) (w : World) (h : vec_LengthSq.f a0 a1 = some r) :
  Calls Try.prog 21 #[.int .i64 a0, .int .i64 a1] w fun e w' => e = .returned (.int .u64 r) ∧ Drawn0 w w' := by
 have H : ((vec_square.f a0).bind fun t169 => ((vec_square.f a1).bind fun t170 => (some (IntKind.u64.wrap (t169 + t170))))) = some r := h
 clear h
 replace H := Option.bind_eq_some_iff.mp H
 obtain ⟨t169, A30, H⟩ := H
 replace H : ((vec_square.f a1).bind fun t170 => (some (IntKind.u64.wrap (t169 + t170)))) = some r := H
 have A3 := aM A30
 clear A30
 replace H := Option.bind_eq_some_iff.mp H
 obtain ⟨t170, A40, H⟩ := H
 replace H : (some (IntKind.u64.wrap (t169 + t170))) = some r := H
 have A4 := aM A40
 clear A40
 obtain rfl := Option.some.inj H
 go_enter Try.func21, Try.ntmps21
 go_wp2_with (first | ((with_reducible refine gate_callee (f := 33) rfl ?_); refine goesL_ (some 6) rfl rfl Try.func33 (by kernel_rfl) rfl #[.int .i64 a0] rfl (by (try simp only [List.map_toArray, List.map_cons, List.map_nil]); first | done | rfl | (simp only [List.length_drop, List.length_take]; rfl)) ?_; (with_reducible refine (vec_square.calls a0 t169 _ A3.out).mono ?_); rintro e w' ⟨rfl, ⟨nd, rfl⟩⟩; refine ⟨_, rfl, ?_⟩) | ((with_reducible refine gate_callee (f := 33) rfl ?_); refine goesL_ (some 8) rfl rfl Try.func33 (by kernel_rfl) rfl #[.int .i64 a1] rfl (by (try simp only [List.map_toArray, List.map_cons, List.map_nil]); first | done | rfl | (simp only [List.length_drop, List.length_take]; rfl)) ?_; (with_reducible refine (vec_square.calls a1 t170 _ A4.out).mono ?_); rintro e w' ⟨rfl, ⟨nd, rfl⟩⟩; refine ⟨_, rfl, ?_⟩))
 go_ret
 exact ⟨by first | rfl | (simp; done) | (simp [*]; done), by repeat (first | exact Drawn0.refl _ | apply Drawn0.step)⟩

/-! ### vec_Diff: function 32 -/
def vec_Diff.f (a0_0 : Int) (a0_1 : Int) (a1_0 : Int) (a1_1 : Int) : Option (Int × Int) := some (wrap64 ((wrap64 (a1_0)) - (wrap64 (a0_0))), wrap64 ((wrap64 (a1_1)) - (wrap64 (a0_1))))
set_option maxHeartbeats 8000000 in
set_option maxRecDepth 100000 in
theorem vec_Diff.calls (a0_0 : Int) (a0_1 : Int) (a1_0 : Int) (a1_1 : Int) (r1 : Int) (r2 : Int) (w : World) (h : vec_Diff.f a0_0 a0_1 a1_0 a1_1 = some (r1, r2)) :
  Calls Try.prog 32 #[.agg #[.int .i32 a0_0, .int .i32 a0_1], .agg #[.int .i32 a1_0, .int .i32 a1_1]] w fun e w' => e = .returned (.tuple #[.int .i64 r1, .int .i64 r2]) ∧ Below w.heap.size w w' := by
 have hu24 := Try.underlying24
 have HB := aM (Below.refl w.heap.size w)
 have H : (some (wrap64 ((wrap64 (a1_0)) - (wrap64 (a0_0))), wrap64 ((wrap64 (a1_1)) - (wrap64 (a0_1))))) = some (r1, r2) := h
 clear h
 simp only [Option.some.injEq, Prod.mk.injEq] at H
 obtain ⟨rfl, rfl⟩ := H
 go_enter Try.func32, Try.ntmps32
 go_wp2_with (first | ((with_reducible refine gate_dst (N := 2) rfl ?_); refine box_event ?hg (N := 2) ?hd (cs := #[.int .i32 a0_0, .int .i32 a0_1]) (t := 24) ?hr ?_; (case hd => rfl); (case hg => rfl); (case hr => first | (go_simp; done) | (go_simp; rfl)); intro b171 hg w3 hbox hb; have n0_ := aM (lT (by repeat (first | (with_reducible first | exact HB.out | apply lA | apply lN | apply lD) | exact HB.out)) hb); have n1_ := aM (hbox); have n2_ := aM ((by rw [hg]; exact (lZ (by repeat (first | (with_reducible first | exact HB.out | apply lA | apply lN | apply lD) | exact HB.out))) : w.heap.size ≤ b171)); have n3_ := aM ((by rw [hg]; exact (lZ (by repeat (first | (with_reducible first | exact HB.out | apply lA | apply lN | apply lD) | exact HB.out))) : w.heap.size ≤ b171)); clear HB; have HB := n0_; have BK171 := n1_; have GW171 := n2_; have GE171 := n3_; clear n0_ n1_ n2_ n3_; clear hb hbox hg) | ((with_reducible refine gate_dst (N := 3) rfl ?_); refine box_event ?hg (N := 3) ?hd (cs := #[.int .i32 a1_0, .int .i32 a1_1]) (t := 24) ?hr ?_; (case hd => rfl); (case hg => rfl); (case hr => first | (go_simp; done) | (go_simp; rfl)); intro b172 hg w4 hbox hb; have n0_ := aM (bB (by (with_reducible repeat first | apply bN | apply bD | apply bA); exact BK171.out) hb); have n1_ := aM (lT (by repeat (first | (with_reducible first | exact HB.out | apply lA | apply lN | apply lD | refine lS ?_ GE171.out) | exact HB.out)) hb); have n2_ := aM (hbox); have n3_ := aM ((by rw [hg]; exact (lZ (by repeat (first | (with_reducible first | exact HB.out | apply lA | apply lN | apply lD | refine lS ?_ GE171.out) | exact HB.out))) : w.heap.size ≤ b172)); have n4_ := aM ((by rw [hg]; exact (lZ (by repeat (first | (with_reducible first | exact HB.out | apply lA | apply lN | apply lD | refine lS ?_ GE171.out) | exact HB.out))) : w.heap.size ≤ b172)); have n5_ := aM ((by rw [hg]; exact Nat.ne_of_lt (bL (g := b171) (by (with_reducible repeat first | apply bN | apply bD | apply bA); exact BK171.out)) : b171 ≠ b172)); have n6_ := aM ((by rw [hg]; exact Nat.ne_of_gt (bL (g := b171) (by (with_reducible repeat first | apply bN | apply bD | apply bA); exact BK171.out)) : b172 ≠ b171)); clear BK171; clear HB; have BK171 := n0_; have HB := n1_; have BK172 := n2_; have GW172 := n3_; have GE172 := n4_; have N0_ := n5_; have N1_ := n6_; clear n0_ n1_ n2_ n3_ n4_ n5_ n6_; clear hb hbox hg; have hnb5 := N1_.out; have hnc5 := N0_.out; have hcz6_0 : w4.cell? ⟨b172, 0, none⟩ = some (.int .i32 a1_0) := (bC BK172.out 0).trans rfl; have hcz6_1 : w4.cell? ⟨b172, 1, none⟩ = some (.int .i32 a1_1) := (bC BK172.out 1).trans rfl; have hfz6_0 := bF BK172.out 0; have hfz6_1 := bF BK172.out 1; have hcz7_0 : w4.cell? ⟨b171, 0, none⟩ = some (.int .i32 a0_0) := (bC BK171.out 0).trans rfl; have hcz7_1 : w4.cell? ⟨b171, 1, none⟩ = some (.int .i32 a0_1) := (bC BK171.out 1).trans rfl; have hfz7_0 := bF BK171.out 0; have hfz7_1 := bF BK171.out 1))
 repeat (go_quiet (first | ((with_reducible refine gate_dst (N := 2) rfl ?_); refine box_event ?hg (N := 2) ?hd (cs := #[.int .i32 a0_0, .int .i32 a0_1]) (t := 24) ?hr ?_; (case hd => rfl); (case hg => rfl); (case hr => first | (go_simp; done) | (go_simp; rfl)); intro b171 hg w3 hbox hb; have n0_ := aM (lT (by repeat (first | (with_reducible first | exact HB.out | apply lA | apply lN | apply lD) | exact HB.out)) hb); have n1_ := aM (hbox); have n2_ := aM ((by rw [hg]; exact (lZ (by repeat (first | (with_reducible first | exact HB.out | apply lA | apply lN | apply lD) | exact HB.out))) : w.heap.size ≤ b171)); have n3_ := aM ((by rw [hg]; exact (lZ (by repeat (first | (with_reducible first | exact HB.out | apply lA | apply lN | apply lD) | exact HB.out))) : w.heap.size ≤ b171)); clear HB; have HB := n0_; have BK171 := n1_; have GW171 := n2_; have GE171 := n3_; clear n0_ n1_ n2_ n3_; clear hb hbox hg) | ((with_reducible refine gate_dst (N := 3) rfl ?_); refine box_event ?hg (N := 3) ?hd (cs := #[.int .i32 a1_0, .int .i32 a1_1]) (t := 24) ?hr ?_; (case hd => rfl); (case hg => rfl); (case hr => first | (go_simp; done) | (go_simp; rfl)); intro b172 hg w4 hbox hb; have n0_ := aM (bB (by (with_reducible repeat first | apply bN | apply bD | apply bA); exact BK171.out) hb); have n1_ := aM (lT (by repeat (first | (with_reducible first | exact HB.out | apply lA | apply lN | apply lD | refine lS ?_ GE171.out) | exact HB.out)) hb); have n2_ := aM (hbox); have n3_ := aM ((by rw [hg]; exact (lZ (by repeat (first | (with_reducible first | exact HB.out | apply lA | apply lN | apply lD | refine lS ?_ GE171.out) | exact HB.out))) : w.heap.size ≤ b172)); have n4_ := aM ((by rw [hg]; exact (lZ (by repeat (first | (with_reducible first | exact HB.out | apply lA | apply lN | apply lD | refine lS ?_ GE171.out) | exact HB.out))) : w.heap.size ≤ b172)); have n5_ := aM ((by rw [hg]; exact Nat.ne_of_lt (bL (g := b171) (by (with_reducible repeat first | apply bN | apply bD | apply bA); exact BK171.out)) : b171 ≠ b172)); have n6_ := aM ((by rw [hg]; exact Nat.ne_of_gt (bL (g := b171) (by (with_reducible repeat first | apply bN | apply bD | apply bA); exact BK171.out)) : b172 ≠ b171)); clear BK171; clear HB; have BK171 := n0_; have HB := n1_; have BK172 := n2_; have GW172 := n3_; have GE172 := n4_; have N0_ := n5_; have N1_ := n6_; clear n0_ n1_ n2_ n3_ n4_ n5_ n6_; clear hb hbox hg; have hnb5 := N1_.out; have hnc5 := N0_.out; have hcz6_0 : w4.cell? ⟨b172, 0, none⟩ = some (.int .i32 a1_0) := (bC BK172.out 0).trans rfl; have hcz6_1 : w4.cell? ⟨b172, 1, none⟩ = some (.int .i32 a1_1) := (bC BK172.out 1).trans rfl; have hfz6_0 := bF BK172.out 0; have hfz6_1 := bF BK172.out 1; have hcz7_0 : w4.cell? ⟨b171, 0, none⟩ = some (.int .i32 a0_0) := (bC BK171.out 0).trans rfl; have hcz7_1 : w4.cell? ⟨b171, 1, none⟩ = some (.int .i32 a0_1) := (bC BK171.out 1).trans rfl; have hfz7_0 := bF BK171.out 0; have hfz7_1 := bF BK171.out 1)); try go_wp2_with (first | ((with_reducible refine gate_dst (N := 2) rfl ?_); refine box_event ?hg (N := 2) ?hd (cs := #[.int .i32 a0_0, .int .i32 a0_1]) (t := 24) ?hr ?_; (case hd => rfl); (case hg => rfl); (case hr => first | (go_simp; done) | (go_simp; rfl)); intro b171 hg w3 hbox hb; have n0_ := aM (lT (by repeat (first | (with_reducible first | exact HB.out | apply lA | apply lN | apply lD) | exact HB.out)) hb); have n1_ := aM (hbox); have n2_ := aM ((by rw [hg]; exact (lZ (by repeat (first | (with_reducible first | exact HB.out | apply lA | apply lN | apply lD) | exact HB.out))) : w.heap.size ≤ b171)); have n3_ := aM ((by rw [hg]; exact (lZ (by repeat (first | (with_reducible first | exact HB.out | apply lA | apply lN | apply lD) | exact HB.out))) : w.heap.size ≤ b171)); clear HB; have HB := n0_; have BK171 := n1_; have GW171 := n2_; have GE171 := n3_; clear n0_ n1_ n2_ n3_; clear hb hbox hg) | ((with_reducible refine gate_dst (N := 3) rfl ?_); refine box_event ?hg (N := 3) ?hd (cs := #[.int .i32 a1_0, .int .i32 a1_1]) (t := 24) ?hr ?_; (case hd => rfl); (case hg => rfl); (case hr => first | (go_simp; done) | (go_simp; rfl)); intro b172 hg w4 hbox hb; have n0_ := aM (bB (by (with_reducible repeat first | apply bN | apply bD | apply bA); exact BK171.out) hb); have n1_ := aM (lT (by repeat (first | (with_reducible first | exact HB.out | apply lA | apply lN | apply lD | refine lS ?_ GE171.out) | exact HB.out)) hb); have n2_ := aM (hbox); have n3_ := aM ((by rw [hg]; exact (lZ (by repeat (first | (with_reducible first | exact HB.out | apply lA | apply lN | apply lD | refine lS ?_ GE171.out) | exact HB.out))) : w.heap.size ≤ b172)); have n4_ := aM ((by rw [hg]; exact (lZ (by repeat (first | (with_reducible first | exact HB.out | apply lA | apply lN | apply lD | refine lS ?_ GE171.out) | exact HB.out))) : w.heap.size ≤ b172)); have n5_ := aM ((by rw [hg]; exact Nat.ne_of_lt (bL (g := b171) (by (with_reducible repeat first | apply bN | apply bD | apply bA); exact BK171.out)) : b171 ≠ b172)); have n6_ := aM ((by rw [hg]; exact Nat.ne_of_gt (bL (g := b171) (by (with_reducible repeat first | apply bN | apply bD | apply bA); exact BK171.out)) : b172 ≠ b171)); clear BK171; clear HB; have BK171 := n0_; have HB := n1_; have BK172 := n2_; have GW172 := n3_; have GE172 := n4_; have N0_ := n5_; have N1_ := n6_; clear n0_ n1_ n2_ n3_ n4_ n5_ n6_; clear hb hbox hg; have hnb5 := N1_.out; have hnc5 := N0_.out; have hcz6_0 : w4.cell? ⟨b172, 0, none⟩ = some (.int .i32 a1_0) := (bC BK172.out 0).trans rfl; have hcz6_1 : w4.cell? ⟨b172, 1, none⟩ = some (.int .i32 a1_1) := (bC BK172.out 1).trans rfl; have hfz6_0 := bF BK172.out 0; have hfz6_1 := bF BK172.out 1; have hcz7_0 : w4.cell? ⟨b171, 0, none⟩ = some (.int .i32 a0_0) := (bC BK171.out 0).trans rfl; have hcz7_1 : w4.cell? ⟨b171, 1, none⟩ = some (.int .i32 a0_1) := (bC BK171.out 1).trans rfl; have hfz7_0 := bF BK171.out 0; have hfz7_1 := bF BK171.out 1)))
 go_ret2
 exact ⟨by first | rfl | (simp [errW_none, errW_some] <;> rfl) | (simp [*, errW_none, errW_some] <;> rfl), by repeat (first | (with_reducible first | exact HB.out | apply lA | apply lN | apply lD | refine lS ?_ GE171.out | refine lS ?_ GE172.out) | exact HB.out)⟩

/-! ### vec_Length: function 23 -/
def vec_Length.f (k : Nat) (a0 : Int) (a1 : Int) : Option (Int) := (vec_LengthSq.f a0 a1).bind fun t192 => ((root_Isqrt.f k t192).bind fun t193 => (some (wrap64 (t193))))
theorem vec_Length.mono : ∀ a0 a1 k, LeO (vec_Length.f k a0 a1) (vec_Length.f (k + 1) a0 a1) := by
 intro a0 a1 k
 unfold vec_Length.f
 repeat' first
   | (with_reducible exact root_Isqrt.mono _ _)
   | (with_reducible exact LeO.refl _)
   | (with_reducible exact LeO.none _)
   | (with_reducible refine LeO.ite ?_ ?_)
   | (with_reducible refine LeO.bind ?_ (fun _ => ?_))
   | exact root_Isqrt.mono _ _
   | exact LeO.none _
   | refine LeO.ite ?_ ?_
   | refine LeO.bind ?_ (fun _ => ?_)
set_option maxHeartbeats 8000000 in
set_option maxRecDepth 100000 in
theorem vec_Length.calls (k : Nat) (a0 : Int) (a1 : Int) (r : Int) (w : World) (h : vec_Length.f k a0 a1 = some r) :
  Calls Try.prog 23 #[.int .i64 a0, .int .i64 a1] w fun e w' => e = .returned (.int .i64 r) ∧ Drawn0 w w' := by
 have H : ((vec_LengthSq.f a0 a1).bind fun t192 => ((root_Isqrt.f k t192).bind fun t193 => (some (wrap64 (t193))))) = some r := h
 clear h
 replace H := Option.bind_eq_some_iff.mp H
 obtain ⟨t192, A30, H⟩ := H
 replace H : ((root_Isqrt.f k t192).bind fun t193 => (some (wrap64 (t193)))) = some r := H
 have A3 := aM A30
 clear A30
 replace H := Option.bind_eq_some_iff.mp H
 obtain ⟨t193, A40, H⟩ := H
 replace H : (some (wrap64 (t193))) = some r := H
 have A4 := aM A40
 clear A40
 obtain rfl := Option.some.inj H
 go_enter Try.func23, Try.ntmps23
 go_wp2_with (first | ((with_reducible refine gate_callee (f := 21) rfl ?_); refine goesL_ (some 7) rfl rfl Try.func21 (by kernel_rfl) rfl #[.int .i64 a0, .int .i64 a1] rfl (by (try simp only [List.map_toArray, List.map_cons, List.map_nil]); first | done | rfl | (simp only [List.length_drop, List.length_take]; rfl)) ?_; (with_reducible refine (vec_LengthSq.calls a0 a1 t192 _ A3.out).mono ?_); rintro e w' ⟨rfl, ⟨nd, rfl⟩⟩; refine ⟨_, rfl, ?_⟩) | ((with_reducible refine gate_callee (f := 35) rfl ?_); refine goesL_ (some 8) rfl rfl Try.func35 (by kernel_rfl) rfl #[.int .u64 t192] rfl (by (try simp only [List.map_toArray, List.map_cons, List.map_nil]); first | done | rfl | (simp only [List.length_drop, List.length_take]; rfl)) ?_; (with_reducible refine (root_Isqrt.calls k t192 t193 _ A4.out).mono ?_); rintro e w' ⟨rfl, ⟨nd, rfl⟩⟩; refine ⟨_, rfl, ?_⟩))
 go_ret
 exact ⟨by first | rfl | (simp; done) | (simp [*]; done), by repeat (first | exact Drawn0.refl _ | apply Drawn0.step)⟩

/-! ### vec_floor: function 34 -/
def vec_floor.f (a0 : Int) (a1 : Int) : Option (Int) := if a1 = 0 then (none) else (if (Int.tmod a0 a1) < 0 then (some (wrap64 ((wrap64 (Int.tdiv a0 a1)) - 1))) else (some (wrap64 (Int.tdiv a0 a1))))
set_option maxHeartbeats 8000000 in
set_option maxRecDepth 100000 in
theorem vec_floor.calls (a0 : Int) (a1 : Int) (r : Int) (w : World) (h : vec_floor.f a0 a1 = some r) :
  Calls Try.prog 34 #[.int .i64 a0, .int .i64 a1] w fun e w' => e = .returned (.int .i64 r) ∧ Drawn0 w w' := by
 have H : (if a1 = 0 then (none) else (if (Int.tmod a0 a1) < 0 then (some (wrap64 ((wrap64 (Int.tdiv a0 a1)) - 1))) else (some (wrap64 (Int.tdiv a0 a1))))) = some r := h
 clear h
 by_cases c3 : a1 = 0
 ·rw [if_pos c3] at H
  exact absurd H (by simp)
 ·rw [if_neg c3] at H
  have c3b0 : (a1 == 0) = false := beq_eq_false_iff_ne.mpr c3
  have c3b1 : (a1 != 0) = true := bne_iff_ne.mpr c3
  by_cases c4 : (Int.tmod a0 a1) < 0
  ·rw [if_pos c4] at H
   have c4b0 : decide ((Int.tmod a0 a1) < 0) = true := decide_eq_true c4
   clear c4
   obtain rfl := Option.some.inj H
   go_enter Try.func34, Try.ntmps34
   go_wp2
   go_ret
   exact ⟨by first | rfl | (simp; done) | (simp [*]; done), by repeat (first | exact Drawn0.refl _ | apply Drawn0.step)⟩
  ·rw [if_neg c4] at H
   have c4b0 : decide ((Int.tmod a0 a1) < 0) = false := decide_eq_false c4
   clear c4
   obtain rfl := Option.some.inj H
   go_enter Try.func34, Try.ntmps34
   go_wp2
   go_ret
   exact ⟨by first | rfl | (simp; done) | (simp [*]; done), by repeat (first | exact Drawn0.refl _ | apply Drawn0.step)⟩

/-! ### vec_Unit: function 22 -/
def vec_Unit.f (k : Nat) (a0 : Int) (a1 : Int) : Option (Int × Int) := (vec_Length.f k a0 a1).bind fun t195 => (if t195 = 0 then (some (65536, 0)) else ((vec_floor.f (wrap64 (a0 * 65536)) t195).bind fun t196 => ((vec_floor.f (wrap64 (a1 * 65536)) t195).bind fun t197 => (some (wrap32 (t196), wrap32 (t197))))))
theorem vec_Unit.mono : ∀ a0 a1 k, LeO (vec_Unit.f k a0 a1) (vec_Unit.f (k + 1) a0 a1) := by
 intro a0 a1 k
 unfold vec_Unit.f
 repeat' first
   | (with_reducible exact vec_Length.mono _ _ _)
   | (with_reducible exact LeO.refl _)
   | (with_reducible exact LeO.none _)
   | (with_reducible refine LeO.ite ?_ ?_)
   | (with_reducible refine LeO.bind ?_ (fun _ => ?_))
   | exact vec_Length.mono _ _ _
   | exact LeO.none _
   | refine LeO.ite ?_ ?_
   | refine LeO.bind ?_ (fun _ => ?_)
set_option maxHeartbeats 8000000 in
set_option maxRecDepth 100000 in
theorem vec_Unit.calls (k : Nat) (a0 : Int) (a1 : Int) (r1 : Int) (r2 : Int) (w : World) (h : vec_Unit.f k a0 a1 = some (r1, r2)) :
  Calls Try.prog 22 #[.int .i64 a0, .int .i64 a1] w fun e w' => e = .returned (.agg #[.int .i32 r1, .int .i32 r2]) ∧ Below w.heap.size w w' := by
 have hu24 := Try.underlying24
 have HB := aM (Below.refl w.heap.size w)
 have H : ((vec_Length.f k a0 a1).bind fun t195 => (if t195 = 0 then (some (65536, 0)) else ((vec_floor.f (wrap64 (a0 * 65536)) t195).bind fun t196 => ((vec_floor.f (wrap64 (a1 * 65536)) t195).bind fun t197 => (some (wrap32 (t196), wrap32 (t197))))))) = some (r1, r2) := h
 clear h
 replace H := Option.bind_eq_some_iff.mp H
 obtain ⟨t195, A30, H⟩ := H
 replace H : (if t195 = 0 then (some (65536, 0)) else ((vec_floor.f (wrap64 (a0 * 65536)) t195).bind fun t196 => ((vec_floor.f (wrap64 (a1 * 65536)) t195).bind fun t197 => (some (wrap32 (t196), wrap32 (t197)))))) = some (r1, r2) := H
 have A3 := aM A30
 clear A30
 by_cases c4 : t195 = 0
 ·rw [if_pos c4] at H
  have c4b0 : (t195 == 0) = true := beq_iff_eq.mpr c4
  have c4b1 : (t195 != 0) = false := bne_eq_false_iff_eq.mpr c4
  clear c4
  simp only [Option.some.injEq, Prod.mk.injEq] at H
  obtain ⟨rfl, rfl⟩ := H
  go_enter Try.func22, Try.ntmps22
  go_wp2_with (first | ((with_reducible refine gate_dst (N := 4) rfl ?_); refine box_event ?hg (N := 4) ?hd (cs := #[.int .i32 0, .int .i32 0]) (t := 24) ?hr ?_; (case hd => rfl); (case hg => rfl); (case hr => first | (go_simp; done) | (go_simp; rfl)); intro b194 hg w5 hbox hb; have n0_ := aM (lT (by repeat (first | (with_reducible first | exact HB.out | apply lA | apply lN | apply lD) | exact HB.out)) hb); have n1_ := aM (hbox); have n2_ := aM ((by rw [hg]; exact (lZ (by repeat (first | (with_reducible first | exact HB.out | apply lA | apply lN | apply lD) | exact HB.out))) : w.heap.size ≤ b194)); have n3_ := aM ((by rw [hg]; exact (lZ (by repeat (first | (with_reducible first | exact HB.out | apply lA | apply lN | apply lD) | exact HB.out))) : w.heap.size ≤ b194)); clear HB; have HB := n0_; have BK194 := n1_; have GW194 := n2_; have GE194 := n3_; clear n0_ n1_ n2_ n3_; clear hb hbox hg) | ((with_reducible refine gate_callee (f := 23) rfl ?_); refine goesL_ (some 8) rfl rfl Try.func23 (by kernel_rfl) rfl #[.int .i64 a0, .int .i64 a1] rfl (by (try simp only [List.map_toArray, List.map_cons, List.map_nil]); first | done | rfl | (simp only [List.length_drop, List.length_take]; rfl)) ?_; (with_reducible refine (vec_Length.calls k a0 a1 t195 _ A3.out).mono ?_); rintro e w' ⟨rfl, ⟨nd, rfl⟩⟩; refine ⟨_, rfl, ?_⟩; (try (rw [drewN_self w5]; generalize hq_ : World.drewN w5 _ = w5; have n0_ : Aside0 (w5.heap[b194]? = some (.cells #[.int .i32 0, .int .i32 0] 24 (0, 0))) := ⟨by rw [← hq_]; exact (by (with_reducible repeat first | apply bN | apply bD | apply bA); exact BK194.out)⟩; have n1_ : Aside0 (Below w.heap.size w w5) := ⟨by rw [← hq_]; exact (by repeat (first | (with_reducible first | exact HB.out | apply lA | apply lN | apply lD | refine lS ?_ GE194.out) | exact HB.out))⟩; clear BK194 HB hq_; have BK194 := n0_; have HB := n1_; clear n0_ n1_)); have hcz6_0 : w5.cell? ⟨b194, 0, none⟩ = some (.int .i32 0) := (bC BK194.out 0).trans rfl; have hcz6_1 : w5.cell? ⟨b194, 1, none⟩ = some (.int .i32 0) := (bC BK194.out 1).trans rfl; have hfz6_0 := bF BK194.out 0; have hfz6_1 := bF BK194.out 1))
  refine bodyPost_ret (results_cell_row rfl _ _ b194 24 #[.int .i32 65536, .int .i32 0] (0, 0) _ rfl (by (with_reducible repeat first | apply bN | apply bD | apply bA); refine bP (cs := #[.int .i32 65536, .int .i32 0]) ?_ 1 _ rfl; (with_reducible repeat first | apply bN | apply bD | apply bA); refine bP (cs := #[.int .i32 0, .int .i32 0]) ?_ 0 _ rfl; (with_reducible repeat first | apply bN | apply bD | apply bA); exact BK194.out) Try.underlying24 rfl (by kernel_rfl)) rfl ?_
  exact ⟨by first | rfl | (simp [errW_none, errW_some] <;> rfl) | (simp [*, errW_none, errW_some] <;> rfl), by repeat (first | (with_reducible first | exact HB.out | apply lA | apply lN | apply lD | refine lS ?_ GE194.out) | exact HB.out)⟩
 ·rw [if_neg c4] at H
  have c4b0 : (t195 == 0) = false := beq_eq_false_iff_ne.mpr c4
  have c4b1 : (t195 != 0) = true := bne_iff_ne.mpr c4
  replace H := Option.bind_eq_some_iff.mp H
  obtain ⟨t196, A70, H⟩ := H
  replace H : ((vec_floor.f (wrap64 (a1 * 65536)) t195).bind fun t197 => (some (wrap32 (t196), wrap32 (t197)))) = some (r1, r2) := H
  have A7 := aM A70
  clear A70
  replace H := Option.bind_eq_some_iff.mp H
  obtain ⟨t197, A80, H⟩ := H
  replace H : (some (wrap32 (t196), wrap32 (t197))) = some (r1, r2) := H
  have A8 := aM A80
  clear A80
  simp only [Option.some.injEq, Prod.mk.injEq] at H
  obtain ⟨rfl, rfl⟩ := H
  go_enter Try.func22, Try.ntmps22
  go_wp2_with (first | ((with_reducible refine gate_dst (N := 4) rfl ?_); refine box_event ?hg (N := 4) ?hd (cs := #[.int .i32 0, .int .i32 0]) (t := 24) ?hr ?_; (case hd => rfl); (case hg => rfl); (case hr => first | (go_simp; done) | (go_simp; rfl)); intro b194 hg w9 hbox hb; have n0_ := aM (lT (by repeat (first | (with_reducible first | exact HB.out | apply lA | apply lN | apply lD) | exact HB.out)) hb); have n1_ := aM (hbox); have n2_ := aM ((by rw [hg]; exact (lZ (by repeat (first | (with_reducible first | exact HB.out | apply lA | apply lN | apply lD) | exact HB.out))) : w.heap.size ≤ b194)); have n3_ := aM ((by rw [hg]; exact (lZ (by repeat (first | (with_reducible first | exact HB.out | apply lA | apply lN | apply lD) | exact HB.out))) : w.heap.size ≤ b194)); clear HB; have HB := n0_; have BK194 := n1_; have GW194 := n2_; have GE194 := n3_; clear n0_ n1_ n2_ n3_; clear hb hbox hg) | ((with_reducible refine gate_callee (f := 23) rfl ?_); refine goesL_ (some 8) rfl rfl Try.func23 (by kernel_rfl) rfl #[.int .i64 a0, .int .i64 a1] rfl (by (try simp only [List.map_toArray, List.map_cons, List.map_nil]); first | done | rfl | (simp only [List.length_drop, List.length_take]; rfl)) ?_; (with_reducible refine (vec_Length.calls k a0 a1 t195 _ A3.out).mono ?_); rintro e w' ⟨rfl, ⟨nd, rfl⟩⟩; refine ⟨_, rfl, ?_⟩; (try (rw [drewN_self w9]; generalize hq_ : World.drewN w9 _ = w9; have n0_ : Aside0 (w9.heap[b194]? = some (.cells #[.int .i32 0, .int .i32 0] 24 (0, 0))) := ⟨by rw [← hq_]; exact (by (with_reducible repeat first | apply bN | apply bD | apply bA); exact BK194.out)⟩; have n1_ : Aside0 (Below w.heap.size w w9) := ⟨by rw [← hq_]; exact (by repeat (first | (with_reducible first | exact HB.out | apply lA | apply lN | apply lD | refine lS ?_ GE194.out) | exact HB.out))⟩; clear BK194 HB hq_; have BK194 := n0_; have HB := n1_; clear n0_ n1_))) | ((with_reducible refine gate_callee (f := 34) rfl ?_); refine goesL_ (some 15) rfl rfl Try.func34 (by kernel_rfl) rfl #[.int .i64 (wrap64 (a0 * 65536)), .int .i64 t195] rfl (by (try simp only [List.map_toArray, List.map_cons, List.map_nil]); first | done | rfl | (simp only [List.length_drop, List.length_take]; rfl)) ?_; (with_reducible refine (vec_floor.calls (wrap64 (a0 * 65536)) t195 t196 _ A7.out).mono ?_); rintro e w' ⟨rfl, ⟨nd, rfl⟩⟩; refine ⟨_, rfl, ?_⟩; (try (rw [drewN_self w9]; generalize hq_ : World.drewN w9 _ = w9; have n0_ : Aside0 (w9.heap[b194]? = some (.cells #[.int .i32 0, .int .i32 0] 24 (0, 0))) := ⟨by rw [← hq_]; exact (by (with_reducible repeat first | apply bN | apply bD | apply bA); exact BK194.out)⟩; have n1_ : Aside0 (Below w.heap.size w w9) := ⟨by rw [← hq_]; exact (by repeat (first | (with_reducible first | exact HB.out | apply lA | apply lN | apply lD | refine lS ?_ GE194.out) | exact HB.out))⟩; clear BK194 HB hq_; have BK194 := n0_; have HB := n1_; clear n0_ n1_))) | ((with_reducible refine gate_callee (f := 34) rfl ?_); refine goesL_ (some 20) rfl rfl Try.func34 (by kernel_rfl) rfl #[.int .i64 (wrap64 (a1 * 65536)), .int .i64 t195] rfl (by (try simp only [List.map_toArray, List.map_cons, List.map_nil]); first | done | rfl | (simp only [List.length_drop, List.length_take]; rfl)) ?_; (with_reducible refine (vec_floor.calls (wrap64 (a1 * 65536)) t195 t197 _ A8.out).mono ?_); rintro e w' ⟨rfl, ⟨nd, rfl⟩⟩; refine ⟨_, rfl, ?_⟩; (try (rw [drewN_self w9]; generalize hq_ : World.drewN w9 _ = w9; have n0_ : Aside0 (w9.heap[b194]? = some (.cells #[.int .i32 0, .int .i32 0] 24 (0, 0))) := ⟨by rw [← hq_]; exact (by (with_reducible repeat first | apply bN | apply bD | apply bA); exact BK194.out)⟩; have n1_ : Aside0 (Below w.heap.size w w9) := ⟨by rw [← hq_]; exact (by repeat (first | (with_reducible first | exact HB.out | apply lA | apply lN | apply lD | refine lS ?_ GE194.out) | exact HB.out))⟩; clear BK194 HB hq_; have BK194 := n0_; have HB := n1_; clear n0_ n1_)); have hcz10_0 : w9.cell? ⟨b194, 0, none⟩ = some (.int .i32 0) := (bC BK194.out 0).trans rfl; have hcz10_1 : w9.cell? ⟨b194, 1, none⟩ = some (.int .i32 0) := (bC BK194.out 1).trans rfl; have hfz10_0 := bF BK194.out 0; have hfz10_1 := bF BK194.out 1))
  refine bodyPost_ret (results_cell_row rfl _ _ b194 24 #[.int .i32 (wrap32 (t196)), .int .i32 (wrap32 (t197))] (0, 0) _ rfl (by (with_reducible repeat first | apply bN | apply bD | apply bA); refine bP (cs := #[.int .i32 (wrap32 (t196)), .int .i32 0]) ?_ 1 _ rfl; (with_reducible repeat first | apply bN | apply bD | apply bA); refine bP (cs := #[.int .i32 0, .int .i32 0]) ?_ 0 _ rfl; (with_reducible repeat first | apply bN | apply bD | apply bA); exact BK194.out) Try.underlying24 rfl (by kernel_rfl)) rfl ?_
  exact ⟨by first | rfl | (simp [errW_none, errW_some] <;> rfl) | (simp [*, errW_none, errW_some] <;> rfl), by repeat (first | (with_reducible first | exact HB.out | apply lA | apply lN | apply lD | refine lS ?_ GE194.out) | exact HB.out)⟩

end Go.Proofs.Ytahbfafnodeimaa.Q
