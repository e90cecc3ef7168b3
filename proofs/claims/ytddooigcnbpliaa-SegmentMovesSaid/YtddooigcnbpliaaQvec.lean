-- PRINTED by print.py (a twelfth state) out of the translation. Not trusted: Lean checks it.
import Derived.Test.YtddooigcnbpliaaQ0
import Derived.Test.YtddooigcnbpliaaMkeep
namespace Go.Proofs.Ytddooigcnbpliaa.Q
open Go.RowKit Go.Proofs.YtddooigcnbpliaaW.PrintWords Go.Proofs.YtddooigcnbpliaaW.PrintLast Go.Proofs.YtddooigcnbpliaaW.PrintMore
open Go.Proofs.YtddooigcnbpliaaW.PrintWords renaming blk_drewN → bN, blk_drew → bD, blk_alloc → bA, blk_below → bB, blk_cell → bC, blk_frozen → bF, blk_lt → bL, below_alloc → lA, pw_below_drewN → lN, below_drew1 → lD, below_set → lS, below_step → lT, below_size → lZ, Aside0.mk → aM
open Bool renaming true → T, false → F
attribute [local go_sem] max2_int min2_int max_two min_two max_three min_three max_four min_four   -- for this text's walks alone
set_option linter.unusedVariables false
set_option linter.unusedSimpArgs false

/-! ### vec_square: function 28 -/
def vec_square.f (a0 : Int) : Option (Int) := if a0 < 0 then (some (IntKind.u64.wrap ((IntKind.u64.wrap (wrap64 (-a0))) * (IntKind.u64.wrap (wrap64 (-a0)))))) else (some (IntKind.u64.wrap ((IntKind.u64.wrap (a0)) * (IntKind.u64.wrap (a0)))))
set_option maxHeartbeats 8000000 in
set_option maxRecDepth 100000 in
theorem vec_square.calls (a0 : Int) (r : Int) (w : World) (h : vec_square.f a0 = some r) :
  Calls Try.prog 28 #[.int .i64 a0] w fun e w' => e = .returned (.int .u64 r) ∧ Drawn0 w w' := by
 have H : (if a0 < 0 then (some (IntKind.u64.wrap ((IntKind.u64.wrap (wrap64 (-a0))) * (IntKind.u64.wrap (wrap64 (-a0)))))) else (some (IntKind.u64.wrap ((IntKind.u64.wrap (a0)) * (IntKind.u64.wrap (a0)))))) = some r := h
 clear h
 by_cases c2 : a0 < 0
 ·rw [if_pos c2] at H
  have c2b0 : decide (a0 < 0) = true := decide_eq_true c2
  clear c2
  obtain rfl := Option.some.inj H
  go_enter Try.func28, Try.ntmps28
  go_wp2
  go_ret
  exact ⟨by first | rfl | (simp; done) | (simp [*]; done), by repeat (first | exact Drawn0.refl _ | apply Drawn0.step)⟩
 ·rw [if_neg c2] at H
  have c2b0 : decide (a0 < 0) = false := decide_eq_false c2
  clear c2
  obtain rfl := Option.some.inj H
  go_enter Try.func28, Try.ntmps28
  go_wp2
  go_ret
  exact ⟨by first | rfl | (simp; done) | (simp [*]; done), by repeat (first | exact Drawn0.refl _ | apply Drawn0.step)⟩

/-! ### vec_LengthSq: function 22 -/
def vec_LengthSq.f (a0 : Int) (a1 : Int) : Option (Int) := (vec_square.f a0).bind fun t101 => ((vec_square.f a1).bind fun t102 => (some (IntKind.u64.wrap (t101 + t102))))
set_option maxHeartbeats 8000000 in
set_option maxRecDepth 100000 in
theorem vec_LengthSq.calls (a0 : Int) (a1 : Int) (r : Int) (w : World) (h : vec_LengthSq.f a0 a1 = some r) :
  Calls Try.prog 22 #[.int .i64 a0, .int .i64 a1] w fun e w' => e = .returned (.int .u64 r) ∧ Drawn0 w w' := by
 have H : ((vec_square.f a0).bind fun t101 => ((vec_square.f a1).bind fun t102 => (some (IntKind.u64.wrap (t101 + t102))))) = some r := h
 clear h
 replace H := Option.bind_eq_some_iff.mp H
 obtain ⟨t101, A30, H⟩ := H
 try dsimp only at H
 have A3 := aM A30
 clear A30
 replace H := Option.bind_eq_some_iff.mp H
 obtain ⟨t102, A40, H⟩ := H
 try dsimp only at H
 have A4 := aM A40
 clear A40
 obtain rfl := Option.some.inj H
 go_enter Try.func22, Try.ntmps22
 go_wp2_with (first | ((with_reducible refine gate_callee (f := 28) rfl ?_); refine goesL_ (some 6) rfl rfl Try.func28 (by kernel_rfl) rfl #[.int .i64 a0] rfl (by (try simp only [List.map_toArray, List.map_cons, List.map_nil]); first | done | rfl | (simp only [List.length_drop, List.length_take]; rfl)) ?_; (with_reducible refine (vec_square.calls a0 t101 _ A3.out).mono ?_); rintro e w' ⟨rfl, ⟨nd, rfl⟩⟩; refine ⟨_, rfl, ?_⟩) | ((with_reducible refine gate_callee (f := 28) rfl ?_); refine goesL_ (some 8) rfl rfl Try.func28 (by kernel_rfl) rfl #[.int .i64 a1] rfl (by (try simp only [List.map_toArray, List.map_cons, List.map_nil]); first | done | rfl | (simp only [List.length_drop, List.length_take]; rfl)) ?_; (with_reducible refine (vec_square.calls a1 t102 _ A4.out).mono ?_); rintro e w' ⟨rfl, ⟨nd, rfl⟩⟩; refine ⟨_, rfl, ?_⟩))
 go_ret
 exact ⟨by first | rfl | (simp; done) | (simp [*]; done), by repeat (first | exact Drawn0.refl _ | apply Drawn0.step)⟩

/-! ### vec_Diff: function 23 -/
def vec_Diff.f (a0_0 : Int) (a0_1 : Int) (a1_0 : Int) (a1_1 : Int) : Option (Int × Int) := some (wrap64 ((wrap64 (a1_0)) - (wrap64 (a0_0))), wrap64 ((wrap64 (a1_1)) - (wrap64 (a0_1))))
set_option maxHeartbeats 8000000 in
set_option maxRecDepth 100000 in
theorem vec_Diff.calls (a0_0 : Int) (a0_1 : Int) (a1_0 : Int) (a1_1 : Int) (r1 : Int) (r2 : Int) (w : World) (h : vec_Diff.f a0_0 a0_1 a1_0 a1_1 = some (r1, r2)) :
  Calls Try.prog 23 #[.agg #[.int .i32 a0_0, .int .i32 a0_1], .agg #[.int .i32 a1_0, .int .i32 a1_1]] w fun e w' => e = .returned (.tuple #[.int .i64 r1, .int .i64 r2]) ∧ Below w.heap.size w w' := by
 have hu23 := Try.underlying23
 have HB := aM (Below.refl w.heap.size w)
 have H : (some (wrap64 ((wrap64 (a1_0)) - (wrap64 (a0_0))), wrap64 ((wrap64 (a1_1)) - (wrap64 (a0_1))))) = some (r1, r2) := h
 clear h
 simp only [Option.some.injEq, Prod.mk.injEq] at H
 obtain ⟨rfl, rfl⟩ := H
 go_enter Try.func23, Try.ntmps23
 go_wp2_with (first | ((with_reducible refine gate_dst (N := 2) rfl ?_); refine box_event ?hg (N := 2) ?hd (cs := #[.int .i32 a0_0, .int .i32 a0_1]) (t := 23) ?hr ?_; (case hd => rfl); (case hg => rfl); (case hr => first | (go_simp; done) | (go_simp; rfl)); intro b103 hg w3 hbox hb; have n0_ := aM (lT (by repeat (first | (with_reducible first | exact HB.out | apply lA | apply lN | apply lD) | exact HB.out)) hb); have n1_ := aM (hbox); have n2_ := aM ((by rw [hg]; exact (lZ (by repeat (first | (with_reducible first | exact HB.out | apply lA | apply lN | apply lD) | exact HB.out))) : w.heap.size ≤ b103)); have n3_ := aM ((by rw [hg]; exact (lZ (by repeat (first | (with_reducible first | exact HB.out | apply lA | apply lN | apply lD) | exact HB.out))) : w.heap.size ≤ b103)); clear HB; have HB := n0_; have BK103 := n1_; have GW103 := n2_; have GE103 := n3_; clear n0_ n1_ n2_ n3_; clear hb hbox hg) | ((with_reducible refine gate_dst (N := 3) rfl ?_); refine box_event ?hg (N := 3) ?hd (cs := #[.int .i32 a1_0, .int .i32 a1_1]) (t := 23) ?hr ?_; (case hd => rfl); (case hg => rfl); (case hr => first | (go_simp; done) | (go_simp; rfl)); intro b104 hg w4 hbox hb; have n0_ := aM (bB (by (with_reducible repeat first | apply bN | apply bD | apply bA); exact BK103.out) hb); have n1_ := aM (lT (by repeat (first | (with_reducible first | exact HB.out | apply lA | apply lN | apply lD | refine lS ?_ GE103.out) | exact HB.out)) hb); have n2_ := aM (hbox); have n3_ := aM ((by rw [hg]; exact (lZ (by repeat (first | (with_reducible first | exact HB.out | apply lA | apply lN | apply lD | refine lS ?_ GE103.out) | exact HB.out))) : w.heap.size ≤ b104)); have n4_ := aM ((by rw [hg]; exact (lZ (by repeat (first | (with_reducible first | exact HB.out | apply lA | apply lN | apply lD | refine lS ?_ GE103.out) | exact HB.out))) : w.heap.size ≤ b104)); have n5_ := aM ((by rw [hg]; exact Nat.ne_of_lt (bL (g := b103) (by (with_reducible repeat first | apply bN | apply bD | apply bA); exact BK103.out)) : b103 ≠ b104)); have n6_ := aM ((by rw [hg]; exact Nat.ne_of_gt (bL (g := b103) (by (with_reducible repeat first | apply bN | apply bD | apply bA); exact BK103.out)) : b104 ≠ b103)); clear BK103; clear HB; have BK103 := n0_; have HB := n1_; have BK104 := n2_; have GW104 := n3_; have GE104 := n4_; have N0_ := n5_; have N1_ := n6_; clear n0_ n1_ n2_ n3_ n4_ n5_ n6_; clear hb hbox hg; have hnb5 := N1_.out; have hnc5 := N0_.out; have hcz6_0 : w4.cell? ⟨b104, 0, none⟩ = some (.int .i32 a1_0) := (bC BK104.out 0).trans rfl; have hcz6_1 : w4.cell? ⟨b104, 1, none⟩ = some (.int .i32 a1_1) := (bC BK104.out 1).trans rfl; have hfz6_0 := bF BK104.out 0; have hfz6_1 := bF BK104.out 1; have hcz7_0 : w4.cell? ⟨b103, 0, none⟩ = some (.int .i32 a0_0) := (bC BK103.out 0).trans rfl; have hcz7_1 : w4.cell? ⟨b103, 1, none⟩ = some (.int .i32 a0_1) := (bC BK103.out 1).trans rfl; have hfz7_0 := bF BK103.out 0; have hfz7_1 := bF BK103.out 1))
 repeat (go_quiet (first | ((with_reducible refine gate_dst (N := 2) rfl ?_); refine box_event ?hg (N := 2) ?hd (cs := #[.int .i32 a0_0, .int .i32 a0_1]) (t := 23) ?hr ?_; (case hd => rfl); (case hg => rfl); (case hr => first | (go_simp; done) | (go_simp; rfl)); intro b103 hg w3 hbox hb; have n0_ := aM (lT (by repeat (first | (with_reducible first | exact HB.out | apply lA | apply lN | apply lD) | exact HB.out)) hb); have n1_ := aM (hbox); have n2_ := aM ((by rw [hg]; exact (lZ (by repeat (first | (with_reducible first | exact HB.out | apply lA | apply lN | apply lD) | exact HB.out))) : w.heap.size ≤ b103)); have n3_ := aM ((by rw [hg]; exact (lZ (by repeat (first | (with_reducible first | exact HB.out | apply lA | apply lN | apply lD) | exact HB.out))) : w.heap.size ≤ b103)); clear HB; have HB := n0_; have BK103 := n1_; have GW103 := n2_; have GE103 := n3_; clear n0_ n1_ n2_ n3_; clear hb hbox hg) | ((with_reducible refine gate_dst (N := 3) rfl ?_); refine box_event ?hg (N := 3) ?hd (cs := #[.int .i32 a1_0, .int .i32 a1_1]) (t := 23) ?hr ?_; (case hd => rfl); (case hg => rfl); (case hr => first | (go_simp; done) | (go_simp; rfl)); intro b104 hg w4 hbox hb; have n0_ := aM (bB (by (with_reducible repeat first | apply bN | apply bD | apply bA); exact BK103.out) hb); have n1_ := aM (lT (by repeat (first | (with_reducible first | exact HB.out | apply lA | apply lN | apply lD | refine lS ?_ GE103.out) | exact HB.out)) hb); have n2_ := aM (hbox); have n3_ := aM ((by rw [hg]; exact (lZ (by repeat (first | (with_reducible first | exact HB.out | apply lA | apply lN | apply lD | refine lS ?_ GE103.out) | exact HB.out))) : w.heap.size ≤ b104)); have n4_ := aM ((by rw [hg]; exact (lZ (by repeat (first | (with_reducible first | exact HB.out | apply lA | apply lN | apply lD | refine lS ?_ GE103.out) | exact HB.out))) : w.heap.size ≤ b104)); have n5_ := aM ((by rw [hg]; exact Nat.ne_of_lt (bL (g := b103) (by (with_reducible repeat first | apply bN | apply bD | apply bA); exact BK103.out)) : b103 ≠ b104)); have n6_ := aM ((by rw [hg]; exact Nat.ne_of_gt (bL (g := b103) (by (with_reducible repeat first | apply bN | apply bD | apply bA); exact BK103.out)) : b104 ≠ b103)); clear BK103; clear HB; have BK103 := n0_; have HB := n1_; have BK104 := n2_; have GW104 := n3_; have GE104 := n4_; have N0_ := n5_; have N1_ := n6_; clear n0_ n1_ n2_ n3_ n4_ n5_ n6_; clear hb hbox hg; have hnb5 := N1_.out; have hnc5 := N0_.out; have hcz6_0 : w4.cell? ⟨b104, 0, none⟩ = some (.int .i32 a1_0) := (bC BK104.out 0).trans rfl; have hcz6_1 : w4.cell? ⟨b104, 1, none⟩ = some (.int .i32 a1_1) := (bC BK104.out 1).trans rfl; have hfz6_0 := bF BK104.out 0; have hfz6_1 := bF BK104.out 1; have hcz7_0 : w4.cell? ⟨b103, 0, none⟩ = some (.int .i32 a0_0) := (bC BK103.out 0).trans rfl; have hcz7_1 : w4.cell? ⟨b103, 1, none⟩ = some (.int .i32 a0_1) := (bC BK103.out 1).trans rfl; have hfz7_0 := bF BK103.out 0; have hfz7_1 := bF BK103.out 1)); try go_wp2_with (first | ((with_reducible refine gate_dst (N := 2) rfl ?_); refine box_event ?hg (N := 2) ?hd (cs := #[.int .i32 a0_0, .int .i32 a0_1]) (t := 23) ?hr ?_; (case hd => rfl); (case hg => rfl); (case hr => first | (go_simp; done) | (go_simp; rfl)); intro b103 hg w3 hbox hb; have n0_ := aM (lT (by repeat (first | (with_reducible first | exact HB.out | apply lA | apply lN | apply lD) | exact HB.out)) hb); have n1_ := aM (hbox); have n2_ := aM ((by rw [hg]; exact (lZ (by repeat (first | (with_reducible first | exact HB.out | apply lA | apply lN | apply lD) | exact HB.out))) : w.heap.size ≤ b103)); have n3_ := aM ((by rw [hg]; exact (lZ (by repeat (first | (with_reducible first | exact HB.out | apply lA | apply lN | apply lD) | exact HB.out))) : w.heap.size ≤ b103)); clear HB; have HB := n0_; have BK103 := n1_; have GW103 := n2_; have GE103 := n3_; clear n0_ n1_ n2_ n3_; clear hb hbox hg) | ((with_reducible refine gate_dst (N := 3) rfl ?_); refine box_event ?hg (N := 3) ?hd (cs := #[.int .i32 a1_0, .int .i32 a1_1]) (t := 23) ?hr ?_; (case hd => rfl); (case hg => rfl); (case hr => first | (go_simp; done) | (go_simp; rfl)); intro b104 hg w4 hbox hb; have n0_ := aM (bB (by (with_reducible repeat first | apply bN | apply bD | apply bA); exact BK103.out) hb); have n1_ := aM (lT (by repeat (first | (with_reducible first | exact HB.out | apply lA | apply lN | apply lD | refine lS ?_ GE103.out) | exact HB.out)) hb); have n2_ := aM (hbox); have n3_ := aM ((by rw [hg]; exact (lZ (by repeat (first | (with_reducible first | exact HB.out | apply lA | apply lN | apply lD | refine lS ?_ GE103.out) | exact HB.out))) : w.heap.size ≤ b104)); have n4_ := aM ((by rw [hg]; exact (lZ (by repeat (first | (with_reducible first | exact HB.out | apply lA | apply lN | apply lD | refine lS ?_ GE103.out) | exact HB.out))) : w.heap.size ≤ b104)); have n5_ := aM ((by rw [hg]; exact Nat.ne_of_lt (bL (g := b103) (by (with_reducible repeat first | apply bN | apply bD | apply bA); exact BK103.out)) : b103 ≠ b104)); have n6_ := aM ((by rw [hg]; exact Nat.ne_of_gt (bL (g := b103) (by (with_reducible repeat first | apply bN | apply bD | apply bA); exact BK103.out)) : b104 ≠ b103)); clear BK103; clear HB; have BK103 := n0_; have HB := n1_; have BK104 := n2_; have GW104 := n3_; have GE104 := n4_; have N0_ := n5_; have N1_ := n6_; clear n0_ n1_ n2_ n3_ n4_ n5_ n6_; clear hb hbox hg; have hnb5 := N1_.out; have hnc5 := N0_.out; have hcz6_0 : w4.cell? ⟨b104, 0, none⟩ = some (.int .i32 a1_0) := (bC BK104.out 0).trans rfl; have hcz6_1 : w4.cell? ⟨b104, 1, none⟩ = some (.int .i32 a1_1) := (bC BK104.out 1).trans rfl; have hfz6_0 := bF BK104.out 0; have hfz6_1 := bF BK104.out 1; have hcz7_0 : w4.cell? ⟨b103, 0, none⟩ = some (.int .i32 a0_0) := (bC BK103.out 0).trans rfl; have hcz7_1 : w4.cell? ⟨b103, 1, none⟩ = some (.int .i32 a0_1) := (bC BK103.out 1).trans rfl; have hfz7_0 := bF BK103.out 0; have hfz7_1 := bF BK103.out 1)))
 go_ret2
 exact ⟨by first | rfl | (simp [errW_none, errW_some] <;> rfl) | (simp [*, errW_none, errW_some] <;> rfl), by repeat (first | (with_reducible first | exact HB.out | apply lA | apply lN | apply lD | refine lS ?_ GE103.out | refine lS ?_ GE104.out) | exact HB.out)⟩

end Go.Proofs.Ytddooigcnbpliaa.Q
