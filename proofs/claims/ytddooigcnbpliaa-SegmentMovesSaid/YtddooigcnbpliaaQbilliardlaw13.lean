-- PRINTED by print.py (a twelfth state) out of the translation. Not trusted: Lean checks it.
import Derived.Test.YtddooigcnbpliaaQ0
import Derived.Test.YtddooigcnbpliaaMkeep
import Derived.Test.YtddooigcnbpliaaQE0
import Derived.Test.YtddooigcnbpliaaQsegment
namespace Go.Proofs.Ytddooigcnbpliaa.Q
open Go.RowKit Go.Proofs.YtddooigcnbpliaaW.PrintWords Go.Proofs.YtddooigcnbpliaaW.PrintLast Go.Proofs.YtddooigcnbpliaaW.PrintMore
open Go.Proofs.YtddooigcnbpliaaW.PrintWords renaming blk_drewN → bN, blk_drew → bD, blk_alloc → bA, blk_below → bB, blk_cell → bC, blk_frozen → bF, blk_far → bR, blk_lt → bL, blk_put → bP, below_alloc → lA, pw_below_drewN → lN, below_drew1 → lD, below_set → lS, below_step → lT, below_size → lZ, Aside0.mk → aM
open Bool renaming true → T, false → F
attribute [local go_sem] max2_int min2_int max_two min_two max_three min_three max_four min_four   -- for this text's walks alone
set_option linter.unusedVariables false
set_option linter.unusedSimpArgs false

attribute [local go_sem high] eqA23
/-! ### billiardlaw13_awake: function 8 -/
def billiardlaw13_awake.f  : Option (Bool) := (segment_Chosen.f 0 0 10 0 4 3 4 9).bind fun bt125 => (if (bt125.1 == 4 && (bt125.2.1 == 0)) = true then (if (bt125.2.2.1 == 4 && (bt125.2.2.2 == 3)) = true then ((segment_DistSq.f 0 0 10 0 4 3 4 9).bind fun t131 => (some (t131 == 9))) else (some false)) else (some false))
theorem billiardlaw13_awake.only {r : Bool} (h : billiardlaw13_awake.f = some r) : r = true := Option.some.inj (h.symm.trans (show billiardlaw13_awake.f = some true by decide +kernel))
set_option maxHeartbeats 8000000 in
set_option maxRecDepth 100000 in
theorem billiardlaw13_awake.calls  (r : Bool) (w : World) (h : billiardlaw13_awake.f  = some r) :
  Calls Try.prog 8 #[] w fun e w' => e = .returned (.bool r) ∧ Below w.heap.size w w' := by
 have HR := aM (billiardlaw13_awake.only h)
 have hu23 := Try.underlying23
 have HB := aM (Below.refl w.heap.size w)
 have H : ((segment_Chosen.f 0 0 10 0 4 3 4 9).bind fun bt125 => (if (bt125.1 == 4 && (bt125.2.1 == 0)) = true then (if (bt125.2.2.1 == 4 && (bt125.2.2.2 == 3)) = true then ((segment_DistSq.f 0 0 10 0 4 3 4 9).bind fun t131 => (some (t131 == 9))) else (some false)) else (some false))) = some r := h
 clear h
 replace H := Option.bind_eq_some_iff.mp H
 obtain ⟨⟨t125, t126, t127, t128⟩, A10, H⟩ := H
 try dsimp only at H
 have A1 := aM A10
 clear A10
 by_cases c2 : (t125 == 4 && (t126 == 0)) = true
 ·rw [if_pos c2] at H
  have c2b0 : (t125 == 4 && (t126 == 0)) = true := c2
  (try (have c2b1 : decide (t125 = 4 && (t126 == 0)) = true := by simpa using c2))
  (try (have c2b2 : (t125 == 4 && (t126 == 0)) = true := by simpa using c2))
  clear c2
  by_cases c3 : (t127 == 4 && (t128 == 3)) = true
  ·rw [if_pos c3] at H
   have c3b0 : (t127 == 4 && (t128 == 3)) = true := c3
   (try (have c3b1 : decide (t127 = 4 && (t128 == 3)) = true := by simpa using c3))
   (try (have c3b2 : (t127 == 4 && (t128 == 3)) = true := by simpa using c3))
   clear c3
   replace H := Option.bind_eq_some_iff.mp H
   obtain ⟨t131, A40, H⟩ := H
   try dsimp only at H
   have A4 := aM A40
   clear A40
   obtain rfl := Option.some.inj H
   go_enter Try.func8, Try.ntmps8
   go_wp2_with (first | ((with_reducible refine gate_callee (f := 10) rfl ?_); refine goesL_ (some 8) rfl rfl Try.func10 (by kernel_rfl) rfl #[.agg #[.int .i32 0, .int .i32 0], .agg #[.int .i32 10, .int .i32 0], .agg #[.int .i32 4, .int .i32 3], .agg #[.int .i32 4, .int .i32 9]] rfl (by (try simp only [List.map_toArray, List.map_cons, List.map_nil]); first | done | rfl | (simp only [List.length_drop, List.length_take]; rfl)) ?_; (with_reducible refine (segment_Chosen.calls 0 0 10 0 4 3 4 9 t125 t126 t127 t128 _ A1.out).mono ?_); rintro e w5 ⟨rfl, hb⟩; refine ⟨_, rfl, ?_⟩; have n0_ := aM (lT (by repeat (first | (with_reducible first | exact HB.out | apply lA | apply lN | apply lD) | exact HB.out)) hb); clear HB; have HB := n0_; clear n0_; (try clear hb); (try clear hb2); (try clear hk); (try clear hi)) | ((with_reducible refine gate_dst (N := 1) rfl ?_); refine box_event ?hg (N := 1) ?hd (cs := #[.int .i32 0, .int .i32 0]) (t := 23) ?hr ?_; (case hd => rfl); (case hg => rfl); (case hr => first | (go_simp; done) | (go_simp; rfl)); intro b129 hg w6 hbox hb; have n0_ := aM (lT (by repeat (first | (with_reducible first | exact HB.out | apply lA | apply lN | apply lD) | exact HB.out)) hb); have n1_ := aM (hbox); have n2_ := aM ((by rw [hg]; exact (lZ (by repeat (first | (with_reducible first | exact HB.out | apply lA | apply lN | apply lD) | exact HB.out))) : w.heap.size ≤ b129)); have n3_ := aM ((by rw [hg]; exact (lZ (by repeat (first | (with_reducible first | exact HB.out | apply lA | apply lN | apply lD) | exact HB.out))) : w.heap.size ≤ b129)); clear HB; have HB := n0_; have BK129 := n1_; have GW129 := n2_; have GE129 := n3_; clear n0_ n1_ n2_ n3_; clear hb hbox hg) | ((with_reducible refine gate_dst (N := 2) rfl ?_); refine box_event ?hg (N := 2) ?hd (cs := #[.int .i32 0, .int .i32 0]) (t := 23) ?hr ?_; (case hd => rfl); (case hg => rfl); (case hr => first | (go_simp; done) | (go_simp; rfl)); intro b130 hg w7 hbox hb; have n0_ := aM (bB (by (with_reducible repeat first | apply bN | apply bD | apply bA); exact BK129.out) hb); have n1_ := aM (lT (by repeat (first | (with_reducible first | exact HB.out | apply lA | apply lN | apply lD | refine lS ?_ GE129.out) | exact HB.out)) hb); have n2_ := aM (hbox); have n3_ := aM ((by rw [hg]; exact (lZ (by repeat (first | (with_reducible first | exact HB.out | apply lA | apply lN | apply lD | refine lS ?_ GE129.out) | exact HB.out))) : w.heap.size ≤ b130)); have n4_ := aM ((by rw [hg]; exact (lZ (by repeat (first | (with_reducible first | exact HB.out | apply lA | apply lN | apply lD | refine lS ?_ GE129.out) | exact HB.out))) : w.heap.size ≤ b130)); have n5_ := aM ((by rw [hg]; exact Nat.ne_of_lt (bL (g := b129) (by (with_reducible repeat first | apply bN | apply bD | apply bA); exact BK129.out)) : b129 ≠ b130)); have n6_ := aM ((by rw [hg]; exact Nat.ne_of_gt (bL (g := b129) (by (with_reducible repeat first | apply bN | apply bD | apply bA); exact BK129.out)) : b130 ≠ b129)); clear BK129; clear HB; have BK129 := n0_; have HB := n1_; have BK130 := n2_; have GW130 := n3_; have GE130 := n4_; have N0_ := n5_; have N1_ := n6_; clear n0_ n1_ n2_ n3_ n4_ n5_ n6_; clear hb hbox hg; have hnb8 := N0_.out; have hnc8 := N1_.out; have hcz9_0 : w7.cell? ⟨b129, 0, none⟩ = some (.int .i32 0) := (bC BK129.out 0).trans rfl; have hcz9_1 : w7.cell? ⟨b129, 1, none⟩ = some (.int .i32 0) := (bC BK129.out 1).trans rfl; have hfz9_0 := bF BK129.out 0; have hfz9_1 := bF BK129.out 1; have hcz10_0 : w7.cell? ⟨b130, 0, none⟩ = some (.int .i32 0) := (bC BK130.out 0).trans rfl; have hcz10_1 : w7.cell? ⟨b130, 1, none⟩ = some (.int .i32 0) := (bC BK130.out 1).trans rfl; have hfz10_0 := bF BK130.out 0; have hfz10_1 := bF BK130.out 1) | (go_at_call 12; (with_reducible refine (segment_DistSq.calls 0 0 10 0 4 3 4 9 t131 _ A4.out).mono ?_); rintro e w11 ⟨rfl, hb⟩; have n0_ := aM (bB (g := b129) (o := .cells #[.int .i32 t125, .int .i32 t126] 23 (0, 0)) (by (with_reducible repeat first | apply bN | apply bD | apply bA); refine bR ?_ N0_.out _; (with_reducible repeat first | apply bN | apply bD | apply bA); refine bR ?_ N0_.out _; (with_reducible repeat first | apply bN | apply bD | apply bA); refine bP (cs := #[.int .i32 t125, .int .i32 0]) ?_ 1 _ rfl; (with_reducible repeat first | apply bN | apply bD | apply bA); refine bP (cs := #[.int .i32 0, .int .i32 0]) ?_ 0 _ rfl; (with_reducible repeat first | apply bN | apply bD | apply bA); exact BK129.out) hb); have n1_ := aM (bB (g := b130) (o := .cells #[.int .i32 t127, .int .i32 t128] 23 (0, 0)) (by (with_reducible repeat first | apply bN | apply bD | apply bA); refine bP (cs := #[.int .i32 t127, .int .i32 0]) ?_ 1 _ rfl; (with_reducible repeat first | apply bN | apply bD | apply bA); refine bP (cs := #[.int .i32 0, .int .i32 0]) ?_ 0 _ rfl; (with_reducible repeat first | apply bN | apply bD | apply bA); refine bR ?_ N1_.out _; (with_reducible repeat first | apply bN | apply bD | apply bA); refine bR ?_ N1_.out _; (with_reducible repeat first | apply bN | apply bD | apply bA); exact BK130.out) hb); have n2_ := aM (lT (by repeat (first | (with_reducible first | exact HB.out | apply lA | apply lN | apply lD | refine lS ?_ GE129.out | refine lS ?_ GE130.out) | exact HB.out)) hb); clear BK129; clear BK130; clear HB; have BK129 := n0_; have BK130 := n1_; have HB := n2_; clear n0_ n1_ n2_; (try clear hb); (try clear hb2); (try clear hk); (try clear hi)))
   go_ret
   exact ⟨by first | rfl | (simp [errW_none, errW_some] <;> rfl) | (simp [*, errW_none, errW_some] <;> rfl), by repeat (first | (with_reducible first | exact HB.out | apply lA | apply lN | apply lD | refine lS ?_ GE129.out | refine lS ?_ GE130.out) | exact HB.out)⟩
  ·rw [if_neg c3] at H
   have c3b0 : (t127 == 4 && (t128 == 3)) = false := by simpa using c3
   (try (have c3b1 : decide (t127 = 4 && (t128 == 3)) = false := by simpa using c3))
   (try (have c3b2 : (t127 == 4 && (t128 == 3)) = false := by simpa using c3))
   (try (have c3b3 : ¬ (t127 = 4 && (t128 == 3)) := by simpa using c3))
   clear c3
   exact absurd ((Option.some.inj H).trans HR.out) (by decide)
 ·rw [if_neg c2] at H
  have c2b0 : (t125 == 4 && (t126 == 0)) = false := by simpa using c2
  (try (have c2b1 : decide (t125 = 4 && (t126 == 0)) = false := by simpa using c2))
  (try (have c2b2 : (t125 == 4 && (t126 == 0)) = false := by simpa using c2))
  (try (have c2b3 : ¬ (t125 = 4 && (t126 == 0)) := by simpa using c2))
  clear c2
  exact absurd ((Option.some.inj H).trans HR.out) (by decide)

/-! ### billiardlaw13_move: function 15 -/
def billiardlaw13_move.f (a0_0 : Int) (a0_1 : Int) (a1_0 : Int) (a1_1 : Int) : Option (Int × Int) := some (wrap32 (a0_0 + a1_0), wrap32 (a0_1 + a1_1))
set_option maxHeartbeats 8000000 in
set_option maxRecDepth 100000 in
theorem billiardlaw13_move.calls (a0_0 : Int) (a0_1 : Int) (a1_0 : Int) (a1_1 : Int) (r1 : Int) (r2 : Int) (w : World) (h : billiardlaw13_move.f a0_0 a0_1 a1_0 a1_1 = some (r1, r2)) :
  Calls Try.prog 15 #[.agg #[.int .i32 a0_0, .int .i32 a0_1], .agg #[.int .i32 a1_0, .int .i32 a1_1]] w fun e w' => e = .returned (.agg #[.int .i32 r1, .int .i32 r2]) ∧ Below w.heap.size w w' := by
 have hu23 := Try.underlying23
 have HB := aM (Below.refl w.heap.size w)
 have H : (some (wrap32 (a0_0 + a1_0), wrap32 (a0_1 + a1_1))) = some (r1, r2) := h
 clear h
 simp only [Option.some.injEq, Prod.mk.injEq] at H
 obtain ⟨rfl, rfl⟩ := H
 go_enter Try.func15, Try.ntmps15
 go_wp2_with (first | ((with_reducible refine gate_dst (N := 2) rfl ?_); refine box_event ?hg (N := 2) ?hd (cs := #[.int .i32 a0_0, .int .i32 a0_1]) (t := 23) ?hr ?_; (case hd => rfl); (case hg => rfl); (case hr => first | (go_simp; done) | (go_simp; rfl)); intro b251 hg w3 hbox hb; have n0_ := aM (lT (by repeat (first | (with_reducible first | exact HB.out | apply lA | apply lN | apply lD) | exact HB.out)) hb); have n1_ := aM (hbox); have n2_ := aM ((by rw [hg]; exact (lZ (by repeat (first | (with_reducible first | exact HB.out | apply lA | apply lN | apply lD) | exact HB.out))) : w.heap.size ≤ b251)); have n3_ := aM ((by rw [hg]; exact (lZ (by repeat (first | (with_reducible first | exact HB.out | apply lA | apply lN | apply lD) | exact HB.out))) : w.heap.size ≤ b251)); clear HB; have HB := n0_; have BK251 := n1_; have GW251 := n2_; have GE251 := n3_; clear n0_ n1_ n2_ n3_; clear hb hbox hg) | ((with_reducible refine gate_dst (N := 3) rfl ?_); refine box_event ?hg (N := 3) ?hd (cs := #[.int .i32 a1_0, .int .i32 a1_1]) (t := 23) ?hr ?_; (case hd => rfl); (case hg => rfl); (case hr => first | (go_simp; done) | (go_simp; rfl)); intro b252 hg w4 hbox hb; have n0_ := aM (bB (by (with_reducible repeat first | apply bN | apply bD | apply bA); exact BK251.out) hb); have n1_ := aM (lT (by repeat (first | (with_reducible first | exact HB.out | apply lA | apply lN | apply lD | refine lS ?_ GE251.out) | exact HB.out)) hb); have n2_ := aM (hbox); have n3_ := aM ((by rw [hg]; exact (lZ (by repeat (first | (with_reducible first | exact HB.out | apply lA | apply lN | apply lD | refine lS ?_ GE251.out) | exact HB.out))) : w.heap.size ≤ b252)); have n4_ := aM ((by rw [hg]; exact (lZ (by repeat (first | (with_reducible first | exact HB.out | apply lA | apply lN | apply lD | refine lS ?_ GE251.out) | exact HB.out))) : w.heap.size ≤ b252)); have n5_ := aM ((by rw [hg]; exact Nat.ne_of_lt (bL (g := b251) (by (with_reducible repeat first | apply bN | apply bD | apply bA); exact BK251.out)) : b251 ≠ b252)); have n6_ := aM ((by rw [hg]; exact Nat.ne_of_gt (bL (g := b251) (by (with_reducible repeat first | apply bN | apply bD | apply bA); exact BK251.out)) : b252 ≠ b251)); clear BK251; clear HB; have BK251 := n0_; have HB := n1_; have BK252 := n2_; have GW252 := n3_; have GE252 := n4_; have N2_ := n5_; have N3_ := n6_; clear n0_ n1_ n2_ n3_ n4_ n5_ n6_; clear hb hbox hg) | ((with_reducible refine gate_dst (N := 4) rfl ?_); refine box_event ?hg (N := 4) ?hd (cs := #[.int .i32 0, .int .i32 0]) (t := 23) ?hr ?_; (case hd => rfl); (case hg => rfl); (case hr => first | (go_simp; done) | (go_simp; rfl)); intro b253 hg w5 hbox hb; have n0_ := aM (bB (by (with_reducible repeat first | apply bN | apply bD | apply bA); exact BK251.out) hb); have n1_ := aM (bB (by (with_reducible repeat first | apply bN | apply bD | apply bA); exact BK252.out) hb); have n2_ := aM (lT (by repeat (first | (with_reducible first | exact HB.out | apply lA | apply lN | apply lD | refine lS ?_ GE251.out | refine lS ?_ GE252.out) | exact HB.out)) hb); have n3_ := aM (hbox); have n4_ := aM ((by rw [hg]; exact (lZ (by repeat (first | (with_reducible first | exact HB.out | apply lA | apply lN | apply lD | refine lS ?_ GE251.out | refine lS ?_ GE252.out) | exact HB.out))) : w.heap.size ≤ b253)); have n5_ := aM ((by rw [hg]; exact (lZ (by repeat (first | (with_reducible first | exact HB.out | apply lA | apply lN | apply lD | refine lS ?_ GE251.out | refine lS ?_ GE252.out) | exact HB.out))) : w.heap.size ≤ b253)); have n6_ := aM ((by rw [hg]; exact Nat.ne_of_lt (bL (g := b251) (by (with_reducible repeat first | apply bN | apply bD | apply bA); exact BK251.out)) : b251 ≠ b253)); have n7_ := aM ((by rw [hg]; exact Nat.ne_of_gt (bL (g := b251) (by (with_reducible repeat first | apply bN | apply bD | apply bA); exact BK251.out)) : b253 ≠ b251)); have n8_ := aM ((by rw [hg]; exact Nat.ne_of_lt (bL (g := b252) (by (with_reducible repeat first | apply bN | apply bD | apply bA); exact BK252.out)) : b252 ≠ b253)); have n9_ := aM ((by rw [hg]; exact Nat.ne_of_gt (bL (g := b252) (by (with_reducible repeat first | apply bN | apply bD | apply bA); exact BK252.out)) : b253 ≠ b252)); clear BK251; clear BK252; clear HB; have BK251 := n0_; have BK252 := n1_; have HB := n2_; have BK253 := n3_; have GW253 := n4_; have GE253 := n5_; have N4_ := n6_; have N5_ := n7_; have N6_ := n8_; have N7_ := n9_; clear n0_ n1_ n2_ n3_ n4_ n5_ n6_ n7_ n8_ n9_; clear hb hbox hg; have hnb6 := N2_.out; have hnc6 := N3_.out; have hnb7 := N4_.out; have hnc7 := N5_.out; have hcz8_0 : w5.cell? ⟨b251, 0, none⟩ = some (.int .i32 a0_0) := (bC BK251.out 0).trans rfl; have hcz8_1 : w5.cell? ⟨b251, 1, none⟩ = some (.int .i32 a0_1) := (bC BK251.out 1).trans rfl; have hfz8_0 := bF BK251.out 0; have hfz8_1 := bF BK251.out 1; have hnb9 := N6_.out; have hnc9 := N7_.out; have hcz10_0 : w5.cell? ⟨b252, 0, none⟩ = some (.int .i32 a1_0) := (bC BK252.out 0).trans rfl; have hcz10_1 : w5.cell? ⟨b252, 1, none⟩ = some (.int .i32 a1_1) := (bC BK252.out 1).trans rfl; have hfz10_0 := bF BK252.out 0; have hfz10_1 := bF BK252.out 1; have hcz11_0 : w5.cell? ⟨b253, 0, none⟩ = some (.int .i32 0) := (bC BK253.out 0).trans rfl; have hcz11_1 : w5.cell? ⟨b253, 1, none⟩ = some (.int .i32 0) := (bC BK253.out 1).trans rfl; have hfz11_0 := bF BK253.out 0; have hfz11_1 := bF BK253.out 1))
 refine bodyPost_ret (results_cell_row rfl _ _ b253 23 #[.int .i32 (wrap32 (a0_0 + a1_0)), .int .i32 (wrap32 (a0_1 + a1_1))] (0, 0) _ rfl (by (with_reducible repeat first | apply bN | apply bD | apply bA); refine bP (cs := #[.int .i32 (wrap32 (a0_0 + a1_0)), .int .i32 0]) ?_ 1 _ rfl; (with_reducible repeat first | apply bN | apply bD | apply bA); refine bP (cs := #[.int .i32 0, .int .i32 0]) ?_ 0 _ rfl; (with_reducible repeat first | apply bN | apply bD | apply bA); exact BK253.out) Try.underlying23 rfl (by kernel_rfl)) rfl ?_
 exact ⟨by first | rfl | (simp [errW_none, errW_some] <;> rfl) | (simp [*, errW_none, errW_some] <;> rfl), by repeat (first | (with_reducible first | exact HB.out | apply lA | apply lN | apply lD | refine lS ?_ GE251.out | refine lS ?_ GE252.out | refine lS ?_ GE253.out) | exact HB.out)⟩

end Go.Proofs.Ytddooigcnbpliaa.Q
