-- PRINTED by print.py (a twelfth state) out of the translation. Not trusted: Lean checks it.
import Derived.Test.YtddooigcnbpliaaQ0
import Derived.Test.YtddooigcnbpliaaMkeep
import Derived.Test.YtddooigcnbpliaaQbilliardref04
import Derived.Test.YtddooigcnbpliaaQbilliardref12
namespace Go.Proofs.Ytddooigcnbpliaa.Q
open Go.RowKit.Below renaming refl → lR
open Go.RowKit Go.Proofs.YtddooigcnbpliaaW.PrintWords Go.Proofs.YtddooigcnbpliaaW.PrintLast Go.Proofs.YtddooigcnbpliaaW.PrintMore
open Go.Proofs.YtddooigcnbpliaaW.PrintWords renaming blk_drewN → bN, blk_drew → bD, blk_alloc → bA, blk_below → bB, blk_cell → bC, blk_frozen → bF, blk_far → bR, blk_lt → bL, blk_put → bP, below_alloc → lA, pw_below_drewN → lN, below_drew1 → lD, below_set → lS, below_step → lT, below_size → lZ, Aside0.mk → aM
open List renaming setIfInBounds_toArray → sA, set_cons_zero → sB, set_cons_succ → sC
open Bool renaming true → T, false → F
attribute [local go_sem] max2_int min2_int max_two min_two max_three min_three max_four min_four   -- for this text's walks alone
set_option linter.unusedVariables false
set_option linter.unusedSimpArgs false

/-! ### billiardref13_Right: function 9 -/
def billiardref13_Right.f (a0_0 : Int) (a0_1 : Int) (a1_0 : Int) (a1_1 : Int) (a2_0 : Int) (a2_1 : Int) (a3_0 : Int) (a3_1 : Int) : Option (Bool) := (billiardref12_Right.f a0_0 a0_1 a1_0 a1_1 a2_0 a2_1).bind fun t143 => (if t143 = true then ((billiardref12_Right.f a2_0 a2_1 a3_0 a3_1 a0_0 a0_1).bind fun t144 => (some t144)) else (some false))
set_option maxHeartbeats 8000000 in
set_option maxRecDepth 100000 in
theorem billiardref13_Right.calls (a0_0 : Int) (a0_1 : Int) (a1_0 : Int) (a1_1 : Int) (a2_0 : Int) (a2_1 : Int) (a3_0 : Int) (a3_1 : Int) (r : Bool) (w : World) (h : billiardref13_Right.f a0_0 a0_1 a1_0 a1_1 a2_0 a2_1 a3_0 a3_1 = some r) :
  Calls Try.prog 9 #[.agg #[.int .i32 a0_0, .int .i32 a0_1], .agg #[.int .i32 a1_0, .int .i32 a1_1], .agg #[.int .i32 a2_0, .int .i32 a2_1], .agg #[.int .i32 a3_0, .int .i32 a3_1]] w fun e w' => e = .returned (.bool r) ∧ Below w.heap.size w w' := by
 have hu23 := Try.underlying23
 have HB := aM (Below.refl w.heap.size w)
 have H : ((billiardref12_Right.f a0_0 a0_1 a1_0 a1_1 a2_0 a2_1).bind fun t143 => (if t143 = true then ((billiardref12_Right.f a2_0 a2_1 a3_0 a3_1 a0_0 a0_1).bind fun t144 => (some t144)) else (some false))) = some r := h
 clear h
 replace H := Option.bind_eq_some_iff.mp H
 obtain ⟨t143, A50, H⟩ := H
 try dsimp only at H
 have A5 := aM A50
 clear A50
 by_cases c6 : t143 = true
 ·subst c6
  rw [if_pos rfl] at H
  replace H := Option.bind_eq_some_iff.mp H
  obtain ⟨t144, A70, H⟩ := H
  try dsimp only at H
  have A7 := aM A70
  clear A70
  obtain rfl := Option.some.inj H
  go_enter Try.func9, Try.ntmps9
  go_wp2_with (first | ((with_reducible refine gate_dst (N := 4) rfl ?_); refine box_event ?hg (N := 4) ?hd (cs := #[.int .i32 a0_0, .int .i32 a0_1]) (t := 23) ?hr ?_; (case hd => rfl); (case hg => rfl); (case hr => first | (go_simp; done) | (go_simp; rfl)); intro b139 hg w8 hbox hb; have n0_ := aM (lT (by repeat (first | (with_reducible first | exact HB.out | apply lA | apply lN | apply lD) | exact HB.out)) hb); have n1_ := aM (hbox); have n2_ := aM ((by rw [hg]; exact (lZ (by repeat (first | (with_reducible first | exact HB.out | apply lA | apply lN | apply lD) | exact HB.out))) : w.heap.size ≤ b139)); have n3_ := aM ((by rw [hg]; exact (lZ (by repeat (first | (with_reducible first | exact HB.out | apply lA | apply lN | apply lD) | exact HB.out))) : w.heap.size ≤ b139)); clear HB; have HB := n0_; have BK139 := n1_; have GW139 := n2_; have GE139 := n3_; clear n0_ n1_ n2_ n3_; clear hb hbox hg) | ((with_reducible refine gate_dst (N := 5) rfl ?_); refine box_event ?hg (N := 5) ?hd (cs := #[.int .i32 a1_0, .int .i32 a1_1]) (t := 23) ?hr ?_; (case hd => rfl); (case hg => rfl); (case hr => first | (go_simp; done) | (go_simp; rfl)); intro b140 hg w9 hbox hb; have n0_ := aM (bB (by (with_reducible repeat first | apply bN | apply bD | apply bA); exact BK139.out) hb); have n1_ := aM (lT (by repeat (first | (with_reducible first | exact HB.out | apply lA | apply lN | apply lD | refine lS ?_ GE139.out) | exact HB.out)) hb); have n2_ := aM (hbox); have n3_ := aM ((by rw [hg]; exact (lZ (by repeat (first | (with_reducible first | exact HB.out | apply lA | apply lN | apply lD | refine lS ?_ GE139.out) | exact HB.out))) : w.heap.size ≤ b140)); have n4_ := aM ((by rw [hg]; exact (lZ (by repeat (first | (with_reducible first | exact HB.out | apply lA | apply lN | apply lD | refine lS ?_ GE139.out) | exact HB.out))) : w.heap.size ≤ b140)); have n5_ := aM ((by rw [hg]; exact Nat.ne_of_lt (bL (g := b139) (by (with_reducible repeat first | apply bN | apply bD | apply bA); exact BK139.out)) : b139 ≠ b140)); have n6_ := aM ((by rw [hg]; exact Nat.ne_of_gt (bL (g := b139) (by (with_reducible repeat first | apply bN | apply bD | apply bA); exact BK139.out)) : b140 ≠ b139)); clear BK139; clear HB; have BK139 := n0_; have HB := n1_; have BK140 := n2_; have GW140 := n3_; have GE140 := n4_; have N0_ := n5_; have N1_ := n6_; clear n0_ n1_ n2_ n3_ n4_ n5_ n6_; clear hb hbox hg) | ((with_reducible refine gate_dst (N := 6) rfl ?_); refine box_event ?hg (N := 6) ?hd (cs := #[.int .i32 a2_0, .int .i32 a2_1]) (t := 23) ?hr ?_; (case hd => rfl); (case hg => rfl); (case hr => first | (go_simp; done) | (go_simp; rfl)); intro b141 hg w10 hbox hb; have n0_ := aM (bB (by (with_reducible repeat first | apply bN | apply bD | apply bA); exact BK139.out) hb); have n1_ := aM (bB (by (with_reducible repeat first | apply bN | apply bD | apply bA); exact BK140.out) hb); have n2_ := aM (lT (by repeat (first | (with_reducible first | exact HB.out | apply lA | apply lN | apply lD | refine lS ?_ GE139.out | refine lS ?_ GE140.out) | exact HB.out)) hb); have n3_ := aM (hbox); have n4_ := aM ((by rw [hg]; exact (lZ (by repeat (first | (with_reducible first | exact HB.out | apply lA | apply lN | apply lD | refine lS ?_ GE139.out | refine lS ?_ GE140.out) | exact HB.out))) : w.heap.size ≤ b141)); have n5_ := aM ((by rw [hg]; exact (lZ (by repeat (first | (with_reducible first | exact HB.out | apply lA | apply lN | apply lD | refine lS ?_ GE139.out | refine lS ?_ GE140.out) | exact HB.out))) : w.heap.size ≤ b141)); have n6_ := aM ((by rw [hg]; exact Nat.ne_of_lt (bL (g := b139) (by (with_reducible repeat first | apply bN | apply bD | apply bA); exact BK139.out)) : b139 ≠ b141)); have n7_ := aM ((by rw [hg]; exact Nat.ne_of_gt (bL (g := b139) (by (with_reducible repeat first | apply bN | apply bD | apply bA); exact BK139.out)) : b141 ≠ b139)); have n8_ := aM ((by rw [hg]; exact Nat.ne_of_lt (bL (g := b140) (by (with_reducible repeat first | apply bN | apply bD | apply bA); exact BK140.out)) : b140 ≠ b141)); have n9_ := aM ((by rw [hg]; exact Nat.ne_of_gt (bL (g := b140) (by (with_reducible repeat first | apply bN | apply bD | apply bA); exact BK140.out)) : b141 ≠ b140)); clear BK139; clear BK140; clear HB; have BK139 := n0_; have BK140 := n1_; have HB := n2_; have BK141 := n3_; have GW141 := n4_; have GE141 := n5_; have N2_ := n6_; have N3_ := n7_; have N4_ := n8_; have N5_ := n9_; clear n0_ n1_ n2_ n3_ n4_ n5_ n6_ n7_ n8_ n9_; clear hb hbox hg) | ((with_reducible refine gate_dst (N := 7) rfl ?_); refine box_event ?hg (N := 7) ?hd (cs := #[.int .i32 a3_0, .int .i32 a3_1]) (t := 23) ?hr ?_; (case hd => rfl); (case hg => rfl); (case hr => first | (go_simp; done) | (go_simp; rfl)); intro b142 hg w11 hbox hb; have n0_ := aM (bB (by (with_reducible repeat first | apply bN | apply bD | apply bA); exact BK139.out) hb); have n1_ := aM (bB (by (with_reducible repeat first | apply bN | apply bD | apply bA); exact BK140.out) hb); have n2_ := aM (bB (by (with_reducible repeat first | apply bN | apply bD | apply bA); exact BK141.out) hb); have n3_ := aM (lT (by repeat (first | (with_reducible first | exact HB.out | apply lA | apply lN | apply lD | refine lS ?_ GE139.out | refine lS ?_ GE140.out | refine lS ?_ GE141.out) | exact HB.out)) hb); have n4_ := aM (hbox); have n5_ := aM ((by rw [hg]; exact (lZ (by repeat (first | (with_reducible first | exact HB.out | apply lA | apply lN | apply lD | refine lS ?_ GE139.out | refine lS ?_ GE140.out | refine lS ?_ GE141.out) | exact HB.out))) : w.heap.size ≤ b142)); have n6_ := aM ((by rw [hg]; exact (lZ (by repeat (first | (with_reducible first | exact HB.out | apply lA | apply lN | apply lD | refine lS ?_ GE139.out | refine lS ?_ GE140.out | refine lS ?_ GE141.out) | exact HB.out))) : w.heap.size ≤ b142)); have n7_ := aM ((by rw [hg]; exact Nat.ne_of_lt (bL (g := b139) (by (with_reducible repeat first | apply bN | apply bD | apply bA); exact BK139.out)) : b139 ≠ b142)); have n8_ := aM ((by rw [hg]; exact Nat.ne_of_gt (bL (g := b139) (by (with_reducible repeat first | apply bN | apply bD | apply bA); exact BK139.out)) : b142 ≠ b139)); have n9_ := aM ((by rw [hg]; exact Nat.ne_of_lt (bL (g := b140) (by (with_reducible repeat first | apply bN | apply bD | apply bA); exact BK140.out)) : b140 ≠ b142)); have n10_ := aM ((by rw [hg]; exact Nat.ne_of_gt (bL (g := b140) (by (with_reducible repeat first | apply bN | apply bD | apply bA); exact BK140.out)) : b142 ≠ b140)); have n11_ := aM ((by rw [hg]; exact Nat.ne_of_lt (bL (g := b141) (by (with_reducible repeat first | apply bN | apply bD | apply bA); exact BK141.out)) : b141 ≠ b142)); have n12_ := aM ((by rw [hg]; exact Nat.ne_of_gt (bL (g := b141) (by (with_reducible repeat first | apply bN | apply bD | apply bA); exact BK141.out)) : b142 ≠ b141)); clear BK139; clear BK140; clear BK141; clear HB; have BK139 := n0_; have BK140 := n1_; have BK141 := n2_; have HB := n3_; have BK142 := n4_; have GW142 := n5_; have GE142 := n6_; have N6_ := n7_; have N7_ := n8_; have N8_ := n9_; have N9_ := n10_; have N10_ := n11_; have N11_ := n12_; clear n0_ n1_ n2_ n3_ n4_ n5_ n6_ n7_ n8_ n9_ n10_ n11_ n12_; clear hb hbox hg; have hnb12 := N0_.out; have hnc12 := N1_.out; have hnb13 := N2_.out; have hnc13 := N3_.out; have hnb14 := N6_.out; have hnc14 := N7_.out; have hcz15_0 : w11.cell? ⟨b139, 0, none⟩ = some (.int .i32 a0_0) := (bC BK139.out 0).trans rfl; have hcz15_1 : w11.cell? ⟨b139, 1, none⟩ = some (.int .i32 a0_1) := (bC BK139.out 1).trans rfl; have hfz15_0 := bF BK139.out 0; have hfz15_1 := bF BK139.out 1; have hnb16 := N4_.out; have hnc16 := N5_.out; have hnb17 := N8_.out; have hnc17 := N9_.out; have hcz18_0 : w11.cell? ⟨b140, 0, none⟩ = some (.int .i32 a1_0) := (bC BK140.out 0).trans rfl; have hcz18_1 : w11.cell? ⟨b140, 1, none⟩ = some (.int .i32 a1_1) := (bC BK140.out 1).trans rfl; have hfz18_0 := bF BK140.out 0; have hfz18_1 := bF BK140.out 1; have hnb19 := N10_.out; have hnc19 := N11_.out; have hcz20_0 : w11.cell? ⟨b141, 0, none⟩ = some (.int .i32 a2_0) := (bC BK141.out 0).trans rfl; have hcz20_1 : w11.cell? ⟨b141, 1, none⟩ = some (.int .i32 a2_1) := (bC BK141.out 1).trans rfl; have hfz20_0 := bF BK141.out 0; have hfz20_1 := bF BK141.out 1) | ((with_reducible refine gate_callee (f := 16) rfl ?_); refine goesL_ (some 12) rfl rfl Try.func16 (by kernel_rfl) rfl #[.agg #[.int .i32 a0_0, .int .i32 a0_1], .agg #[.int .i32 a1_0, .int .i32 a1_1], .agg #[.int .i32 a2_0, .int .i32 a2_1]] rfl (by (try simp only [List.map_toArray, List.map_cons, List.map_nil]); first | done | rfl | (simp only [List.length_drop, List.length_take]; rfl)) ?_; (with_reducible refine (billiardref12_Right.calls a0_0 a0_1 a1_0 a1_1 a2_0 a2_1 true _ A5.out).mono ?_); rintro e w21 ⟨rfl, hb⟩; refine ⟨_, rfl, ?_⟩; have n_ := kB4 BK139 BK140 BK141 BK142 HB (by repeat first | exact lR _ _ | apply lN | apply lD | apply lA) hb; clear BK139 BK140 BK141 BK142 HB; obtain ⟨BK139, BK140, BK141, BK142, HB⟩ := n_; (try clear hb); (try clear hb2); (try clear hk); (try clear hi); have hcz22_0 : w21.cell? ⟨b141, 0, none⟩ = some (.int .i32 a2_0) := (bC BK141.out 0).trans rfl; have hcz22_1 : w21.cell? ⟨b141, 1, none⟩ = some (.int .i32 a2_1) := (bC BK141.out 1).trans rfl; have hfz22_0 := bF BK141.out 0; have hfz22_1 := bF BK141.out 1; have hcz23_0 : w21.cell? ⟨b142, 0, none⟩ = some (.int .i32 a3_0) := (bC BK142.out 0).trans rfl; have hcz23_1 : w21.cell? ⟨b142, 1, none⟩ = some (.int .i32 a3_1) := (bC BK142.out 1).trans rfl; have hfz23_0 := bF BK142.out 0; have hfz23_1 := bF BK142.out 1; have hcz24_0 : w21.cell? ⟨b139, 0, none⟩ = some (.int .i32 a0_0) := (bC BK139.out 0).trans rfl; have hcz24_1 : w21.cell? ⟨b139, 1, none⟩ = some (.int .i32 a0_1) := (bC BK139.out 1).trans rfl; have hfz24_0 := bF BK139.out 0; have hfz24_1 := bF BK139.out 1) | (go_at_call 16; (with_reducible refine (billiardref12_Right.calls a2_0 a2_1 a3_0 a3_1 a0_0 a0_1 t144 _ A7.out).mono ?_); rintro e w25 ⟨rfl, hb⟩; have n_ := kB4 BK139 BK140 BK141 BK142 HB (by repeat first | exact lR _ _ | apply lN | apply lD | apply lA) hb; clear BK139 BK140 BK141 BK142 HB; obtain ⟨BK139, BK140, BK141, BK142, HB⟩ := n_; (try clear hb); (try clear hb2); (try clear hk); (try clear hi)))
  go_ret
  exact ⟨by first | rfl | (simp [errW_none, errW_some] <;> rfl) | (simp [*, errW_none, errW_some] <;> rfl), by repeat (first | (with_reducible first | exact HB.out | apply lA | apply lN | apply lD | refine lS ?_ GE139.out | refine lS ?_ GE140.out | refine lS ?_ GE141.out | refine lS ?_ GE142.out) | exact HB.out)⟩
 ·replace c6 := Bool.eq_false_iff.mpr c6
  subst c6
  rw [if_neg (show ¬ (false = true) by decide)] at H
  obtain rfl := Option.some.inj H
  go_enter Try.func9, Try.ntmps9
  go_wp2_with (first | ((with_reducible refine gate_dst (N := 4) rfl ?_); refine box_event ?hg (N := 4) ?hd (cs := #[.int .i32 a0_0, .int .i32 a0_1]) (t := 23) ?hr ?_; (case hd => rfl); (case hg => rfl); (case hr => first | (go_simp; done) | (go_simp; rfl)); intro b139 hg w26 hbox hb; have n0_ := aM (lT (by repeat (first | (with_reducible first | exact HB.out | apply lA | apply lN | apply lD) | exact HB.out)) hb); have n1_ := aM (hbox); have n2_ := aM ((by rw [hg]; exact (lZ (by repeat (first | (with_reducible first | exact HB.out | apply lA | apply lN | apply lD) | exact HB.out))) : w.heap.size ≤ b139)); have n3_ := aM ((by rw [hg]; exact (lZ (by repeat (first | (with_reducible first | exact HB.out | apply lA | apply lN | apply lD) | exact HB.out))) : w.heap.size ≤ b139)); clear HB; have HB := n0_; have BK139 := n1_; have GW139 := n2_; have GE139 := n3_; clear n0_ n1_ n2_ n3_; clear hb hbox hg) | ((with_reducible refine gate_dst (N := 5) rfl ?_); refine box_event ?hg (N := 5) ?hd (cs := #[.int .i32 a1_0, .int .i32 a1_1]) (t := 23) ?hr ?_; (case hd => rfl); (case hg => rfl); (case hr => first | (go_simp; done) | (go_simp; rfl)); intro b140 hg w27 hbox hb; have n0_ := aM (bB (by (with_reducible repeat first | apply bN | apply bD | apply bA); exact BK139.out) hb); have n1_ := aM (lT (by repeat (first | (with_reducible first | exact HB.out | apply lA | apply lN | apply lD | refine lS ?_ GE139.out) | exact HB.out)) hb); have n2_ := aM (hbox); have n3_ := aM ((by rw [hg]; exact (lZ (by repeat (first | (with_reducible first | exact HB.out | apply lA | apply lN | apply lD | refine lS ?_ GE139.out) | exact HB.out))) : w.heap.size ≤ b140)); have n4_ := aM ((by rw [hg]; exact (lZ (by repeat (first | (with_reducible first | exact HB.out | apply lA | apply lN | apply lD | refine lS ?_ GE139.out) | exact HB.out))) : w.heap.size ≤ b140)); have n5_ := aM ((by rw [hg]; exact Nat.ne_of_lt (bL (g := b139) (by (with_reducible repeat first | apply bN | apply bD | apply bA); exact BK139.out)) : b139 ≠ b140)); have n6_ := aM ((by rw [hg]; exact Nat.ne_of_gt (bL (g := b139) (by (with_reducible repeat first | apply bN | apply bD | apply bA); exact BK139.out)) : b140 ≠ b139)); clear BK139; clear HB; have BK139 := n0_; have HB := n1_; have BK140 := n2_; have GW140 := n3_; have GE140 := n4_; have N0_ := n5_; have N1_ := n6_; clear n0_ n1_ n2_ n3_ n4_ n5_ n6_; clear hb hbox hg) | ((with_reducible refine gate_dst (N := 6) rfl ?_); refine box_event ?hg (N := 6) ?hd (cs := #[.int .i32 a2_0, .int .i32 a2_1]) (t := 23) ?hr ?_; (case hd => rfl); (case hg => rfl); (case hr => first | (go_simp; done) | (go_simp; rfl)); intro b141 hg w28 hbox hb; have n0_ := aM (bB (by (with_reducible repeat first | apply bN | apply bD | apply bA); exact BK139.out) hb); have n1_ := aM (bB (by (with_reducible repeat first | apply bN | apply bD | apply bA); exact BK140.out) hb); have n2_ := aM (lT (by repeat (first | (with_reducible first | exact HB.out | apply lA | apply lN | apply lD | refine lS ?_ GE139.out | refine lS ?_ GE140.out) | exact HB.out)) hb); have n3_ := aM (hbox); have n4_ := aM ((by rw [hg]; exact (lZ (by repeat (first | (with_reducible first | exact HB.out | apply lA | apply lN | apply lD | refine lS ?_ GE139.out | refine lS ?_ GE140.out) | exact HB.out))) : w.heap.size ≤ b141)); have n5_ := aM ((by rw [hg]; exact (lZ (by repeat (first | (with_reducible first | exact HB.out | apply lA | apply lN | apply lD | refine lS ?_ GE139.out | refine lS ?_ GE140.out) | exact HB.out))) : w.heap.size ≤ b141)); have n6_ := aM ((by rw [hg]; exact Nat.ne_of_lt (bL (g := b139) (by (with_reducible repeat first | apply bN | apply bD | apply bA); exact BK139.out)) : b139 ≠ b141)); have n7_ := aM ((by rw [hg]; exact Nat.ne_of_gt (bL (g := b139) (by (with_reducible repeat first | apply bN | apply bD | apply bA); exact BK139.out)) : b141 ≠ b139)); have n8_ := aM ((by rw [hg]; exact Nat.ne_of_lt (bL (g := b140) (by (with_reducible repeat first | apply bN | apply bD | apply bA); exact BK140.out)) : b140 ≠ b141)); have n9_ := aM ((by rw [hg]; exact Nat.ne_of_gt (bL (g := b140) (by (with_reducible repeat first | apply bN | apply bD | apply bA); exact BK140.out)) : b141 ≠ b140)); clear BK139; clear BK140; clear HB; have BK139 := n0_; have BK140 := n1_; have HB := n2_; have BK141 := n3_; have GW141 := n4_; have GE141 := n5_; have N2_ := n6_; have N3_ := n7_; have N4_ := n8_; have N5_ := n9_; clear n0_ n1_ n2_ n3_ n4_ n5_ n6_ n7_ n8_ n9_; clear hb hbox hg) | ((with_reducible refine gate_dst (N := 7) rfl ?_); refine box_event ?hg (N := 7) ?hd (cs := #[.int .i32 a3_0, .int .i32 a3_1]) (t := 23) ?hr ?_; (case hd => rfl); (case hg => rfl); (case hr => first | (go_simp; done) | (go_simp; rfl)); intro b142 hg w29 hbox hb; have n0_ := aM (bB (by (with_reducible repeat first | apply bN | apply bD | apply bA); exact BK139.out) hb); have n1_ := aM (bB (by (with_reducible repeat first | apply bN | apply bD | apply bA); exact BK140.out) hb); have n2_ := aM (bB (by (with_reducible repeat first | apply bN | apply bD | apply bA); exact BK141.out) hb); have n3_ := aM (lT (by repeat (first | (with_reducible first | exact HB.out | apply lA | apply lN | apply lD | refine lS ?_ GE139.out | refine lS ?_ GE140.out | refine lS ?_ GE141.out) | exact HB.out)) hb); have n4_ := aM (hbox); have n5_ := aM ((by rw [hg]; exact (lZ (by repeat (first | (with_reducible first | exact HB.out | apply lA | apply lN | apply lD | refine lS ?_ GE139.out | refine lS ?_ GE140.out | refine lS ?_ GE141.out) | exact HB.out))) : w.heap.size ≤ b142)); have n6_ := aM ((by rw [hg]; exact (lZ (by repeat (first | (with_reducible first | exact HB.out | apply lA | apply lN | apply lD | refine lS ?_ GE139.out | refine lS ?_ GE140.out | refine lS ?_ GE141.out) | exact HB.out))) : w.heap.size ≤ b142)); have n7_ := aM ((by rw [hg]; exact Nat.ne_of_lt (bL (g := b139) (by (with_reducible repeat first | apply bN | apply bD | apply bA); exact BK139.out)) : b139 ≠ b142)); have n8_ := aM ((by rw [hg]; exact Nat.ne_of_gt (bL (g := b139) (by (with_reducible repeat first | apply bN | apply bD | apply bA); exact BK139.out)) : b142 ≠ b139)); have n9_ := aM ((by rw [hg]; exact Nat.ne_of_lt (bL (g := b140) (by (with_reducible repeat first | apply bN | apply bD | apply bA); exact BK140.out)) : b140 ≠ b142)); have n10_ := aM ((by rw [hg]; exact Nat.ne_of_gt (bL (g := b140) (by (with_reducible repeat first | apply bN | apply bD | apply bA); exact BK140.out)) : b142 ≠ b140)); have n11_ := aM ((by rw [hg]; exact Nat.ne_of_lt (bL (g := b141) (by (with_reducible repeat first | apply bN | apply bD | apply bA); exact BK141.out)) : b141 ≠ b142)); have n12_ := aM ((by rw [hg]; exact Nat.ne_of_gt (bL (g := b141) (by (with_reducible repeat first | apply bN | apply bD | apply bA); exact BK141.out)) : b142 ≠ b141)); clear BK139; clear BK140; clear BK141; clear HB; have BK139 := n0_; have BK140 := n1_; have BK141 := n2_; have HB := n3_; have BK142 := n4_; have GW142 := n5_; have GE142 := n6_; have N6_ := n7_; have N7_ := n8_; have N8_ := n9_; have N9_ := n10_; have N10_ := n11_; have N11_ := n12_; clear n0_ n1_ n2_ n3_ n4_ n5_ n6_ n7_ n8_ n9_ n10_ n11_ n12_; clear hb hbox hg; have hnb30 := N0_.out; have hnc30 := N1_.out; have hnb31 := N2_.out; have hnc31 := N3_.out; have hnb32 := N6_.out; have hnc32 := N7_.out; have hcz33_0 : w29.cell? ⟨b139, 0, none⟩ = some (.int .i32 a0_0) := (bC BK139.out 0).trans rfl; have hcz33_1 : w29.cell? ⟨b139, 1, none⟩ = some (.int .i32 a0_1) := (bC BK139.out 1).trans rfl; have hfz33_0 := bF BK139.out 0; have hfz33_1 := bF BK139.out 1; have hnb34 := N4_.out; have hnc34 := N5_.out; have hnb35 := N8_.out; have hnc35 := N9_.out; have hcz36_0 : w29.cell? ⟨b140, 0, none⟩ = some (.int .i32 a1_0) := (bC BK140.out 0).trans rfl; have hcz36_1 : w29.cell? ⟨b140, 1, none⟩ = some (.int .i32 a1_1) := (bC BK140.out 1).trans rfl; have hfz36_0 := bF BK140.out 0; have hfz36_1 := bF BK140.out 1; have hnb37 := N10_.out; have hnc37 := N11_.out; have hcz38_0 : w29.cell? ⟨b141, 0, none⟩ = some (.int .i32 a2_0) := (bC BK141.out 0).trans rfl; have hcz38_1 : w29.cell? ⟨b141, 1, none⟩ = some (.int .i32 a2_1) := (bC BK141.out 1).trans rfl; have hfz38_0 := bF BK141.out 0; have hfz38_1 := bF BK141.out 1) | ((with_reducible refine gate_callee (f := 16) rfl ?_); refine goesL_ (some 12) rfl rfl Try.func16 (by kernel_rfl) rfl #[.agg #[.int .i32 a0_0, .int .i32 a0_1], .agg #[.int .i32 a1_0, .int .i32 a1_1], .agg #[.int .i32 a2_0, .int .i32 a2_1]] rfl (by (try simp only [List.map_toArray, List.map_cons, List.map_nil]); first | done | rfl | (simp only [List.length_drop, List.length_take]; rfl)) ?_; (with_reducible refine (billiardref12_Right.calls a0_0 a0_1 a1_0 a1_1 a2_0 a2_1 false _ A5.out).mono ?_); rintro e w39 ⟨rfl, hb⟩; refine ⟨_, rfl, ?_⟩; have n_ := kB4 BK139 BK140 BK141 BK142 HB (by repeat first | exact lR _ _ | apply lN | apply lD | apply lA) hb; clear BK139 BK140 BK141 BK142 HB; obtain ⟨BK139, BK140, BK141, BK142, HB⟩ := n_; (try clear hb); (try clear hb2); (try clear hk); (try clear hi)))
  go_ret
  exact ⟨by first | rfl | (simp [errW_none, errW_some] <;> rfl) | (simp [*, errW_none, errW_some] <;> rfl), by repeat (first | (with_reducible first | exact HB.out | apply lA | apply lN | apply lD | refine lS ?_ GE139.out | refine lS ?_ GE140.out | refine lS ?_ GE141.out | refine lS ?_ GE142.out) | exact HB.out)⟩

/-! ### billiardref13_DistSq: function 13 -/
def billiardref13_DistSq.f (a0_0 : Int) (a0_1 : Int) (a0_2 : Int) (a0_3 : Int) : Option (Int) := (billiardref04_LengthSq.f (wrap64 ((wrap64 (a0_2)) - (wrap64 (a0_0)))) (wrap64 ((wrap64 (a0_3)) - (wrap64 (a0_1))))).bind fun t146 => (some t146)
set_option maxHeartbeats 8000000 in
set_option maxRecDepth 100000 in
theorem billiardref13_DistSq.calls (a0_0 : Int) (a0_1 : Int) (a0_2 : Int) (a0_3 : Int) (r : Int) (w : World) (h : billiardref13_DistSq.f a0_0 a0_1 a0_2 a0_3 = some r) :
  Calls Try.prog 13 #[.agg #[.int .i32 a0_0, .int .i32 a0_1, .int .i32 a0_2, .int .i32 a0_3]] w fun e w' => e = .returned (.int .u64 r) ∧ Below w.heap.size w w' := by
 have hu29 := Try.underlying29
 have HB := aM (Below.refl w.heap.size w)
 have H : ((billiardref04_LengthSq.f (wrap64 ((wrap64 (a0_2)) - (wrap64 (a0_0)))) (wrap64 ((wrap64 (a0_3)) - (wrap64 (a0_1))))).bind fun t146 => (some t146)) = some r := h
 clear h
 replace H := Option.bind_eq_some_iff.mp H
 obtain ⟨t146, A20, H⟩ := H
 try dsimp only at H
 have A2 := aM A20
 clear A20
 obtain rfl := Option.some.inj H
 go_enter Try.func13, Try.ntmps13
 go_wp2_with (first | ((with_reducible refine gate_dst (N := 1) rfl ?_); refine box_event ?hg (N := 1) ?hd (cs := #[.int .i32 a0_0, .int .i32 a0_1, .int .i32 a0_2, .int .i32 a0_3]) (t := 29) ?hr ?_; (case hd => rfl); (case hg => rfl); (case hr => first | (go_simp; done) | (go_simp; rfl)); intro b145 hg w3 hbox hb; have n0_ := aM (lT (by repeat (first | (with_reducible first | exact HB.out | apply lA | apply lN | apply lD) | exact HB.out)) hb); have n1_ := aM (hbox); have n2_ := aM ((by rw [hg]; exact (lZ (by repeat (first | (with_reducible first | exact HB.out | apply lA | apply lN | apply lD) | exact HB.out))) : w.heap.size ≤ b145)); have n3_ := aM ((by rw [hg]; exact (lZ (by repeat (first | (with_reducible first | exact HB.out | apply lA | apply lN | apply lD) | exact HB.out))) : w.heap.size ≤ b145)); clear HB; have HB := n0_; have BK145 := n1_; have GW145 := n2_; have GE145 := n3_; clear n0_ n1_ n2_ n3_; clear hb hbox hg; have hcz4_0 : w3.cell? ⟨b145, 0, none⟩ = some (.int .i32 a0_0) := (bC BK145.out 0).trans rfl; have hcz4_1 : w3.cell? ⟨b145, 1, none⟩ = some (.int .i32 a0_1) := (bC BK145.out 1).trans rfl; have hcz4_2 : w3.cell? ⟨b145, 2, none⟩ = some (.int .i32 a0_2) := (bC BK145.out 2).trans rfl; have hcz4_3 : w3.cell? ⟨b145, 3, none⟩ = some (.int .i32 a0_3) := (bC BK145.out 3).trans rfl; have hfz4_0 := bF BK145.out 0; have hfz4_1 := bF BK145.out 1; have hfz4_2 := bF BK145.out 2; have hfz4_3 := bF BK145.out 3) | ((with_reducible refine gate_callee (f := 19) rfl ?_); refine goesL_ (some 21) rfl rfl Try.func19 (by kernel_rfl) rfl #[.int .i64 (wrap64 ((wrap64 (a0_2)) - (wrap64 (a0_0)))), .int .i64 (wrap64 ((wrap64 (a0_3)) - (wrap64 (a0_1))))] rfl (by (try simp only [List.map_toArray, List.map_cons, List.map_nil]); first | done | rfl | (simp only [List.length_drop, List.length_take]; rfl)) ?_; (with_reducible refine (billiardref04_LengthSq.calls (wrap64 ((wrap64 (a0_2)) - (wrap64 (a0_0)))) (wrap64 ((wrap64 (a0_3)) - (wrap64 (a0_1)))) t146 _ A2.out).mono ?_); rintro e w' ⟨rfl, ⟨nd, rfl⟩⟩; refine ⟨_, rfl, ?_⟩))
 go_ret
 exact ⟨by first | rfl | (simp [errW_none, errW_some] <;> rfl) | (simp [*, errW_none, errW_some] <;> rfl), by repeat (first | (with_reducible first | exact HB.out | apply lA | apply lN | apply lD | refine lS ?_ GE145.out) | exact HB.out)⟩

/-! ### billiardref13_Chosen: function 11 -/
def billiardref13_Chosen.l0 : Nat → List (S29) → Int → Int → Int → Int → Int → Option (Int × Int × Int × Int)
 | 0, _, _, _, _, _, _ => none
 | k + 1, x9, x11, x182000, x182001, x182002, x182003 => if x11 < (x9.length : Int) then (if 0 ≤ x11 then ((billiardref13_DistSq.f ((rd_T29 x9 x11).f0.f0) ((rd_T29 x9 x11).f0.f1) ((rd_T29 x9 x11).f1.f0) ((rd_T29 x9 x11).f1.f1)).bind fun t183 => ((billiardref13_DistSq.f x182000 x182001 x182002 x182003).bind fun t184 => (if t183 < t184 then (billiardref13_Chosen.l0 k x9 (wrap64 (x11 + 1)) ((rd_T29 x9 x11).f0.f0) ((rd_T29 x9 x11).f0.f1) ((rd_T29 x9 x11).f1.f0) ((rd_T29 x9 x11).f1.f1)) else (billiardref13_Chosen.l0 k x9 (wrap64 (x11 + 1)) x182000 x182001 x182002 x182003)))) else (none)) else (some (x182000, x182001, x182002, x182003))
def billiardref13_Chosen.f (k : Nat) (a0_0 : Int) (a0_1 : Int) (a1_0 : Int) (a1_1 : Int) (a2_0 : Int) (a2_1 : Int) (a3_0 : Int) (a3_1 : Int) : Option (Int × Int × Int × Int) := (billiardref12_Nearest.f a2_0 a2_1 a3_0 a3_1 a0_0 a0_1).bind fun bt169 => ((billiardref12_Nearest.f a2_0 a2_1 a3_0 a3_1 a1_0 a1_1).bind fun bt171 => ((billiardref12_Nearest.f a0_0 a0_1 a1_0 a1_1 a2_0 a2_1).bind fun bt173 => ((billiardref12_Nearest.f a0_0 a0_1 a1_0 a1_1 a3_0 a3_1).bind fun bt175 => ((some (([(⟨(⟨a0_0, a0_1⟩ : S23), (⟨bt169.1, bt169.2⟩ : S23)⟩ : S29), (⟨(⟨a1_0, a1_1⟩ : S23), (⟨bt171.1, bt171.2⟩ : S23)⟩ : S29), (⟨(⟨bt173.1, bt173.2⟩ : S23), (⟨a2_0, a2_1⟩ : S23)⟩ : S29), (⟨(⟨bt175.1, bt175.2⟩ : S23), (⟨a3_0, a3_1⟩ : S23)⟩ : S29)] : List (S29)) : List (S29))).bind fun y177 => (if 0 < (y177.length : Int) then (billiardref13_Chosen.l0 k y177 1 ((rd_T29 y177 0).f0.f0) ((rd_T29 y177 0).f0.f1) ((rd_T29 y177 0).f1.f0) ((rd_T29 y177 0).f1.f1)) else (none))))))
theorem billiardref13_Chosen.mono_l : ∀ k, (∀ y0 y1 y2 y3 y4 y5, LeO (billiardref13_Chosen.l0 k y0 y1 y2 y3 y4 y5) (billiardref13_Chosen.l0 (k + 1) y0 y1 y2 y3 y4 y5))
 | 0 => fun _ _ _ _ _ _ r h => by simp [billiardref13_Chosen.l0] at h
 | k + 1 => by
  have ih0 := billiardref13_Chosen.mono_l k
  ·intro y0 y1 y2 y3 y4 y5
   unfold billiardref13_Chosen.l0
   repeat' first
   | (with_reducible exact ih0 _ _ _ _ _ _)
   | (with_reducible exact LeO.refl _)
   | (with_reducible exact LeO.none _)
   | (with_reducible refine LeO.ite ?_ ?_)
   | (with_reducible refine LeO.bind ?_ (fun _ => ?_))
   | exact ih0 _ _ _ _ _ _
   | exact LeO.none _
   | refine LeO.ite ?_ ?_
   | refine LeO.bind ?_ (fun _ => ?_)
theorem billiardref13_Chosen.mono : ∀ a0 a1 a2 a3 a4 a5 a6 a7 k, LeO (billiardref13_Chosen.f k a0 a1 a2 a3 a4 a5 a6 a7) (billiardref13_Chosen.f (k + 1) a0 a1 a2 a3 a4 a5 a6 a7) := by
 intro a0 a1 a2 a3 a4 a5 a6 a7 k
 have ih0 := billiardref13_Chosen.mono_l k
 unfold billiardref13_Chosen.f
 repeat' first
   | (with_reducible exact ih0 _ _ _ _ _ _)
   | (with_reducible exact LeO.refl _)
   | (with_reducible exact LeO.none _)
   | (with_reducible refine LeO.ite ?_ ?_)
   | (with_reducible refine LeO.bind ?_ (fun _ => ?_))
   | exact ih0 _ _ _ _ _ _
   | exact LeO.none _
   | refine LeO.ite ?_ ?_
   | refine LeO.bind ?_ (fun _ => ?_)
def billiardref13_Chosen.T1 : Bool × List (List Nat × List Nat) := (true, [([], []), ([], []), ([], []), ([], []), ([1, 2, 3], [1, 2, 3]), ([0, 4], [0, 4]), ([], []), ([], []), ([], []), ([], []), ([7, 8, 9, 4], [7, 8, 9]), ([6, 10], [6, 10]), ([], []), ([], []), ([], []), ([12, 13, 14, 10], [12, 13, 14]), ([], []), ([15, 16], [15, 16]), ([], []), ([], []), ([], []), ([18, 19, 20, 15], [18, 19, 20]), ([], []), ([21, 22], [21, 22]), ([5, 11, 17, 23], [5, 11, 17, 23]), ([24, 21, 0, 1, 2, 3, 4, 5, 6, 7, 8, 9, 10, 11, 12, 13, 14, 15, 16, 17, 18, 19, 20, 21, 22, 23, 24], [24])])
def billiardref13_Chosen.B1 : List Nat := [0, 0, 0, 0, 14, 31, 0, 0, 0, 0, 926, 2014, 0, 0, 0, 30622, 0, 128926, 0, 0, 0, 1898398, 0, 8189854, 16777215, 33554431]
theorem billiardref13_Chosen.tab1 : rtab .any (opsOf Try.f11 1) = billiardref13_Chosen.T1 := by kernel_rfl
theorem billiardref13_Chosen.bits1 : waitsOk billiardref13_Chosen.T1.2 billiardref13_Chosen.B1 = true := by kernel_rfl
def billiardref13_Chosen.T6 : Bool × List (List Nat × List Nat) := (true, [([], []), ([], []), ([0, 1], [0, 1]), ([2], [2]), ([3], [3]), ([], []), ([5, 4], [5]), ([4, 6], [4, 6])])
def billiardref13_Chosen.B6 : List Nat := [0, 0, 3, 7, 15, 0, 63, 127]
theorem billiardref13_Chosen.tab6 : rtab .any (opsOf Try.f11 6) = billiardref13_Chosen.T6 := by kernel_rfl
theorem billiardref13_Chosen.bits6 : waitsOk billiardref13_Chosen.T6.2 billiardref13_Chosen.B6 = true := by kernel_rfl
set_option maxHeartbeats 8000000 in
set_option maxRecDepth 100000 in
theorem billiardref13_Chosen.calls (k : Nat) (a0_0 : Int) (a0_1 : Int) (a1_0 : Int) (a1_1 : Int) (a2_0 : Int) (a2_1 : Int) (a3_0 : Int) (a3_1 : Int) (r1 : Int) (r2 : Int) (r3 : Int) (r4 : Int) (w : World) (h : billiardref13_Chosen.f k a0_0 a0_1 a1_0 a1_1 a2_0 a2_1 a3_0 a3_1 = some (r1, r2, r3, r4)) :
  Calls Try.prog 11 #[.agg #[.int .i32 a0_0, .int .i32 a0_1], .agg #[.int .i32 a1_0, .int .i32 a1_1], .agg #[.int .i32 a2_0, .int .i32 a2_1], .agg #[.int .i32 a3_0, .int .i32 a3_1]] w fun e w' => e = .returned (.agg #[.int .i32 r1, .int .i32 r2, .int .i32 r3, .int .i32 r4]) ∧ Below w.heap.size w w' := by
 have hu23 := Try.underlying23
 have hu29 := Try.underlying29
 have HB := aM (Below.refl w.heap.size w)
 have H : ((billiardref12_Nearest.f a2_0 a2_1 a3_0 a3_1 a0_0 a0_1).bind fun bt169 => ((billiardref12_Nearest.f a2_0 a2_1 a3_0 a3_1 a1_0 a1_1).bind fun bt171 => ((billiardref12_Nearest.f a0_0 a0_1 a1_0 a1_1 a2_0 a2_1).bind fun bt173 => ((billiardref12_Nearest.f a0_0 a0_1 a1_0 a1_1 a3_0 a3_1).bind fun bt175 => ((some (([(⟨(⟨a0_0, a0_1⟩ : S23), (⟨bt169.1, bt169.2⟩ : S23)⟩ : S29), (⟨(⟨a1_0, a1_1⟩ : S23), (⟨bt171.1, bt171.2⟩ : S23)⟩ : S29), (⟨(⟨bt173.1, bt173.2⟩ : S23), (⟨a2_0, a2_1⟩ : S23)⟩ : S29), (⟨(⟨bt175.1, bt175.2⟩ : S23), (⟨a3_0, a3_1⟩ : S23)⟩ : S29)] : List (S29)) : List (S29))).bind fun y177 => (if 0 < (y177.length : Int) then (billiardref13_Chosen.l0 k y177 1 ((rd_T29 y177 0).f0.f0) ((rd_T29 y177 0).f0.f1) ((rd_T29 y177 0).f1.f0) ((rd_T29 y177 0).f1.f1)) else (none))))))) = some (r1, r2, r3, r4) := h
 clear h
 replace H := Option.bind_eq_some_iff.mp H
 obtain ⟨⟨t169, t170⟩, A50, H⟩ := H
 try dsimp only at H
 have A5 := aM A50
 clear A50
 replace H := Option.bind_eq_some_iff.mp H
 obtain ⟨⟨t171, t172⟩, A60, H⟩ := H
 try dsimp only at H
 have A6 := aM A60
 clear A60
 replace H := Option.bind_eq_some_iff.mp H
 obtain ⟨⟨t173, t174⟩, A70, H⟩ := H
 try dsimp only at H
 have A7 := aM A70
 clear A70
 replace H := Option.bind_eq_some_iff.mp H
 obtain ⟨⟨t175, t176⟩, A80, H⟩ := H
 try dsimp only at H
 have A8 := aM A80
 clear A80
 obtain ⟨y177, hy177⟩ : ∃ y_ : List (S29), y_ = (([(⟨(⟨a0_0, a0_1⟩ : S23), (⟨t169, t170⟩ : S23)⟩ : S29), (⟨(⟨a1_0, a1_1⟩ : S23), (⟨t171, t172⟩ : S23)⟩ : S29), (⟨(⟨t173, t174⟩ : S23), (⟨a2_0, a2_1⟩ : S23)⟩ : S29), (⟨(⟨t175, t176⟩ : S23), (⟨a3_0, a3_1⟩ : S23)⟩ : S29)] : List (S29))) := ⟨_, rfl⟩
 replace H : (if 0 < (y177.length : Int) then (billiardref13_Chosen.l0 k y177 1 ((rd_T29 y177 0).f0.f0) ((rd_T29 y177 0).f0.f1) ((rd_T29 y177 0).f1.f0) ((rd_T29 y177 0).f1.f1)) else (none)) = some (r1, r2, r3, r4) := by first | (rw [hy177]; with_reducible exact H) | (have H2_ := (Option.bind_some _ _).symm.trans H; rw [hy177]; with_reducible exact H2_) | (have H2_ := (Option.bind_some _ _).symm.trans H; with_reducible exact H2_) | with_reducible exact H | (rw [hy177]; exact H) | exact H
 have Ny177 := aM hy177
 clear hy177
 by_cases c9 : 0 < (y177.length : Int)
 ·rw [if_pos c9] at H
  have c9b0 : decide (0 < (y177.length : Int)) = true := decide_eq_true c9
  have c9b1 : decide (0 < y177.length) = true := decide_eq_true (by omega)
  clear c9
  have H' := aM H
  clear H
  go_enter Try.func11, Try.ntmps11
  try go_wp2_with (first | ((with_reducible refine gate_dst (N := 4) rfl ?_); refine box_event ?hg (N := 4) ?hd (cs := #[.int .i32 a0_0, .int .i32 a0_1]) (t := 23) ?hr ?_; (case hd => rfl); (case hg => rfl); (case hr => first | (go_simp; done) | (go_simp; rfl)); intro b164 hg w10 hbox hb; have n0_ := aM (lT (by repeat (first | (with_reducible first | exact HB.out | apply lA | apply lN | apply lD) | exact HB.out)) hb); have n1_ := aM (hbox); have n2_ := aM ((by rw [hg]; exact (lZ (by repeat (first | (with_reducible first | exact HB.out | apply lA | apply lN | apply lD) | exact HB.out))) : w.heap.size ≤ b164)); have n3_ := aM ((by rw [hg]; exact (lZ (by repeat (first | (with_reducible first | exact HB.out | apply lA | apply lN | apply lD) | exact HB.out))) : w.heap.size ≤ b164)); clear HB; have HB := n0_; have BK164 := n1_; have GW164 := n2_; have GE164 := n3_; clear n0_ n1_ n2_ n3_; clear hb hbox hg) | ((with_reducible refine gate_dst (N := 5) rfl ?_); refine box_event ?hg (N := 5) ?hd (cs := #[.int .i32 a1_0, .int .i32 a1_1]) (t := 23) ?hr ?_; (case hd => rfl); (case hg => rfl); (case hr => first | (go_simp; done) | (go_simp; rfl)); intro b165 hg w11 hbox hb; have n0_ := aM (bB (by (with_reducible repeat first | apply bN | apply bD | apply bA); exact BK164.out) hb); have n1_ := aM (lT (by repeat (first | (with_reducible first | exact HB.out | apply lA | apply lN | apply lD | refine lS ?_ GE164.out) | exact HB.out)) hb); have n2_ := aM (hbox); have n3_ := aM ((by rw [hg]; exact (lZ (by repeat (first | (with_reducible first | exact HB.out | apply lA | apply lN | apply lD | refine lS ?_ GE164.out) | exact HB.out))) : w.heap.size ≤ b165)); have n4_ := aM ((by rw [hg]; exact (lZ (by repeat (first | (with_reducible first | exact HB.out | apply lA | apply lN | apply lD | refine lS ?_ GE164.out) | exact HB.out))) : w.heap.size ≤ b165)); have n5_ := aM ((by rw [hg]; exact Nat.ne_of_lt (bL (g := b164) (by (with_reducible repeat first | apply bN | apply bD | apply bA); exact BK164.out)) : b164 ≠ b165)); have n6_ := aM ((by rw [hg]; exact Nat.ne_of_gt (bL (g := b164) (by (with_reducible repeat first | apply bN | apply bD | apply bA); exact BK164.out)) : b165 ≠ b164)); clear BK164; clear HB; have BK164 := n0_; have HB := n1_; have BK165 := n2_; have GW165 := n3_; have GE165 := n4_; have N12_ := n5_; have N13_ := n6_; clear n0_ n1_ n2_ n3_ n4_ n5_ n6_; clear hb hbox hg) | ((with_reducible refine gate_dst (N := 6) rfl ?_); refine box_event ?hg (N := 6) ?hd (cs := #[.int .i32 a2_0, .int .i32 a2_1]) (t := 23) ?hr ?_; (case hd => rfl); (case hg => rfl); (case hr => first | (go_simp; done) | (go_simp; rfl)); intro b166 hg w12 hbox hb; have n0_ := aM (bB (by (with_reducible repeat first | apply bN | apply bD | apply bA); exact BK164.out) hb); have n1_ := aM (bB (by (with_reducible repeat first | apply bN | apply bD | apply bA); exact BK165.out) hb); have n2_ := aM (lT (by repeat (first | (with_reducible first | exact HB.out | apply lA | apply lN | apply lD | refine lS ?_ GE164.out | refine lS ?_ GE165.out) | exact HB.out)) hb); have n3_ := aM (hbox); have n4_ := aM ((by rw [hg]; exact (lZ (by repeat (first | (with_reducible first | exact HB.out | apply lA | apply lN | apply lD | refine lS ?_ GE164.out | refine lS ?_ GE165.out) | exact HB.out))) : w.heap.size ≤ b166)); have n5_ := aM ((by rw [hg]; exact (lZ (by repeat (first | (with_reducible first | exact HB.out | apply lA | apply lN | apply lD | refine lS ?_ GE164.out | refine lS ?_ GE165.out) | exact HB.out))) : w.heap.size ≤ b166)); have n6_ := aM ((by rw [hg]; exact Nat.ne_of_lt (bL (g := b164) (by (with_reducible repeat first | apply bN | apply bD | apply bA); exact BK164.out)) : b164 ≠ b166)); have n7_ := aM ((by rw [hg]; exact Nat.ne_of_gt (bL (g := b164) (by (with_reducible repeat first | apply bN | apply bD | apply bA); exact BK164.out)) : b166 ≠ b164)); have n8_ := aM ((by rw [hg]; exact Nat.ne_of_lt (bL (g := b165) (by (with_reducible repeat first | apply bN | apply bD | apply bA); exact BK165.out)) : b165 ≠ b166)); have n9_ := aM ((by rw [hg]; exact Nat.ne_of_gt (bL (g := b165) (by (with_reducible repeat first | apply bN | apply bD | apply bA); exact BK165.out)) : b166 ≠ b165)); clear BK164; clear BK165; clear HB; have BK164 := n0_; have BK165 := n1_; have HB := n2_; have BK166 := n3_; have GW166 := n4_; have GE166 := n5_; have N14_ := n6_; have N15_ := n7_; have N16_ := n8_; have N17_ := n9_; clear n0_ n1_ n2_ n3_ n4_ n5_ n6_ n7_ n8_ n9_; clear hb hbox hg) | ((with_reducible refine gate_dst (N := 7) rfl ?_); refine box_event ?hg (N := 7) ?hd (cs := #[.int .i32 a3_0, .int .i32 a3_1]) (t := 23) ?hr ?_; (case hd => rfl); (case hg => rfl); (case hr => first | (go_simp; done) | (go_simp; rfl)); intro b167 hg w13 hbox hb; have n0_ := aM (bB (by (with_reducible repeat first | apply bN | apply bD | apply bA); exact BK164.out) hb); have n1_ := aM (bB (by (with_reducible repeat first | apply bN | apply bD | apply bA); exact BK165.out) hb); have n2_ := aM (bB (by (with_reducible repeat first | apply bN | apply bD | apply bA); exact BK166.out) hb); have n3_ := aM (lT (by repeat (first | (with_reducible first | exact HB.out | apply lA | apply lN | apply lD | refine lS ?_ GE164.out | refine lS ?_ GE165.out | refine lS ?_ GE166.out) | exact HB.out)) hb); have n4_ := aM (hbox); have n5_ := aM ((by rw [hg]; exact (lZ (by repeat (first | (with_reducible first | exact HB.out | apply lA | apply lN | apply lD | refine lS ?_ GE164.out | refine lS ?_ GE165.out | refine lS ?_ GE166.out) | exact HB.out))) : w.heap.size ≤ b167)); have n6_ := aM ((by rw [hg]; exact (lZ (by repeat (first | (with_reducible first | exact HB.out | apply lA | apply lN | apply lD | refine lS ?_ GE164.out | refine lS ?_ GE165.out | refine lS ?_ GE166.out) | exact HB.out))) : w.heap.size ≤ b167)); have n7_ := aM ((by rw [hg]; exact Nat.ne_of_lt (bL (g := b164) (by (with_reducible repeat first | apply bN | apply bD | apply bA); exact BK164.out)) : b164 ≠ b167)); have n8_ := aM ((by rw [hg]; exact Nat.ne_of_gt (bL (g := b164) (by (with_reducible repeat first | apply bN | apply bD | apply bA); exact BK164.out)) : b167 ≠ b164)); have n9_ := aM ((by rw [hg]; exact Nat.ne_of_lt (bL (g := b165) (by (with_reducible repeat first | apply bN | apply bD | apply bA); exact BK165.out)) : b165 ≠ b167)); have n10_ := aM ((by rw [hg]; exact Nat.ne_of_gt (bL (g := b165) (by (with_reducible repeat first | apply bN | apply bD | apply bA); exact BK165.out)) : b167 ≠ b165)); have n11_ := aM ((by rw [hg]; exact Nat.ne_of_lt (bL (g := b166) (by (with_reducible repeat first | apply bN | apply bD | apply bA); exact BK166.out)) : b166 ≠ b167)); have n12_ := aM ((by rw [hg]; exact Nat.ne_of_gt (bL (g := b166) (by (with_reducible repeat first | apply bN | apply bD | apply bA); exact BK166.out)) : b167 ≠ b166)); clear BK164; clear BK165; clear BK166; clear HB; have BK164 := n0_; have BK165 := n1_; have BK166 := n2_; have HB := n3_; have BK167 := n4_; have GW167 := n5_; have GE167 := n6_; have N18_ := n7_; have N19_ := n8_; have N20_ := n9_; have N21_ := n10_; have N22_ := n11_; have N23_ := n12_; clear n0_ n1_ n2_ n3_ n4_ n5_ n6_ n7_ n8_ n9_ n10_ n11_ n12_; clear hb hbox hg) | ((with_reducible refine gate_dst (N := 8) rfl ?_); refine box_event ?hg (N := 8) ?hd (cs := #[.int .i32 0, .int .i32 0, .int .i32 0, .int .i32 0]) (t := 29) ?hr ?_; (case hd => rfl); (case hg => rfl); (case hr => first | (go_simp; done) | (go_simp; rfl)); intro b168 hg w14 hbox hb; have n0_ := aM (bB (by (with_reducible repeat first | apply bN | apply bD | apply bA); exact BK164.out) hb); have n1_ := aM (bB (by (with_reducible repeat first | apply bN | apply bD | apply bA); exact BK165.out) hb); have n2_ := aM (bB (by (with_reducible repeat first | apply bN | apply bD | apply bA); exact BK166.out) hb); have n3_ := aM (bB (by (with_reducible repeat first | apply bN | apply bD | apply bA); exact BK167.out) hb); have n4_ := aM (lT (by repeat (first | (with_reducible first | exact HB.out | apply lA | apply lN | apply lD | refine lS ?_ GE164.out | refine lS ?_ GE165.out | refine lS ?_ GE166.out | refine lS ?_ GE167.out) | exact HB.out)) hb); have n5_ := aM (hbox); have n6_ := aM ((by rw [hg]; exact (lZ (by repeat (first | (with_reducible first | exact HB.out | apply lA | apply lN | apply lD | refine lS ?_ GE164.out | refine lS ?_ GE165.out | refine lS ?_ GE166.out | refine lS ?_ GE167.out) | exact HB.out))) : w.heap.size ≤ b168)); have n7_ := aM ((by rw [hg]; exact (lZ (by repeat (first | (with_reducible first | exact HB.out | apply lA | apply lN | apply lD | refine lS ?_ GE164.out | refine lS ?_ GE165.out | refine lS ?_ GE166.out | refine lS ?_ GE167.out) | exact HB.out))) : w.heap.size ≤ b168)); have n8_ := aM ((by rw [hg]; exact Nat.ne_of_lt (bL (g := b164) (by (with_reducible repeat first | apply bN | apply bD | apply bA); exact BK164.out)) : b164 ≠ b168)); have n9_ := aM ((by rw [hg]; exact Nat.ne_of_gt (bL (g := b164) (by (with_reducible repeat first | apply bN | apply bD | apply bA); exact BK164.out)) : b168 ≠ b164)); have n10_ := aM ((by rw [hg]; exact Nat.ne_of_lt (bL (g := b165) (by (with_reducible repeat first | apply bN | apply bD | apply bA); exact BK165.out)) : b165 ≠ b168)); have n11_ := aM ((by rw [hg]; exact Nat.ne_of_gt (bL (g := b165) (by (with_reducible repeat first | apply bN | apply bD | apply bA); exact BK165.out)) : b168 ≠ b165)); have n12_ := aM ((by rw [hg]; exact Nat.ne_of_lt (bL (g := b166) (by (with_reducible repeat first | apply bN | apply bD | apply bA); exact BK166.out)) : b166 ≠ b168)); have n13_ := aM ((by rw [hg]; exact Nat.ne_of_gt (bL (g := b166) (by (with_reducible repeat first | apply bN | apply bD | apply bA); exact BK166.out)) : b168 ≠ b166)); have n14_ := aM ((by rw [hg]; exact Nat.ne_of_lt (bL (g := b167) (by (with_reducible repeat first | apply bN | apply bD | apply bA); exact BK167.out)) : b167 ≠ b168)); have n15_ := aM ((by rw [hg]; exact Nat.ne_of_gt (bL (g := b167) (by (with_reducible repeat first | apply bN | apply bD | apply bA); exact BK167.out)) : b168 ≠ b167)); clear BK164; clear BK165; clear BK166; clear BK167; clear HB; have BK164 := n0_; have BK165 := n1_; have BK166 := n2_; have BK167 := n3_; have HB := n4_; have BK168 := n5_; have GW168 := n6_; have GE168 := n7_; have N24_ := n8_; have N25_ := n9_; have N26_ := n10_; have N27_ := n11_; have N28_ := n12_; have N29_ := n13_; have N30_ := n14_; have N31_ := n15_; clear n0_ n1_ n2_ n3_ n4_ n5_ n6_ n7_ n8_ n9_ n10_ n11_ n12_ n13_ n14_ n15_; clear hb hbox hg))
  have n_ := kA5 BK164 BK165 BK166 BK167 BK168 HB (lD (lR _ _))
  clear BK164 BK165 BK166 BK167 BK168 HB
  obtain ⟨BK164, BK165, BK166, BK167, BK168, HB⟩ := n_
  refine start_ (n := 26) (S := fun w' => w'.cell? ⟨b164, 0, none⟩ = some (.int .i32 a0_0) ∧ w'.cell? ⟨b164, 1, none⟩ = some (.int .i32 a0_1) ∧ w'.cell? ⟨b166, 0, none⟩ = some (.int .i32 a2_0) ∧ w'.cell? ⟨b166, 1, none⟩ = some (.int .i32 a2_1) ∧ w'.cell? ⟨b167, 0, none⟩ = some (.int .i32 a3_0) ∧ w'.cell? ⟨b167, 1, none⟩ = some (.int .i32 a3_1) ∧ w'.cell? ⟨b165, 0, none⟩ = some (.int .i32 a1_0) ∧ w'.cell? ⟨b165, 1, none⟩ = some (.int .i32 a1_1)) (ds := []) #[F,F,F,F,F,F,F,F,F,F,F,F,F,F,F,F,F,F,F,F,F,F,F,F,F,F] (by kernel_rfl) rfl rfl ⟨(bC BK164.out 0).trans rfl, (bC BK164.out 1).trans rfl, (bC BK166.out 0).trans rfl, (bC BK166.out 1).trans rfl, (bC BK167.out 0).trans rfl, (bC BK167.out 1).trans rfl, (bC BK165.out 0).trans rfl, (bC BK165.out 1).trans rfl⟩ (fun hHeld => ?_); refine with_tabW billiardref13_Chosen.tab1 billiardref13_Chosen.bits1 (fun HT_ HW_ => ?_)
  generalize w14.drew = w15 at BK164 BK165 BK166 BK167 BK168 HB hHeld ⊢
  refine take_ (i := 0) (N := some 12) (v := ?_) (a' := ?_) #[T,F,F,F,F,F,F,F,F,F,F,F,F,F,F,F,F,F,F,F,F,F,F,F,F,F] rfl rfl (take_ofW HT_.out HW_.out (by kernel_rfl)) (fun _ _ _ h => h) (Or.inl ⟨by rfl, ?_⟩) hHeld ?_ ?_
  rotate_left
  ·rintro w' ⟨s0, s1, s2, s3, s4, s5, s6, s7⟩
   go_simp
   with_reducible rfl
  rotate_left
  ·simp only [Act.put, sA, sB, sC, i64_w, i32_w]
   rfl
  refine take_ (i := 1) (N := some 13) (v := ?_) (a' := ?_) #[T,T,F,F,F,F,F,F,F,F,F,F,F,F,F,F,F,F,F,F,F,F,F,F,F,F] rfl rfl (take_ofW HT_.out HW_.out (by kernel_rfl)) (fun _ _ _ h => h) (Or.inl ⟨by rfl, ?_⟩) hHeld ?_ ?_
  rotate_left
  ·rintro w' ⟨s0, s1, s2, s3, s4, s5, s6, s7⟩
   go_simp
   with_reducible rfl
  rotate_left
  ·simp only [Act.put, sA, sB, sC, i64_w, i32_w]
   rfl
  refine take_ (i := 2) (N := some 14) (v := ?_) (a' := ?_) #[T,T,T,F,F,F,F,F,F,F,F,F,F,F,F,F,F,F,F,F,F,F,F,F,F,F] rfl rfl (take_ofW HT_.out HW_.out (by kernel_rfl)) (fun _ _ _ h => h) (Or.inl ⟨by rfl, ?_⟩) hHeld ?_ ?_
  rotate_left
  ·rintro w' ⟨s0, s1, s2, s3, s4, s5, s6, s7⟩
   go_simp
   with_reducible rfl
  rotate_left
  ·simp only [Act.put, sA, sB, sC, i64_w, i32_w]
   rfl
  refine take_ (i := 3) (N := some 15) (v := ?_) (a' := ?_) #[T,T,T,T,F,F,F,F,F,F,F,F,F,F,F,F,F,F,F,F,F,F,F,F,F,F] rfl rfl (take_ofW HT_.out HW_.out (by kernel_rfl)) (fun _ _ _ h => h) (Or.inl ⟨by rfl, ?_⟩) hHeld ?_ ?_
  rotate_left
  ·rintro w' ⟨s0, s1, s2, s3, s4, s5, s6, s7⟩
   go_simp
   with_reducible rfl
  rotate_left
  ·simp only [Act.put, sA, sB, sC, i64_w, i32_w]
   rfl
  refine take_ (i := 6) (N := some 18) (v := ?_) (a' := ?_) #[T,T,T,T,F,F,T,F,F,F,F,F,F,F,F,F,F,F,F,F,F,F,F,F,F,F] rfl rfl (take_ofW HT_.out HW_.out (by kernel_rfl)) (fun _ _ _ h => h) (Or.inl ⟨by rfl, ?_⟩) hHeld ?_ ?_
  rotate_left
  ·rintro w' ⟨s0, s1, s2, s3, s4, s5, s6, s7⟩
   go_simp
   with_reducible rfl
  rotate_left
  ·simp only [Act.put, sA, sB, sC, i64_w, i32_w]
   rfl
  refine take_ (i := 7) (N := some 19) (v := ?_) (a' := ?_) #[T,T,T,T,F,F,T,T,F,F,F,F,F,F,F,F,F,F,F,F,F,F,F,F,F,F] rfl rfl (take_ofW HT_.out HW_.out (by kernel_rfl)) (fun _ _ _ h => h) (Or.inl ⟨by rfl, ?_⟩) hHeld ?_ ?_
  rotate_left
  ·rintro w' ⟨s0, s1, s2, s3, s4, s5, s6, s7⟩
   go_simp
   with_reducible rfl
  rotate_left
  ·simp only [Act.put, sA, sB, sC, i64_w, i32_w]
   rfl
  refine take_ (i := 8) (N := some 20) (v := ?_) (a' := ?_) #[T,T,T,T,F,F,T,T,T,F,F,F,F,F,F,F,F,F,F,F,F,F,F,F,F,F] rfl rfl (take_ofW HT_.out HW_.out (by kernel_rfl)) (fun _ _ _ h => h) (Or.inl ⟨by rfl, ?_⟩) hHeld ?_ ?_
  rotate_left
  ·rintro w' ⟨s0, s1, s2, s3, s4, s5, s6, s7⟩
   go_simp
   with_reducible rfl
  rotate_left
  ·simp only [Act.put, sA, sB, sC, i64_w, i32_w]
   rfl
  refine take_ (i := 9) (N := some 21) (v := ?_) (a' := ?_) #[T,T,T,T,F,F,T,T,T,T,F,F,F,F,F,F,F,F,F,F,F,F,F,F,F,F] rfl rfl (take_ofW HT_.out HW_.out (by kernel_rfl)) (fun _ _ _ h => h) (Or.inl ⟨by rfl, ?_⟩) hHeld ?_ ?_
  rotate_left
  ·rintro w' ⟨s0, s1, s2, s3, s4, s5, s6, s7⟩
   go_simp
   with_reducible rfl
  rotate_left
  ·simp only [Act.put, sA, sB, sC, i64_w, i32_w]
   rfl
  refine take_ (i := 12) (N := some 24) (v := ?_) (a' := ?_) #[T,T,T,T,F,F,T,T,T,T,F,F,T,F,F,F,F,F,F,F,F,F,F,F,F,F] rfl rfl (take_ofW HT_.out HW_.out (by kernel_rfl)) (fun _ _ _ h => h) (Or.inl ⟨by rfl, ?_⟩) hHeld ?_ ?_
  rotate_left
  ·rintro w' ⟨s0, s1, s2, s3, s4, s5, s6, s7⟩
   go_simp
   with_reducible rfl
  rotate_left
  ·simp only [Act.put, sA, sB, sC, i64_w, i32_w]
   rfl
  refine take_ (i := 13) (N := some 25) (v := ?_) (a' := ?_) #[T,T,T,T,F,F,T,T,T,T,F,F,T,T,F,F,F,F,F,F,F,F,F,F,F,F] rfl rfl (take_ofW HT_.out HW_.out (by kernel_rfl)) (fun _ _ _ h => h) (Or.inl ⟨by rfl, ?_⟩) hHeld ?_ ?_
  rotate_left
  ·rintro w' ⟨s0, s1, s2, s3, s4, s5, s6, s7⟩
   go_simp
   with_reducible rfl
  rotate_left
  ·simp only [Act.put, sA, sB, sC, i64_w, i32_w]
   rfl
  refine take_ (i := 14) (N := some 26) (v := ?_) (a' := ?_) #[T,T,T,T,F,F,T,T,T,T,F,F,T,T,T,F,F,F,F,F,F,F,F,F,F,F] rfl rfl (take_ofW HT_.out HW_.out (by kernel_rfl)) (fun _ _ _ h => h) (Or.inl ⟨by rfl, ?_⟩) hHeld ?_ ?_
  rotate_left
  ·rintro w' ⟨s0, s1, s2, s3, s4, s5, s6, s7⟩
   go_simp
   with_reducible rfl
  rotate_left
  ·simp only [Act.put, sA, sB, sC, i64_w, i32_w]
   rfl
  refine take_ (i := 16) (N := some 28) (v := ?_) (a' := ?_) #[T,T,T,T,F,F,T,T,T,T,F,F,T,T,T,F,T,F,F,F,F,F,F,F,F,F] rfl rfl (take_ofW HT_.out HW_.out (by kernel_rfl)) (fun _ _ _ h => h) (Or.inl ⟨by rfl, ?_⟩) hHeld ?_ ?_
  rotate_left
  ·rintro w' ⟨s0, s1, s2, s3, s4, s5, s6, s7⟩
   go_simp
   with_reducible rfl
  rotate_left
  ·simp only [Act.put, sA, sB, sC, i64_w, i32_w]
   rfl
  refine take_ (i := 18) (N := some 30) (v := ?_) (a' := ?_) #[T,T,T,T,F,F,T,T,T,T,F,F,T,T,T,F,T,F,T,F,F,F,F,F,F,F] rfl rfl (take_ofW HT_.out HW_.out (by kernel_rfl)) (fun _ _ _ h => h) (Or.inl ⟨by rfl, ?_⟩) hHeld ?_ ?_
  rotate_left
  ·rintro w' ⟨s0, s1, s2, s3, s4, s5, s6, s7⟩
   go_simp
   with_reducible rfl
  rotate_left
  ·simp only [Act.put, sA, sB, sC, i64_w, i32_w]
   rfl
  refine take_ (i := 19) (N := some 31) (v := ?_) (a' := ?_) #[T,T,T,T,F,F,T,T,T,T,F,F,T,T,T,F,T,F,T,T,F,F,F,F,F,F] rfl rfl (take_ofW HT_.out HW_.out (by kernel_rfl)) (fun _ _ _ h => h) (Or.inl ⟨by rfl, ?_⟩) hHeld ?_ ?_
  rotate_left
  ·rintro w' ⟨s0, s1, s2, s3, s4, s5, s6, s7⟩
   go_simp
   with_reducible rfl
  rotate_left
  ·simp only [Act.put, sA, sB, sC, i64_w, i32_w]
   rfl
  refine take_ (i := 20) (N := some 32) (v := ?_) (a' := ?_) #[T,T,T,T,F,F,T,T,T,T,F,F,T,T,T,F,T,F,T,T,T,F,F,F,F,F] rfl rfl (take_ofW HT_.out HW_.out (by kernel_rfl)) (fun _ _ _ h => h) (Or.inl ⟨by rfl, ?_⟩) hHeld ?_ ?_
  rotate_left
  ·rintro w' ⟨s0, s1, s2, s3, s4, s5, s6, s7⟩
   go_simp
   with_reducible rfl
  rotate_left
  ·simp only [Act.put, sA, sB, sC, i64_w, i32_w]
   rfl
  refine take_ (i := 22) (N := some 34) (v := ?_) (a' := ?_) #[T,T,T,T,F,F,T,T,T,T,F,F,T,T,T,F,T,F,T,T,T,F,T,F,F,F] rfl rfl (take_ofW HT_.out HW_.out (by kernel_rfl)) (fun _ _ _ h => h) (Or.inl ⟨by rfl, ?_⟩) hHeld ?_ ?_
  rotate_left
  ·rintro w' ⟨s0, s1, s2, s3, s4, s5, s6, s7⟩
   go_simp
   with_reducible rfl
  rotate_left
  ·simp only [Act.put, sA, sB, sC, i64_w, i32_w]
   rfl
  refine one_ (i := 4) (N := some 16) #[T,T,T,T,T,F,T,T,T,T,F,F,T,T,T,F,T,F,T,T,T,F,T,F,F,F] rfl rfl (one_of HT_.out (by kernel_rfl)) (by decide) (fun K hK => ?_)
  refine goes_ Try.func18 (by kernel_rfl) rfl #[.agg #[.int .i32 a2_0, .int .i32 a2_1], .agg #[.int .i32 a3_0, .int .i32 a3_1], .agg #[.int .i32 a0_0, .int .i32 a0_1]] (by rfl) rfl rfl (by (try simp only [List.map_toArray, List.map_cons, List.map_nil]); first | done | rfl | (simp only [List.length_drop, List.length_take]; rfl)) ?_
  with_reducible refine (billiardref12_Nearest.calls a2_0 a2_1 a3_0 a3_1 a0_0 a0_1 t169 t170 _ A5.out).mono ?_
  rintro e w16 ⟨rfl, hb⟩
  refine ⟨_, rfl, ?_⟩
  have n_ := kB5 BK164 BK165 BK166 BK167 BK168 HB (by repeat first | exact lR _ _ | apply lN | apply lD | apply lA) hb
  clear BK164 BK165 BK166 BK167 BK168 HB
  obtain ⟨BK164, BK165, BK166, BK167, BK168, HB⟩ := n_
  (try clear hb)
  (try clear hb2)
  (try clear hk)
  (try clear hi)
  refine hK.out _ _ ⟨(bC BK164.out 0).trans rfl, (bC BK164.out 1).trans rfl, (bC BK166.out 0).trans rfl, (bC BK166.out 1).trans rfl, (bC BK167.out 0).trans rfl, (bC BK167.out 1).trans rfl, (bC BK165.out 0).trans rfl, (bC BK165.out 1).trans rfl⟩ (fun hHeld => ?_)
  clear hK K
  refine norm_ (a' := ?_) ?_ ?_
  rotate_left
  ·show Act.put _ (some 16) _ = _
   simp only [Act.put, sA, sB, sC, i64_w, i32_w]
   rfl
  refine pure_ (i := 5) (N := some 17) (v := ?_) (a' := ?_) #[T,T,T,T,T,T,T,T,T,T,F,F,T,T,T,F,T,F,T,T,T,F,T,F,F,F] rfl rfl (any_of HT_.out (by kernel_rfl)) (fun _ _ _ h => h) (Or.inl ⟨by rfl, ?_⟩) ?_ ?_
  rotate_left
  ·intro w'
   go_simp
   with_reducible rfl
  rotate_left
  ·simp only [Act.put, sA, sB, sC, i64_w, i32_w]
   rfl
  refine one_ (i := 10) (N := some 22) #[T,T,T,T,T,T,T,T,T,T,T,F,T,T,T,F,T,F,T,T,T,F,T,F,F,F] rfl rfl (one_of HT_.out (by kernel_rfl)) (by decide) (fun K hK => ?_)
  refine goes_ Try.func18 (by kernel_rfl) rfl #[.agg #[.int .i32 a2_0, .int .i32 a2_1], .agg #[.int .i32 a3_0, .int .i32 a3_1], .agg #[.int .i32 a1_0, .int .i32 a1_1]] (by rfl) rfl rfl (by (try simp only [List.map_toArray, List.map_cons, List.map_nil]); first | done | rfl | (simp only [List.length_drop, List.length_take]; rfl)) ?_
  with_reducible refine (billiardref12_Nearest.calls a2_0 a2_1 a3_0 a3_1 a1_0 a1_1 t171 t172 _ A6.out).mono ?_
  rintro e w17 ⟨rfl, hb⟩
  refine ⟨_, rfl, ?_⟩
  have n_ := kB5 BK164 BK165 BK166 BK167 BK168 HB (by repeat first | exact lR _ _ | apply lN | apply lD | apply lA) hb
  clear BK164 BK165 BK166 BK167 BK168 HB
  obtain ⟨BK164, BK165, BK166, BK167, BK168, HB⟩ := n_
  (try clear hb)
  (try clear hb2)
  (try clear hk)
  (try clear hi)
  refine hK.out _ _ ⟨(bC BK164.out 0).trans rfl, (bC BK164.out 1).trans rfl, (bC BK166.out 0).trans rfl, (bC BK166.out 1).trans rfl, (bC BK167.out 0).trans rfl, (bC BK167.out 1).trans rfl, (bC BK165.out 0).trans rfl, (bC BK165.out 1).trans rfl⟩ (fun hHeld => ?_)
  clear hK K
  refine norm_ (a' := ?_) ?_ ?_
  rotate_left
  ·show Act.put _ (some 22) _ = _
   simp only [Act.put, sA, sB, sC, i64_w, i32_w]
   rfl
  refine pure_ (i := 11) (N := some 23) (v := ?_) (a' := ?_) #[T,T,T,T,T,T,T,T,T,T,T,T,T,T,T,F,T,F,T,T,T,F,T,F,F,F] rfl rfl (any_of HT_.out (by kernel_rfl)) (fun _ _ _ h => h) (Or.inl ⟨by rfl, ?_⟩) ?_ ?_
  rotate_left
  ·intro w'
   go_simp
   with_reducible rfl
  rotate_left
  ·simp only [Act.put, sA, sB, sC, i64_w, i32_w]
   rfl
  refine one_ (i := 15) (N := some 27) #[T,T,T,T,T,T,T,T,T,T,T,T,T,T,T,T,T,F,T,T,T,F,T,F,F,F] rfl rfl (one_of HT_.out (by kernel_rfl)) (by decide) (fun K hK => ?_)
  refine goes_ Try.func18 (by kernel_rfl) rfl #[.agg #[.int .i32 a0_0, .int .i32 a0_1], .agg #[.int .i32 a1_0, .int .i32 a1_1], .agg #[.int .i32 a2_0, .int .i32 a2_1]] (by rfl) rfl rfl (by (try simp only [List.map_toArray, List.map_cons, List.map_nil]); first | done | rfl | (simp only [List.length_drop, List.length_take]; rfl)) ?_
  with_reducible refine (billiardref12_Nearest.calls a0_0 a0_1 a1_0 a1_1 a2_0 a2_1 t173 t174 _ A7.out).mono ?_
  rintro e w18 ⟨rfl, hb⟩
  refine ⟨_, rfl, ?_⟩
  have n_ := kB5 BK164 BK165 BK166 BK167 BK168 HB (by repeat first | exact lR _ _ | apply lN | apply lD | apply lA) hb
  clear BK164 BK165 BK166 BK167 BK168 HB
  obtain ⟨BK164, BK165, BK166, BK167, BK168, HB⟩ := n_
  (try clear hb)
  (try clear hb2)
  (try clear hk)
  (try clear hi)
  refine hK.out _ _ ⟨(bC BK164.out 0).trans rfl, (bC BK164.out 1).trans rfl, (bC BK166.out 0).trans rfl, (bC BK166.out 1).trans rfl, (bC BK167.out 0).trans rfl, (bC BK167.out 1).trans rfl, (bC BK165.out 0).trans rfl, (bC BK165.out 1).trans rfl⟩ (fun hHeld => ?_)
  clear hK K
  refine norm_ (a' := ?_) ?_ ?_
  rotate_left
  ·show Act.put _ (some 27) _ = _
   simp only [Act.put, sA, sB, sC, i64_w, i32_w]
   rfl
  refine pure_ (i := 17) (N := some 29) (v := ?_) (a' := ?_) #[T,T,T,T,T,T,T,T,T,T,T,T,T,T,T,T,T,T,T,T,T,F,T,F,F,F] rfl rfl (any_of HT_.out (by kernel_rfl)) (fun _ _ _ h => h) (Or.inl ⟨by rfl, ?_⟩) ?_ ?_
  rotate_left
  ·intro w'
   go_simp
   with_reducible rfl
  rotate_left
  ·simp only [Act.put, sA, sB, sC, i64_w, i32_w]
   rfl
  refine one_ (i := 21) (N := some 33) #[T,T,T,T,T,T,T,T,T,T,T,T,T,T,T,T,T,T,T,T,T,T,T,F,F,F] rfl rfl (one_of HT_.out (by kernel_rfl)) (by decide) (fun K hK => ?_)
  refine goes_ Try.func18 (by kernel_rfl) rfl #[.agg #[.int .i32 a0_0, .int .i32 a0_1], .agg #[.int .i32 a1_0, .int .i32 a1_1], .agg #[.int .i32 a3_0, .int .i32 a3_1]] (by rfl) rfl rfl (by (try simp only [List.map_toArray, List.map_cons, List.map_nil]); first | done | rfl | (simp only [List.length_drop, List.length_take]; rfl)) ?_
  with_reducible refine (billiardref12_Nearest.calls a0_0 a0_1 a1_0 a1_1 a3_0 a3_1 t175 t176 _ A8.out).mono ?_
  rintro e w19 ⟨rfl, hb⟩
  refine ⟨_, rfl, ?_⟩
  have n_ := kB5 BK164 BK165 BK166 BK167 BK168 HB (by repeat first | exact lR _ _ | apply lN | apply lD | apply lA) hb
  clear BK164 BK165 BK166 BK167 BK168 HB
  obtain ⟨BK164, BK165, BK166, BK167, BK168, HB⟩ := n_
  (try clear hb)
  (try clear hb2)
  (try clear hk)
  (try clear hi)
  refine hK.out _ _ ⟨(bC BK164.out 0).trans rfl, (bC BK164.out 1).trans rfl, (bC BK166.out 0).trans rfl, (bC BK166.out 1).trans rfl, (bC BK167.out 0).trans rfl, (bC BK167.out 1).trans rfl, (bC BK165.out 0).trans rfl, (bC BK165.out 1).trans rfl⟩ (fun hHeld => ?_)
  clear hK K
  refine norm_ (a' := ?_) ?_ ?_
  rotate_left
  ·show Act.put _ (some 33) _ = _
   simp only [Act.put, sA, sB, sC, i64_w, i32_w]
   rfl
  refine pure_ (i := 23) (N := some 35) (v := ?_) (a' := ?_) #[T,T,T,T,T,T,T,T,T,T,T,T,T,T,T,T,T,T,T,T,T,T,T,T,F,F] rfl rfl (any_of HT_.out (by kernel_rfl)) (fun _ _ _ h => h) (Or.inl ⟨by rfl, ?_⟩) ?_ ?_
  rotate_left
  ·intro w'
   go_simp
   with_reducible rfl
  rotate_left
  ·simp only [Act.put, sA, sB, sC, i64_w, i32_w]
   rfl
  refine one_ (i := 24) (N := some 36) #[T,T,T,T,T,T,T,T,T,T,T,T,T,T,T,T,T,T,T,T,T,T,T,T,T,F] rfl rfl (one_of HT_.out (by kernel_rfl)) (by decide) (fun K hK => ?_)
  refine Kd.R_lit_step k29 _ 29 ?hg (N := 36) ?hd (xs := ([(⟨(⟨a0_0, a0_1⟩ : S23), (⟨t169, t170⟩ : S23)⟩ : S29), (⟨(⟨a1_0, a1_1⟩ : S23), (⟨t171, t172⟩ : S23)⟩ : S29), (⟨(⟨t173, t174⟩ : S23), (⟨a2_0, a2_1⟩ : S23)⟩ : S29), (⟨(⟨t175, t176⟩ : S23), (⟨a3_0, a3_1⟩ : S23)⟩ : S29)] : List (S29))) (inner := [.int .i32 a0_0, .int .i32 a0_1, .int .i32 t169, .int .i32 t170, .int .i32 a1_0, .int .i32 a1_1, .int .i32 t171, .int .i32 t172, .int .i32 t173, .int .i32 t174, .int .i32 a2_0, .int .i32 a2_1, .int .i32 t175, .int .i32 t176, .int .i32 a3_0, .int .i32 a3_1]) (ok := fun _ => True) (okp := fun _ => True) ?hr ?hp (fun _ hk => hk) trivial (Below.refl _ _) (Nat.le_refl _) (by simp) ?_; (case hd => rfl); (case hg => rfl); (case hr => first | (go_simp; done) | (go_simp; rfl)); (case hp => exact (Reps.c4 (show Kd.M k29 _ _ _ (⟨(⟨a0_0, a0_1⟩ : S23), (⟨t169, t170⟩ : S23)⟩ : S29) [.int .i32 a0_0, .int .i32 a0_1, .int .i32 t169, .int .i32 t170] from (k29_mkM _ _ _ (⟨(⟨a0_0, a0_1⟩ : S23), (⟨t169, t170⟩ : S23)⟩ : S29) )) (Reps.c4 (show Kd.M k29 _ _ _ (⟨(⟨a1_0, a1_1⟩ : S23), (⟨t171, t172⟩ : S23)⟩ : S29) [.int .i32 a1_0, .int .i32 a1_1, .int .i32 t171, .int .i32 t172] from (k29_mkM _ _ _ (⟨(⟨a1_0, a1_1⟩ : S23), (⟨t171, t172⟩ : S23)⟩ : S29) )) (Reps.c4 (show Kd.M k29 _ _ _ (⟨(⟨t173, t174⟩ : S23), (⟨a2_0, a2_1⟩ : S23)⟩ : S29) [.int .i32 t173, .int .i32 t174, .int .i32 a2_0, .int .i32 a2_1] from (k29_mkM _ _ _ (⟨(⟨t173, t174⟩ : S23), (⟨a2_0, a2_1⟩ : S23)⟩ : S29) )) (Reps.c4 (show Kd.M k29 _ _ _ (⟨(⟨t175, t176⟩ : S23), (⟨a3_0, a3_1⟩ : S23)⟩ : S29) [.int .i32 t175, .int .i32 t176, .int .i32 a3_0, .int .i32 a3_1] from (k29_mkM _ _ _ (⟨(⟨t175, t176⟩ : S23), (⟨a3_0, a3_1⟩ : S23)⟩ : S29) )) (Reps.none _ _))))))
  intro v178 w20 ho21 hb hg_ hnew_
  clear hg_ hnew_
  (first | rw [← Ny177.out] at ho21 | (simp only [Int.reduceToNat] at ho21; rw [← Ny177.out] at ho21))
  have n0_ := aM (Kd.R_lower (Kd.R_newB ho21 (g := b168) (o := .cells #[.int .i32 0, .int .i32 0, .int .i32 0, .int .i32 0] 29 (0, 0)) (by (with_reducible repeat first | apply bN | apply bD | apply bA); exact BK168.out)) (lZ (by repeat (first | (with_reducible first | exact HB.out | apply lA | apply lN | apply lD | refine lS ?_ GE164.out | refine lS ?_ GE165.out | refine lS ?_ GE166.out | refine lS ?_ GE167.out | refine lS ?_ GE168.out) | exact HB.out))))
  have n1_ := aM (bB (by (with_reducible repeat first | apply bN | apply bD | apply bA); exact BK164.out) hb)
  have n2_ := aM (bB (by (with_reducible repeat first | apply bN | apply bD | apply bA); exact BK165.out) hb)
  have n3_ := aM (bB (by (with_reducible repeat first | apply bN | apply bD | apply bA); exact BK166.out) hb)
  have n4_ := aM (bB (by (with_reducible repeat first | apply bN | apply bD | apply bA); exact BK167.out) hb)
  have n5_ := aM (bB (by (with_reducible repeat first | apply bN | apply bD | apply bA); exact BK168.out) hb)
  have n6_ := aM (lT (by repeat (first | (with_reducible first | exact HB.out | apply lA | apply lN | apply lD | refine lS ?_ GE164.out | refine lS ?_ GE165.out | refine lS ?_ GE166.out | refine lS ?_ GE167.out | refine lS ?_ GE168.out) | exact HB.out)) hb)
  clear BK164
  clear BK165
  clear BK166
  clear BK167
  clear BK168
  clear HB
  have HO179 := n0_
  have BK164 := n1_
  have BK165 := n2_
  have BK166 := n3_
  have BK167 := n4_
  have BK168 := n5_
  have HB := n6_
  clear n0_ n1_ n2_ n3_ n4_ n5_ n6_
  clear hb ho21
  refine hK.out _ _ ⟨(bC BK164.out 0).trans rfl, (bC BK164.out 1).trans rfl, (bC BK166.out 0).trans rfl, (bC BK166.out 1).trans rfl, (bC BK167.out 0).trans rfl, (bC BK167.out 1).trans rfl, (bC BK165.out 0).trans rfl, (bC BK165.out 1).trans rfl⟩ (fun hHeld => ?_)
  clear hK K
  refine norm_ (a' := ?_) ?_ ?_
  rotate_left
  ·show Act.put _ (some 36) _ = _
   simp only [Act.put, sA, sB, sC, i64_w, i32_w]
   rfl
  refine pure_ (i := 25) (N := some 9) (v := ?_) (a' := ?_) #[T,T,T,T,T,T,T,T,T,T,T,T,T,T,T,T,T,T,T,T,T,T,T,T,T,T] rfl rfl (any_of HT_.out (by kernel_rfl)) (fun _ _ _ h => h) (Or.inl ⟨by rfl, ?_⟩) ?_ ?_
  rotate_left
  ·intro w'
   go_simp
   with_reducible rfl
  rotate_left
  ·simp only [Act.put, sA, sB, sC, i64_w, i32_w]
   rfl
  refine done_ (done_of HT_.out (by kernel_rfl)) ?_
  obtain ⟨Ao22, co22, eo22⟩ := Kd.R_slice HO179.out
  subst eo22
  have p180 : 0 ≤ (0 : Int) := (by omega)
  have q180 : 0 < (y177.length : Int) := of_decide_eq_true (by first | (with_reducible assumption) | assumption)
  obtain ⟨ad180, e180, hx180_0, hx180_1, hx180_2, hx180_3⟩ := at_T29 (Kd.R_reads' HO179.out).2.2 0 p180 q180
  cases e180
  have qi180 : (0 < y177.length) = True := eq_true (by omega)
  (try rw [show ((0 : Int)).toNat = 0 from rfl] at hx180_0)
  (try rw [show 0 * 4 = 0 from rfl] at hx180_0)
  (try rw [Addr.add_zero'] at hx180_0)
  (try rw [show ((0 : Int)).toNat = 0 from rfl] at hx180_1)
  (try rw [show 0 * 4 = 0 from rfl] at hx180_1)
  (try rw [Addr.add_zero'] at hx180_1)
  (try rw [show ((0 : Int)).toNat = 0 from rfl] at hx180_2)
  (try rw [show 0 * 4 = 0 from rfl] at hx180_2)
  (try rw [Addr.add_zero'] at hx180_2)
  (try rw [show ((0 : Int)).toNat = 0 from rfl] at hx180_3)
  (try rw [show 0 * 4 = 0 from rfl] at hx180_3)
  (try rw [Addr.add_zero'] at hx180_3)
  replace p180 := eq_true p180
  replace q180 := eq_true q180
  try go_wp2_with (first | ((with_reducible refine gate_dst (N := 10) rfl ?_); refine box_event ?hg (N := 10) ?hd (cs := #[.int .i32 0, .int .i32 0, .int .i32 0, .int .i32 0]) (t := 29) ?hr ?_; (case hd => rfl); (case hg => rfl); (case hr => first | (go_simp; done) | (go_simp; rfl)); intro b181 hg w23 hbox hb; have n0_ := aM (Kd.R_below (Kd.R_elderB (by (with_reducible repeat (first | apply Kd.R_alloc | apply Kd.R_drewN | apply Kd.R_drew)); exact HO179.out) b181 (Nat.le_of_eq hg.symm)) hb); have n1_ := aM (bB (by (with_reducible repeat first | apply bN | apply bD | apply bA); exact BK164.out) hb); have n2_ := aM (bB (by (with_reducible repeat first | apply bN | apply bD | apply bA); exact BK165.out) hb); have n3_ := aM (bB (by (with_reducible repeat first | apply bN | apply bD | apply bA); exact BK166.out) hb); have n4_ := aM (bB (by (with_reducible repeat first | apply bN | apply bD | apply bA); exact BK167.out) hb); have n5_ := aM (bB (by (with_reducible repeat first | apply bN | apply bD | apply bA); exact BK168.out) hb); have n6_ := aM (lT (by repeat (first | (with_reducible first | exact HB.out | apply lA | apply lN | apply lD | refine lS ?_ GE164.out | refine lS ?_ GE165.out | refine lS ?_ GE166.out | refine lS ?_ GE167.out | refine lS ?_ GE168.out) | exact HB.out)) hb); have n7_ := aM (hbox); have n8_ := aM ((by rw [hg]; exact (lZ (by repeat (first | (with_reducible first | exact HB.out | apply lA | apply lN | apply lD | refine lS ?_ GE164.out | refine lS ?_ GE165.out | refine lS ?_ GE166.out | refine lS ?_ GE167.out | refine lS ?_ GE168.out) | exact HB.out))) : w.heap.size ≤ b181)); have n9_ := aM ((by rw [hg]; exact (lZ (by repeat (first | (with_reducible first | exact HB.out | apply lA | apply lN | apply lD | refine lS ?_ GE164.out | refine lS ?_ GE165.out | refine lS ?_ GE166.out | refine lS ?_ GE167.out | refine lS ?_ GE168.out) | exact HB.out))) : w.heap.size ≤ b181)); have n10_ := aM ((by rw [hg]; exact Nat.ne_of_lt (bL (g := b164) (by (with_reducible repeat first | apply bN | apply bD | apply bA); exact BK164.out)) : b164 ≠ b181)); have n11_ := aM ((by rw [hg]; exact Nat.ne_of_gt (bL (g := b164) (by (with_reducible repeat first | apply bN | apply bD | apply bA); exact BK164.out)) : b181 ≠ b164)); have n12_ := aM ((by rw [hg]; exact Nat.ne_of_lt (bL (g := b165) (by (with_reducible repeat first | apply bN | apply bD | apply bA); exact BK165.out)) : b165 ≠ b181)); have n13_ := aM ((by rw [hg]; exact Nat.ne_of_gt (bL (g := b165) (by (with_reducible repeat first | apply bN | apply bD | apply bA); exact BK165.out)) : b181 ≠ b165)); have n14_ := aM ((by rw [hg]; exact Nat.ne_of_lt (bL (g := b166) (by (with_reducible repeat first | apply bN | apply bD | apply bA); exact BK166.out)) : b166 ≠ b181)); have n15_ := aM ((by rw [hg]; exact Nat.ne_of_gt (bL (g := b166) (by (with_reducible repeat first | apply bN | apply bD | apply bA); exact BK166.out)) : b181 ≠ b166)); have n16_ := aM ((by rw [hg]; exact Nat.ne_of_lt (bL (g := b167) (by (with_reducible repeat first | apply bN | apply bD | apply bA); exact BK167.out)) : b167 ≠ b181)); have n17_ := aM ((by rw [hg]; exact Nat.ne_of_gt (bL (g := b167) (by (with_reducible repeat first | apply bN | apply bD | apply bA); exact BK167.out)) : b181 ≠ b167)); have n18_ := aM ((by rw [hg]; exact Nat.ne_of_lt (bL (g := b168) (by (with_reducible repeat first | apply bN | apply bD | apply bA); exact BK168.out)) : b168 ≠ b181)); have n19_ := aM ((by rw [hg]; exact Nat.ne_of_gt (bL (g := b168) (by (with_reducible repeat first | apply bN | apply bD | apply bA); exact BK168.out)) : b181 ≠ b168)); clear HO179; clear BK164; clear BK165; clear BK166; clear BK167; clear BK168; clear HB; have HO179 := n0_; have BK164 := n1_; have BK165 := n2_; have BK166 := n3_; have BK167 := n4_; have BK168 := n5_; have HB := n6_; have BK181 := n7_; have GW181 := n8_; have GE181 := n9_; have N32_ := n10_; have N33_ := n11_; have N34_ := n12_; have N35_ := n13_; have N36_ := n14_; have N37_ := n15_; have N38_ := n16_; have N39_ := n17_; have N40_ := n18_; have N41_ := n19_; clear n0_ n1_ n2_ n3_ n4_ n5_ n6_ n7_ n8_ n9_ n10_ n11_ n12_ n13_ n14_ n15_ n16_ n17_ n18_ n19_; clear hb hbox hg; have hnb24 := N33_.out; have hnc24 := N32_.out; have hnb25 := N35_.out; have hnc25 := N34_.out; have hnb26 := N37_.out; have hnc26 := N36_.out; have hnb27 := N39_.out; have hnc27 := N38_.out; have hnb28 := N41_.out; have hnc28 := N40_.out; have hcz29_0 : w23.cell? ⟨b181, 0, none⟩ = some (.int .i32 0) := (bC BK181.out 0).trans rfl; have hcz29_1 : w23.cell? ⟨b181, 1, none⟩ = some (.int .i32 0) := (bC BK181.out 1).trans rfl; have hcz29_2 : w23.cell? ⟨b181, 2, none⟩ = some (.int .i32 0) := (bC BK181.out 2).trans rfl; have hcz29_3 : w23.cell? ⟨b181, 3, none⟩ = some (.int .i32 0) := (bC BK181.out 3).trans rfl; have hfz29_0 := bF BK181.out 0; have hfz29_1 := bF BK181.out 1; have hfz29_2 := bF BK181.out 2; have hfz29_3 := bF BK181.out 3))
  go_loopg [11] k (fun kq v11 w' => ∃ (x11_1 : Int) (x182000_1 : Int) (x182001_1 : Int) (x182002_1 : Int) (x182003_1 : Int), v11 = .int .i64 x11_1 ∧ Aside0 (billiardref13_Chosen.l0 kq y177 x11_1 x182000_1 x182001_1 x182002_1 x182003_1 = some (r1, r2, r3, r4)) ∧ Aside0 (kq ≤ k) ∧ Aside0 (Kd.R k29 29 w' w.heap.size (fun k_ => k_ ≠ b168 ∧ k_ ≠ b181) (.slice (some ad180) y177.length co22) y177) ∧ Aside0 (w'.heap[b164]? = some (.cells #[.int .i32 a0_0, .int .i32 a0_1] 23 (0, 0))) ∧ Aside0 (w'.heap[b165]? = some (.cells #[.int .i32 a1_0, .int .i32 a1_1] 23 (0, 0))) ∧ Aside0 (w'.heap[b166]? = some (.cells #[.int .i32 a2_0, .int .i32 a2_1] 23 (0, 0))) ∧ Aside0 (w'.heap[b167]? = some (.cells #[.int .i32 a3_0, .int .i32 a3_1] 23 (0, 0))) ∧ Aside0 (w'.heap[b168]? = some (.cells #[.int .i32 0, .int .i32 0, .int .i32 0, .int .i32 0] 29 (0, 0))) ∧ Aside0 (w'.heap[b181]? = some (.cells #[.int .i32 x182000_1, .int .i32 x182001_1, .int .i32 x182002_1, .int .i32 x182003_1] 29 (0, 0))) ∧ Aside0 (Below w.heap.size w w'))
  case atStart => exact ⟨(1), ((rd_T29 y177 0).f0.f0), ((rd_T29 y177 0).f0.f1), ((rd_T29 y177 0).f1.f0), ((rd_T29 y177 0).f1.f1), (by first | rfl | (simp; done) | (simp [*]; done)), H', ⟨Nat.le_refl _⟩, ⟨by (with_reducible repeat (first | apply Kd.R_alloc | apply Kd.R_drewN | apply Kd.R_drew)); exact Kd.R_mono (Kd.R_far (p := ⟨b181, 3, none⟩) (Kd.R_far (p := ⟨b181, 2, none⟩) (Kd.R_far (p := ⟨b181, 1, none⟩) (Kd.R_far (p := ⟨b181, 0, none⟩) (Kd.R_mono HO179.out (fun k_ hk => (⟨hk, hk.2⟩ : _ ∧ k_ ≠ b181))) (fun _ hk => hk.2) (.int .i32 ((rd_T29 y177 0).f0.f0))) (fun _ hk => hk.2) (.int .i32 ((rd_T29 y177 0).f0.f1))) (fun _ hk => hk.2) (.int .i32 ((rd_T29 y177 0).f1.f0))) (fun _ hk => hk.2) (.int .i32 ((rd_T29 y177 0).f1.f1))) (fun _ hk => ⟨hk.1.1.2, hk.1.2⟩)⟩, ⟨by (with_reducible repeat first | apply bN | apply bD | apply bA); refine bR ?_ N32_.out _; (with_reducible repeat first | apply bN | apply bD | apply bA); refine bR ?_ N32_.out _; (with_reducible repeat first | apply bN | apply bD | apply bA); refine bR ?_ N32_.out _; (with_reducible repeat first | apply bN | apply bD | apply bA); refine bR ?_ N32_.out _; (with_reducible repeat first | apply bN | apply bD | apply bA); exact BK164.out⟩, ⟨by (with_reducible repeat first | apply bN | apply bD | apply bA); refine bR ?_ N34_.out _; (with_reducible repeat first | apply bN | apply bD | apply bA); refine bR ?_ N34_.out _; (with_reducible repeat first | apply bN | apply bD | apply bA); refine bR ?_ N34_.out _; (with_reducible repeat first | apply bN | apply bD | apply bA); refine bR ?_ N34_.out _; (with_reducible repeat first | apply bN | apply bD | apply bA); exact BK165.out⟩, ⟨by (with_reducible repeat first | apply bN | apply bD | apply bA); refine bR ?_ N36_.out _; (with_reducible repeat first | apply bN | apply bD | apply bA); refine bR ?_ N36_.out _; (with_reducible repeat first | apply bN | apply bD | apply bA); refine bR ?_ N36_.out _; (with_reducible repeat first | apply bN | apply bD | apply bA); refine bR ?_ N36_.out _; (with_reducible repeat first | apply bN | apply bD | apply bA); exact BK166.out⟩, ⟨by (with_reducible repeat first | apply bN | apply bD | apply bA); refine bR ?_ N38_.out _; (with_reducible repeat first | apply bN | apply bD | apply bA); refine bR ?_ N38_.out _; (with_reducible repeat first | apply bN | apply bD | apply bA); refine bR ?_ N38_.out _; (with_reducible repeat first | apply bN | apply bD | apply bA); refine bR ?_ N38_.out _; (with_reducible repeat first | apply bN | apply bD | apply bA); exact BK167.out⟩, ⟨by (with_reducible repeat first | apply bN | apply bD | apply bA); refine bR ?_ N40_.out _; (with_reducible repeat first | apply bN | apply bD | apply bA); refine bR ?_ N40_.out _; (with_reducible repeat first | apply bN | apply bD | apply bA); refine bR ?_ N40_.out _; (with_reducible repeat first | apply bN | apply bD | apply bA); refine bR ?_ N40_.out _; (with_reducible repeat first | apply bN | apply bD | apply bA); exact BK168.out⟩, ⟨by (with_reducible repeat first | apply bN | apply bD | apply bA); refine bP (cs := #[.int .i32 ((rd_T29 y177 0).f0.f0), .int .i32 ((rd_T29 y177 0).f0.f1), .int .i32 ((rd_T29 y177 0).f1.f0), .int .i32 0]) ?_ 3 _ rfl; (with_reducible repeat first | apply bN | apply bD | apply bA); refine bP (cs := #[.int .i32 ((rd_T29 y177 0).f0.f0), .int .i32 ((rd_T29 y177 0).f0.f1), .int .i32 0, .int .i32 0]) ?_ 2 _ rfl; (with_reducible repeat first | apply bN | apply bD | apply bA); refine bP (cs := #[.int .i32 ((rd_T29 y177 0).f0.f0), .int .i32 0, .int .i32 0, .int .i32 0]) ?_ 1 _ rfl; (with_reducible repeat first | apply bN | apply bD | apply bA); refine bP (cs := #[.int .i32 0, .int .i32 0, .int .i32 0, .int .i32 0]) ?_ 0 _ rfl; (with_reducible repeat first | apply bN | apply bD | apply bA); exact BK181.out⟩, ⟨by repeat (first | (with_reducible first | exact HB.out | apply lA | apply lN | apply lD | refine lS ?_ GE164.out | refine lS ?_ GE165.out | refine lS ?_ GE166.out | refine lS ?_ GE167.out | refine lS ?_ GE168.out | refine lS ?_ GE181.out) | exact HB.out)⟩⟩
  case round =>
   clear H'
   try clear c1
   try clear p1
   try clear q1
   try clear hx1
   try clear qi1
   try clear c2
   try clear p2
   try clear c4
   try clear c9
   try clear c9b0
   try clear c9b1
   try clear c11
   try clear c18
   try clear p18
   try clear q18
   try clear hx18
   try clear qi18
   try clear c24
   try clear c25
   try clear c26
   try clear c27
   try clear c28
   try clear hcz29_0
   try clear hcz29_1
   try clear hcz29_2
   try clear hcz29_3
   try clear hfz29_0
   try clear hfz29_1
   try clear hfz29_2
   try clear hfz29_3
   try clear hx180_0
   try clear hx180_1
   try clear hx180_2
   try clear hx180_3
   try clear p180
   try clear q180
   obtain ⟨x11_1, x182000_1, x182001_1, x182002_1, x182003_1, rfl, HA, HK1, HO_9, BK164, BK165, BK166, BK167, BK168, BK181, HB⟩ := hrel
   cases gk with
   | zero => exact absurd HA.out (by simp [billiardref13_Chosen.l0])
   | succ k1 =>
    have H := HA.out
    clear HA
    simp only [billiardref13_Chosen.l0] at H
    by_cases c30 : x11_1 < (y177.length : Int)
    ·rw [if_pos c30] at H
     have c30b0 : decide (x11_1 < (y177.length : Int)) = true := decide_eq_true c30
     clear c30
     by_cases c31 : 0 ≤ x11_1
     ·rw [if_pos c31] at H
      have c31b0 : decide (0 ≤ x11_1) = true := decide_eq_true c31
      clear c31
      replace H := Option.bind_eq_some_iff.mp H
      obtain ⟨t183, A320, H⟩ := H
      try dsimp only at H
      have A32 := aM A320
      clear A320
      replace H := Option.bind_eq_some_iff.mp H
      obtain ⟨t184, A330, H⟩ := H
      try dsimp only at H
      have A33 := aM A330
      clear A330
      by_cases c34 : t183 < t184
      ·rw [if_pos c34] at H
       have c34b0 : decide (t183 < t184) = true := decide_eq_true c34
       clear c34
       have H' := aM H
       clear H
       try go_wp2
       have n0_ := aM (Kd.R_drew HO_9.out)
       have n1_ := aM (bD BK164.out)
       have n2_ := aM (bD BK165.out)
       have n3_ := aM (bD BK166.out)
       have n4_ := aM (bD BK167.out)
       have n5_ := aM (bD BK168.out)
       have n6_ := aM (bD BK181.out)
       have n7_ := aM (lD HB.out)
       clear HO_9
       clear BK164
       clear BK165
       clear BK166
       clear BK167
       clear BK168
       clear BK181
       clear HB
       have HO_9 := n0_
       have BK164 := n1_
       have BK165 := n2_
       have BK166 := n3_
       have BK167 := n4_
       have BK168 := n5_
       have BK181 := n6_
       have HB := n7_
       clear n0_ n1_ n2_ n3_ n4_ n5_ n6_ n7_
       have p182 : 0 ≤ (x11_1 : Int) := of_decide_eq_true (by first | (with_reducible assumption) | assumption)
       have q182 : x11_1 < (y177.length : Int) := of_decide_eq_true (by first | (with_reducible assumption) | assumption)
       obtain ⟨ad182, e182, hx182_0, hx182_1, hx182_2, hx182_3⟩ := at_T29 (Kd.R_reads' HO_9.out).2.2 x11_1 p182 q182
       obtain rfl : ad180 = ad182 := (by injection e182)
       replace p182 := eq_true p182
       replace q182 := eq_true q182
       refine start_ (n := 8) (S := fun w' => w'.cell? ⟨b181, 0, none⟩ = some (.int .i32 x182000_1) ∧ w'.cell? ⟨b181, 1, none⟩ = some (.int .i32 x182001_1) ∧ w'.cell? ⟨b181, 2, none⟩ = some (.int .i32 x182002_1) ∧ w'.cell? ⟨b181, 3, none⟩ = some (.int .i32 x182003_1) ∧ w'.cell? (ad180.add ((x11_1).toNat * 4)) = some (.int .i32 ((rd_T29 y177 x11_1).f0.f0)) ∧ w'.cell? ⟨(ad180.add ((x11_1).toNat * 4)).block, (ad180.add ((x11_1).toNat * 4)).off + 1, none⟩ = some (.int .i32 ((rd_T29 y177 x11_1).f0.f1)) ∧ w'.cell? ⟨(ad180.add ((x11_1).toNat * 4)).block, (ad180.add ((x11_1).toNat * 4)).off + 2, none⟩ = some (.int .i32 ((rd_T29 y177 x11_1).f1.f0)) ∧ w'.cell? ⟨(ad180.add ((x11_1).toNat * 4)).block, (ad180.add ((x11_1).toNat * 4)).off + 3, none⟩ = some (.int .i32 ((rd_T29 y177 x11_1).f1.f1))) (ds := []) #[F,F,F,F,F,F,F,F] (by kernel_rfl) rfl rfl ⟨(bC BK181.out 0).trans rfl, (bC BK181.out 1).trans rfl, (bC BK181.out 2).trans rfl, (bC BK181.out 3).trans rfl, hx182_0, hx182_1, hx182_2, hx182_3⟩ (fun hHeld => ?_); refine with_tabW billiardref13_Chosen.tab6 billiardref13_Chosen.bits6 (fun HT_ HW_ => ?_)
       generalize wr.drew = w35 at HO_9 BK164 BK165 BK166 BK167 BK168 BK181 HB hx182_0 hx182_1 hx182_2 hx182_3 hHeld ⊢
       refine pure_ (i := 0) (N := some 46) (v := ?_) (a' := ?_) #[T,F,F,F,F,F,F,F] rfl rfl (any_of HT_.out (by kernel_rfl)) (fun _ _ _ h => h) (Or.inl ⟨by rfl, ?_⟩) ?_ ?_
       rotate_left
       ·intro w'
        go_simp
        with_reducible rfl
       rotate_left
       ·simp only [Act.put, sA, sB, sC, i64_w, i32_w]
        rfl
       refine pure_ (i := 1) (N := some 47) (v := ?_) (a' := ?_) #[T,T,F,F,F,F,F,F] rfl rfl (any_of HT_.out (by kernel_rfl)) (fun _ _ _ h => h) (Or.inl ⟨by rfl, ?_⟩) ?_ ?_
       rotate_left
       ·intro w'
        go_simp
        with_reducible rfl
       rotate_left
       ·simp only [Act.put, sA, sB, sC, i64_w, i32_w]
        rfl
       refine pure_ (i := 2) (N := some 48) (v := ?_) (a' := ?_) #[T,T,T,F,F,F,F,F] rfl rfl (any_of HT_.out (by kernel_rfl)) (fun _ _ _ h => h) (Or.inl ⟨by rfl, ?_⟩) ?_ ?_
       rotate_left
       ·intro w'
        go_simp
        with_reducible rfl
       rotate_left
       ·simp only [Act.put, sA, sB, sC, i64_w, i32_w]
        rfl
       refine take_ (i := 3) (N := some 49) (v := ?_) (a' := ?_) #[T,T,T,T,F,F,F,F] rfl rfl (take_ofW HT_.out HW_.out (by kernel_rfl)) (fun _ _ _ h => h) (Or.inl ⟨by rfl, ?_⟩) hHeld ?_ ?_
       rotate_left
       ·rintro w' ⟨s0, s1, s2, s3, s4, s5, s6, s7⟩
        go_simp
        with_reducible rfl
       rotate_left
       ·simp only [Act.put, sA, sB, sC, i64_w, i32_w]
        rfl
       refine take_ (i := 5) (N := some 51) (v := ?_) (a' := ?_) #[T,T,T,T,F,T,F,F] rfl rfl (take_ofW HT_.out HW_.out (by kernel_rfl)) (fun _ _ _ h => h) (Or.inl ⟨by rfl, ?_⟩) hHeld ?_ ?_
       rotate_left
       ·rintro w' ⟨s0, s1, s2, s3, s4, s5, s6, s7⟩
        go_simp
        with_reducible rfl
       rotate_left
       ·simp only [Act.put, sA, sB, sC, i64_w, i32_w]
        rfl
       refine one_ (i := 4) (N := some 50) #[T,T,T,T,T,T,F,F] rfl rfl (one_of HT_.out (by kernel_rfl)) (by decide) (fun K hK => ?_)
       refine goes_ Try.func13 (by kernel_rfl) rfl #[.agg #[.int .i32 ((rd_T29 y177 x11_1).f0.f0), .int .i32 ((rd_T29 y177 x11_1).f0.f1), .int .i32 ((rd_T29 y177 x11_1).f1.f0), .int .i32 ((rd_T29 y177 x11_1).f1.f1)]] (by rfl) rfl rfl (by (try simp only [List.map_toArray, List.map_cons, List.map_nil]); first | done | rfl | (simp only [List.length_drop, List.length_take]; rfl)) ?_
       with_reducible refine (billiardref13_DistSq.calls ((rd_T29 y177 x11_1).f0.f0) ((rd_T29 y177 x11_1).f0.f1) ((rd_T29 y177 x11_1).f1.f0) ((rd_T29 y177 x11_1).f1.f1) t183 _ A32.out).mono ?_
       rintro e w36 ⟨rfl, hb⟩
       have HS4_ := (hb.cell (World.block_lt_of_cell? _ _ (hHeld.2.2.2.2.1))).trans (hHeld.2.2.2.2.1)
       have HS5_ := (hb.cell (World.block_lt_of_cell? _ _ (hHeld.2.2.2.2.2.1))).trans (hHeld.2.2.2.2.2.1)
       have HS6_ := (hb.cell (World.block_lt_of_cell? _ _ (hHeld.2.2.2.2.2.2.1))).trans (hHeld.2.2.2.2.2.2.1)
       have HS7_ := (hb.cell (World.block_lt_of_cell? _ _ (hHeld.2.2.2.2.2.2.2))).trans (hHeld.2.2.2.2.2.2.2)
       refine ⟨_, rfl, ?_⟩
       have n0_ := aM (Kd.R_below (by (with_reducible repeat (first | apply Kd.R_alloc | apply Kd.R_drewN | apply Kd.R_drew)); exact HO_9.out) hb)
       have n1_ := aM (bB (by (with_reducible repeat first | apply bN | apply bD | apply bA); exact BK164.out) hb)
       have n2_ := aM (bB (by (with_reducible repeat first | apply bN | apply bD | apply bA); exact BK165.out) hb)
       have n3_ := aM (bB (by (with_reducible repeat first | apply bN | apply bD | apply bA); exact BK166.out) hb)
       have n4_ := aM (bB (by (with_reducible repeat first | apply bN | apply bD | apply bA); exact BK167.out) hb)
       have n5_ := aM (bB (by (with_reducible repeat first | apply bN | apply bD | apply bA); exact BK168.out) hb)
       have n6_ := aM (bB (by (with_reducible repeat first | apply bN | apply bD | apply bA); exact BK181.out) hb)
       have n7_ := aM (lT (by repeat (first | (with_reducible first | exact HB.out | apply lA | apply lN | apply lD | refine lS ?_ GE164.out | refine lS ?_ GE165.out | refine lS ?_ GE166.out | refine lS ?_ GE167.out | refine lS ?_ GE168.out | refine lS ?_ GE181.out) | exact HB.out)) hb)
       clear HO_9
       clear BK164
       clear BK165
       clear BK166
       clear BK167
       clear BK168
       clear BK181
       clear HB
       have HO_9 := n0_
       have BK164 := n1_
       have BK165 := n2_
       have BK166 := n3_
       have BK167 := n4_
       have BK168 := n5_
       have BK181 := n6_
       have HB := n7_
       clear n0_ n1_ n2_ n3_ n4_ n5_ n6_ n7_
       (try clear hb)
       (try clear hb2)
       (try clear hk)
       (try clear hi)
       refine hK.out _ _ ⟨(bC BK181.out 0).trans rfl, (bC BK181.out 1).trans rfl, (bC BK181.out 2).trans rfl, (bC BK181.out 3).trans rfl, HS4_, HS5_, HS6_, HS7_⟩ (fun hHeld => ?_)
       clear hK K
       refine norm_ (a' := ?_) ?_ ?_
       rotate_left
       ·show Act.put _ (some 50) _ = _
        simp only [Act.put, sA, sB, sC, i64_w, i32_w]
        rfl
       refine one_ (i := 6) (N := some 52) #[T,T,T,T,T,T,T,F] rfl rfl (one_of HT_.out (by kernel_rfl)) (by decide) (fun K hK => ?_)
       refine goes_ Try.func13 (by kernel_rfl) rfl #[.agg #[.int .i32 x182000_1, .int .i32 x182001_1, .int .i32 x182002_1, .int .i32 x182003_1]] (by rfl) rfl rfl (by (try simp only [List.map_toArray, List.map_cons, List.map_nil]); first | done | rfl | (simp only [List.length_drop, List.length_take]; rfl)) ?_
       with_reducible refine (billiardref13_DistSq.calls x182000_1 x182001_1 x182002_1 x182003_1 t184 _ A33.out).mono ?_
       rintro e w37 ⟨rfl, hb⟩
       have HS4_ := (hb.cell (World.block_lt_of_cell? _ _ (hHeld.2.2.2.2.1))).trans (hHeld.2.2.2.2.1)
       have HS5_ := (hb.cell (World.block_lt_of_cell? _ _ (hHeld.2.2.2.2.2.1))).trans (hHeld.2.2.2.2.2.1)
       have HS6_ := (hb.cell (World.block_lt_of_cell? _ _ (hHeld.2.2.2.2.2.2.1))).trans (hHeld.2.2.2.2.2.2.1)
       have HS7_ := (hb.cell (World.block_lt_of_cell? _ _ (hHeld.2.2.2.2.2.2.2))).trans (hHeld.2.2.2.2.2.2.2)
       refine ⟨_, rfl, ?_⟩
       have n0_ := aM (Kd.R_below (by (with_reducible repeat (first | apply Kd.R_alloc | apply Kd.R_drewN | apply Kd.R_drew)); exact HO_9.out) hb)
       have n1_ := aM (bB (by (with_reducible repeat first | apply bN | apply bD | apply bA); exact BK164.out) hb)
       have n2_ := aM (bB (by (with_reducible repeat first | apply bN | apply bD | apply bA); exact BK165.out) hb)
       have n3_ := aM (bB (by (with_reducible repeat first | apply bN | apply bD | apply bA); exact BK166.out) hb)
       have n4_ := aM (bB (by (with_reducible repeat first | apply bN | apply bD | apply bA); exact BK167.out) hb)
       have n5_ := aM (bB (by (with_reducible repeat first | apply bN | apply bD | apply bA); exact BK168.out) hb)
       have n6_ := aM (bB (by (with_reducible repeat first | apply bN | apply bD | apply bA); exact BK181.out) hb)
       have n7_ := aM (lT (by repeat (first | (with_reducible first | exact HB.out | apply lA | apply lN | apply lD | refine lS ?_ GE164.out | refine lS ?_ GE165.out | refine lS ?_ GE166.out | refine lS ?_ GE167.out | refine lS ?_ GE168.out | refine lS ?_ GE181.out) | exact HB.out)) hb)
       clear HO_9
       clear BK164
       clear BK165
       clear BK166
       clear BK167
       clear BK168
       clear BK181
       clear HB
       have HO_9 := n0_
       have BK164 := n1_
       have BK165 := n2_
       have BK166 := n3_
       have BK167 := n4_
       have BK168 := n5_
       have BK181 := n6_
       have HB := n7_
       clear n0_ n1_ n2_ n3_ n4_ n5_ n6_ n7_
       (try clear hb)
       (try clear hb2)
       (try clear hk)
       (try clear hi)
       refine hK.out _ _ ⟨(bC BK181.out 0).trans rfl, (bC BK181.out 1).trans rfl, (bC BK181.out 2).trans rfl, (bC BK181.out 3).trans rfl, HS4_, HS5_, HS6_, HS7_⟩ (fun hHeld => ?_)
       clear hK K
       refine norm_ (a' := ?_) ?_ ?_
       rotate_left
       ·show Act.put _ (some 52) _ = _
        simp only [Act.put, sA, sB, sC, i64_w, i32_w]
        rfl
       refine pure_ (i := 7) (N := some 53) (v := ?_) (a' := ?_) #[T,T,T,T,T,T,T,T] rfl rfl (any_of HT_.out (by kernel_rfl)) (fun _ _ _ h => h) (Or.inl ⟨by rfl, ?_⟩) ?_ ?_
       rotate_left
       ·intro w'
        go_simp
        with_reducible rfl
       rotate_left
       ·simp only [Act.put, sA, sB, sC, i64_w, i32_w]
        rfl
       refine done_ (done_of HT_.out (by kernel_rfl)) ?_
       have p185 : 0 ≤ (x11_1 : Int) := of_decide_eq_true (by first | (with_reducible assumption) | assumption)
       have q185 : x11_1 < (y177.length : Int) := of_decide_eq_true (by first | (with_reducible assumption) | assumption)
       obtain ⟨ad185, e185, hx185_0, hx185_1, hx185_2, hx185_3⟩ := at_T29 (Kd.R_reads' HO_9.out).2.2 x11_1 p185 q185
       obtain rfl : ad180 = ad185 := (by injection e185)
       replace p185 := eq_true p185
       replace q185 := eq_true q185
       have hnb38 := N33_.out
       have hnc38 := N32_.out
       have hnb39 := N35_.out
       have hnc39 := N34_.out
       have hnb40 := N37_.out
       have hnc40 := N36_.out
       have hnb41 := N39_.out
       have hnc41 := N38_.out
       have hnb42 := N41_.out
       have hnc42 := N40_.out
       have hcz43_0 : w37.cell? ⟨b181, 0, none⟩ = some (.int .i32 x182000_1) := (bC BK181.out 0).trans rfl
       have hcz43_1 : w37.cell? ⟨b181, 1, none⟩ = some (.int .i32 x182001_1) := (bC BK181.out 1).trans rfl
       have hcz43_2 : w37.cell? ⟨b181, 2, none⟩ = some (.int .i32 x182002_1) := (bC BK181.out 2).trans rfl
       have hcz43_3 : w37.cell? ⟨b181, 3, none⟩ = some (.int .i32 x182003_1) := (bC BK181.out 3).trans rfl
       have hfz43_0 := bF BK181.out 0
       have hfz43_1 := bF BK181.out 1
       have hfz43_2 := bF BK181.out 2
       have hfz43_3 := bF BK181.out 3
       try go_wp2
       go_roundg k1
       case measure => have := HK1.out; omega
       case rel => exact ⟨(wrap64 (x11_1 + 1)), ((rd_T29 y177 x11_1).f0.f0), ((rd_T29 y177 x11_1).f0.f1), ((rd_T29 y177 x11_1).f1.f0), ((rd_T29 y177 x11_1).f1.f1), (by first | rfl | (simp; done) | (simp [*]; done)), H', ⟨by have := HK1.out; omega⟩, ⟨by (with_reducible repeat (first | apply Kd.R_alloc | apply Kd.R_drewN | apply Kd.R_drew)); exact Kd.R_mono (Kd.R_far (p := ⟨b181, 3, none⟩) (Kd.R_far (p := ⟨b181, 2, none⟩) (Kd.R_far (p := ⟨b181, 1, none⟩) (Kd.R_far (p := ⟨b181, 0, none⟩) (Kd.R_mono HO_9.out (fun k_ hk => (⟨hk, hk.2⟩ : _ ∧ k_ ≠ b181))) (fun _ hk => hk.2) (.int .i32 ((rd_T29 y177 x11_1).f0.f0))) (fun _ hk => hk.2) (.int .i32 ((rd_T29 y177 x11_1).f0.f1))) (fun _ hk => hk.2) (.int .i32 ((rd_T29 y177 x11_1).f1.f0))) (fun _ hk => hk.2) (.int .i32 ((rd_T29 y177 x11_1).f1.f1))) (fun _ hk => ⟨hk.1.1, hk.1.2⟩)⟩, ⟨by (with_reducible repeat first | apply bN | apply bD | apply bA); refine bR ?_ N32_.out _; (with_reducible repeat first | apply bN | apply bD | apply bA); refine bR ?_ N32_.out _; (with_reducible repeat first | apply bN | apply bD | apply bA); refine bR ?_ N32_.out _; (with_reducible repeat first | apply bN | apply bD | apply bA); refine bR ?_ N32_.out _; (with_reducible repeat first | apply bN | apply bD | apply bA); exact BK164.out⟩, ⟨by (with_reducible repeat first | apply bN | apply bD | apply bA); refine bR ?_ N34_.out _; (with_reducible repeat first | apply bN | apply bD | apply bA); refine bR ?_ N34_.out _; (with_reducible repeat first | apply bN | apply bD | apply bA); refine bR ?_ N34_.out _; (with_reducible repeat first | apply bN | apply bD | apply bA); refine bR ?_ N34_.out _; (with_reducible repeat first | apply bN | apply bD | apply bA); exact BK165.out⟩, ⟨by (with_reducible repeat first | apply bN | apply bD | apply bA); refine bR ?_ N36_.out _; (with_reducible repeat first | apply bN | apply bD | apply bA); refine bR ?_ N36_.out _; (with_reducible repeat first | apply bN | apply bD | apply bA); refine bR ?_ N36_.out _; (with_reducible repeat first | apply bN | apply bD | apply bA); refine bR ?_ N36_.out _; (with_reducible repeat first | apply bN | apply bD | apply bA); exact BK166.out⟩, ⟨by (with_reducible repeat first | apply bN | apply bD | apply bA); refine bR ?_ N38_.out _; (with_reducible repeat first | apply bN | apply bD | apply bA); refine bR ?_ N38_.out _; (with_reducible repeat first | apply bN | apply bD | apply bA); refine bR ?_ N38_.out _; (with_reducible repeat first | apply bN | apply bD | apply bA); refine bR ?_ N38_.out _; (with_reducible repeat first | apply bN | apply bD | apply bA); exact BK167.out⟩, ⟨by (with_reducible repeat first | apply bN | apply bD | apply bA); refine bR ?_ N40_.out _; (with_reducible repeat first | apply bN | apply bD | apply bA); refine bR ?_ N40_.out _; (with_reducible repeat first | apply bN | apply bD | apply bA); refine bR ?_ N40_.out _; (with_reducible repeat first | apply bN | apply bD | apply bA); refine bR ?_ N40_.out _; (with_reducible repeat first | apply bN | apply bD | apply bA); exact BK168.out⟩, ⟨by (with_reducible repeat first | apply bN | apply bD | apply bA); refine bP (cs := #[.int .i32 ((rd_T29 y177 x11_1).f0.f0), .int .i32 ((rd_T29 y177 x11_1).f0.f1), .int .i32 ((rd_T29 y177 x11_1).f1.f0), .int .i32 x182003_1]) ?_ 3 _ rfl; (with_reducible repeat first | apply bN | apply bD | apply bA); refine bP (cs := #[.int .i32 ((rd_T29 y177 x11_1).f0.f0), .int .i32 ((rd_T29 y177 x11_1).f0.f1), .int .i32 x182002_1, .int .i32 x182003_1]) ?_ 2 _ rfl; (with_reducible repeat first | apply bN | apply bD | apply bA); refine bP (cs := #[.int .i32 ((rd_T29 y177 x11_1).f0.f0), .int .i32 x182001_1, .int .i32 x182002_1, .int .i32 x182003_1]) ?_ 1 _ rfl; (with_reducible repeat first | apply bN | apply bD | apply bA); refine bP (cs := #[.int .i32 x182000_1, .int .i32 x182001_1, .int .i32 x182002_1, .int .i32 x182003_1]) ?_ 0 _ rfl; (with_reducible repeat first | apply bN | apply bD | apply bA); exact BK181.out⟩, ⟨by repeat (first | (with_reducible first | exact HB.out | apply lA | apply lN | apply lD | refine lS ?_ GE164.out | refine lS ?_ GE165.out | refine lS ?_ GE166.out | refine lS ?_ GE167.out | refine lS ?_ GE168.out | refine lS ?_ GE181.out) | exact HB.out)⟩⟩
      ·rw [if_neg c34] at H
       have c34b0 : decide (t183 < t184) = false := decide_eq_false c34
       clear c34
       have H' := aM H
       clear H
       try go_wp2
       have n0_ := aM (Kd.R_drew HO_9.out)
       have n1_ := aM (bD BK164.out)
       have n2_ := aM (bD BK165.out)
       have n3_ := aM (bD BK166.out)
       have n4_ := aM (bD BK167.out)
       have n5_ := aM (bD BK168.out)
       have n6_ := aM (bD BK181.out)
       have n7_ := aM (lD HB.out)
       clear HO_9
       clear BK164
       clear BK165
       clear BK166
       clear BK167
       clear BK168
       clear BK181
       clear HB
       have HO_9 := n0_
       have BK164 := n1_
       have BK165 := n2_
       have BK166 := n3_
       have BK167 := n4_
       have BK168 := n5_
       have BK181 := n6_
       have HB := n7_
       clear n0_ n1_ n2_ n3_ n4_ n5_ n6_ n7_
       have p182 : 0 ≤ (x11_1 : Int) := of_decide_eq_true (by first | (with_reducible assumption) | assumption)
       have q182 : x11_1 < (y177.length : Int) := of_decide_eq_true (by first | (with_reducible assumption) | assumption)
       obtain ⟨ad182, e182, hx182_0, hx182_1, hx182_2, hx182_3⟩ := at_T29 (Kd.R_reads' HO_9.out).2.2 x11_1 p182 q182
       obtain rfl : ad180 = ad182 := (by injection e182)
       replace p182 := eq_true p182
       replace q182 := eq_true q182
       refine start_ (n := 8) (S := fun w' => w'.cell? ⟨b181, 0, none⟩ = some (.int .i32 x182000_1) ∧ w'.cell? ⟨b181, 1, none⟩ = some (.int .i32 x182001_1) ∧ w'.cell? ⟨b181, 2, none⟩ = some (.int .i32 x182002_1) ∧ w'.cell? ⟨b181, 3, none⟩ = some (.int .i32 x182003_1) ∧ w'.cell? (ad180.add ((x11_1).toNat * 4)) = some (.int .i32 ((rd_T29 y177 x11_1).f0.f0)) ∧ w'.cell? ⟨(ad180.add ((x11_1).toNat * 4)).block, (ad180.add ((x11_1).toNat * 4)).off + 1, none⟩ = some (.int .i32 ((rd_T29 y177 x11_1).f0.f1)) ∧ w'.cell? ⟨(ad180.add ((x11_1).toNat * 4)).block, (ad180.add ((x11_1).toNat * 4)).off + 2, none⟩ = some (.int .i32 ((rd_T29 y177 x11_1).f1.f0)) ∧ w'.cell? ⟨(ad180.add ((x11_1).toNat * 4)).block, (ad180.add ((x11_1).toNat * 4)).off + 3, none⟩ = some (.int .i32 ((rd_T29 y177 x11_1).f1.f1))) (ds := []) #[F,F,F,F,F,F,F,F] (by kernel_rfl) rfl rfl ⟨(bC BK181.out 0).trans rfl, (bC BK181.out 1).trans rfl, (bC BK181.out 2).trans rfl, (bC BK181.out 3).trans rfl, hx182_0, hx182_1, hx182_2, hx182_3⟩ (fun hHeld => ?_); refine with_tabW billiardref13_Chosen.tab6 billiardref13_Chosen.bits6 (fun HT_ HW_ => ?_)
       generalize wr.drew = w44 at HO_9 BK164 BK165 BK166 BK167 BK168 BK181 HB hx182_0 hx182_1 hx182_2 hx182_3 hHeld ⊢
       refine pure_ (i := 0) (N := some 46) (v := ?_) (a' := ?_) #[T,F,F,F,F,F,F,F] rfl rfl (any_of HT_.out (by kernel_rfl)) (fun _ _ _ h => h) (Or.inl ⟨by rfl, ?_⟩) ?_ ?_
       rotate_left
       ·intro w'
        go_simp
        with_reducible rfl
       rotate_left
       ·simp only [Act.put, sA, sB, sC, i64_w, i32_w]
        rfl
       refine pure_ (i := 1) (N := some 47) (v := ?_) (a' := ?_) #[T,T,F,F,F,F,F,F] rfl rfl (any_of HT_.out (by kernel_rfl)) (fun _ _ _ h => h) (Or.inl ⟨by rfl, ?_⟩) ?_ ?_
       rotate_left
       ·intro w'
        go_simp
        with_reducible rfl
       rotate_left
       ·simp only [Act.put, sA, sB, sC, i64_w, i32_w]
        rfl
       refine pure_ (i := 2) (N := some 48) (v := ?_) (a' := ?_) #[T,T,T,F,F,F,F,F] rfl rfl (any_of HT_.out (by kernel_rfl)) (fun _ _ _ h => h) (Or.inl ⟨by rfl, ?_⟩) ?_ ?_
       rotate_left
       ·intro w'
        go_simp
        with_reducible rfl
       rotate_left
       ·simp only [Act.put, sA, sB, sC, i64_w, i32_w]
        rfl
       refine take_ (i := 3) (N := some 49) (v := ?_) (a' := ?_) #[T,T,T,T,F,F,F,F] rfl rfl (take_ofW HT_.out HW_.out (by kernel_rfl)) (fun _ _ _ h => h) (Or.inl ⟨by rfl, ?_⟩) hHeld ?_ ?_
       rotate_left
       ·rintro w' ⟨s0, s1, s2, s3, s4, s5, s6, s7⟩
        go_simp
        with_reducible rfl
       rotate_left
       ·simp only [Act.put, sA, sB, sC, i64_w, i32_w]
        rfl
       refine take_ (i := 5) (N := some 51) (v := ?_) (a' := ?_) #[T,T,T,T,F,T,F,F] rfl rfl (take_ofW HT_.out HW_.out (by kernel_rfl)) (fun _ _ _ h => h) (Or.inl ⟨by rfl, ?_⟩) hHeld ?_ ?_
       rotate_left
       ·rintro w' ⟨s0, s1, s2, s3, s4, s5, s6, s7⟩
        go_simp
        with_reducible rfl
       rotate_left
       ·simp only [Act.put, sA, sB, sC, i64_w, i32_w]
        rfl
       refine one_ (i := 4) (N := some 50) #[T,T,T,T,T,T,F,F] rfl rfl (one_of HT_.out (by kernel_rfl)) (by decide) (fun K hK => ?_)
       refine goes_ Try.func13 (by kernel_rfl) rfl #[.agg #[.int .i32 ((rd_T29 y177 x11_1).f0.f0), .int .i32 ((rd_T29 y177 x11_1).f0.f1), .int .i32 ((rd_T29 y177 x11_1).f1.f0), .int .i32 ((rd_T29 y177 x11_1).f1.f1)]] (by rfl) rfl rfl (by (try simp only [List.map_toArray, List.map_cons, List.map_nil]); first | done | rfl | (simp only [List.length_drop, List.length_take]; rfl)) ?_
       with_reducible refine (billiardref13_DistSq.calls ((rd_T29 y177 x11_1).f0.f0) ((rd_T29 y177 x11_1).f0.f1) ((rd_T29 y177 x11_1).f1.f0) ((rd_T29 y177 x11_1).f1.f1) t183 _ A32.out).mono ?_
       rintro e w45 ⟨rfl, hb⟩
       have HS4_ := (hb.cell (World.block_lt_of_cell? _ _ (hHeld.2.2.2.2.1))).trans (hHeld.2.2.2.2.1)
       have HS5_ := (hb.cell (World.block_lt_of_cell? _ _ (hHeld.2.2.2.2.2.1))).trans (hHeld.2.2.2.2.2.1)
       have HS6_ := (hb.cell (World.block_lt_of_cell? _ _ (hHeld.2.2.2.2.2.2.1))).trans (hHeld.2.2.2.2.2.2.1)
       have HS7_ := (hb.cell (World.block_lt_of_cell? _ _ (hHeld.2.2.2.2.2.2.2))).trans (hHeld.2.2.2.2.2.2.2)
       refine ⟨_, rfl, ?_⟩
       have n0_ := aM (Kd.R_below (by (with_reducible repeat (first | apply Kd.R_alloc | apply Kd.R_drewN | apply Kd.R_drew)); exact HO_9.out) hb)
       have n1_ := aM (bB (by (with_reducible repeat first | apply bN | apply bD | apply bA); exact BK164.out) hb)
       have n2_ := aM (bB (by (with_reducible repeat first | apply bN | apply bD | apply bA); exact BK165.out) hb)
       have n3_ := aM (bB (by (with_reducible repeat first | apply bN | apply bD | apply bA); exact BK166.out) hb)
       have n4_ := aM (bB (by (with_reducible repeat first | apply bN | apply bD | apply bA); exact BK167.out) hb)
       have n5_ := aM (bB (by (with_reducible repeat first | apply bN | apply bD | apply bA); exact BK168.out) hb)
       have n6_ := aM (bB (by (with_reducible repeat first | apply bN | apply bD | apply bA); exact BK181.out) hb)
       have n7_ := aM (lT (by repeat (first | (with_reducible first | exact HB.out | apply lA | apply lN | apply lD | refine lS ?_ GE164.out | refine lS ?_ GE165.out | refine lS ?_ GE166.out | refine lS ?_ GE167.out | refine lS ?_ GE168.out | refine lS ?_ GE181.out) | exact HB.out)) hb)
       clear HO_9
       clear BK164
       clear BK165
       clear BK166
       clear BK167
       clear BK168
       clear BK181
       clear HB
       have HO_9 := n0_
       have BK164 := n1_
       have BK165 := n2_
       have BK166 := n3_
       have BK167 := n4_
       have BK168 := n5_
       have BK181 := n6_
       have HB := n7_
       clear n0_ n1_ n2_ n3_ n4_ n5_ n6_ n7_
       (try clear hb)
       (try clear hb2)
       (try clear hk)
       (try clear hi)
       refine hK.out _ _ ⟨(bC BK181.out 0).trans rfl, (bC BK181.out 1).trans rfl, (bC BK181.out 2).trans rfl, (bC BK181.out 3).trans rfl, HS4_, HS5_, HS6_, HS7_⟩ (fun hHeld => ?_)
       clear hK K
       refine norm_ (a' := ?_) ?_ ?_
       rotate_left
       ·show Act.put _ (some 50) _ = _
        simp only [Act.put, sA, sB, sC, i64_w, i32_w]
        rfl
       refine one_ (i := 6) (N := some 52) #[T,T,T,T,T,T,T,F] rfl rfl (one_of HT_.out (by kernel_rfl)) (by decide) (fun K hK => ?_)
       refine goes_ Try.func13 (by kernel_rfl) rfl #[.agg #[.int .i32 x182000_1, .int .i32 x182001_1, .int .i32 x182002_1, .int .i32 x182003_1]] (by rfl) rfl rfl (by (try simp only [List.map_toArray, List.map_cons, List.map_nil]); first | done | rfl | (simp only [List.length_drop, List.length_take]; rfl)) ?_
       with_reducible refine (billiardref13_DistSq.calls x182000_1 x182001_1 x182002_1 x182003_1 t184 _ A33.out).mono ?_
       rintro e w46 ⟨rfl, hb⟩
       have HS4_ := (hb.cell (World.block_lt_of_cell? _ _ (hHeld.2.2.2.2.1))).trans (hHeld.2.2.2.2.1)
       have HS5_ := (hb.cell (World.block_lt_of_cell? _ _ (hHeld.2.2.2.2.2.1))).trans (hHeld.2.2.2.2.2.1)
       have HS6_ := (hb.cell (World.block_lt_of_cell? _ _ (hHeld.2.2.2.2.2.2.1))).trans (hHeld.2.2.2.2.2.2.1)
       have HS7_ := (hb.cell (World.block_lt_of_cell? _ _ (hHeld.2.2.2.2.2.2.2))).trans (hHeld.2.2.2.2.2.2.2)
       refine ⟨_, rfl, ?_⟩
       have n0_ := aM (Kd.R_below (by (with_reducible repeat (first | apply Kd.R_alloc | apply Kd.R_drewN | apply Kd.R_drew)); exact HO_9.out) hb)
       have n1_ := aM (bB (by (with_reducible repeat first | apply bN | apply bD | apply bA); exact BK164.out) hb)
       have n2_ := aM (bB (by (with_reducible repeat first | apply bN | apply bD | apply bA); exact BK165.out) hb)
       have n3_ := aM (bB (by (with_reducible repeat first | apply bN | apply bD | apply bA); exact BK166.out) hb)
       have n4_ := aM (bB (by (with_reducible repeat first | apply bN | apply bD | apply bA); exact BK167.out) hb)
       have n5_ := aM (bB (by (with_reducible repeat first | apply bN | apply bD | apply bA); exact BK168.out) hb)
       have n6_ := aM (bB (by (with_reducible repeat first | apply bN | apply bD | apply bA); exact BK181.out) hb)
       have n7_ := aM (lT (by repeat (first | (with_reducible first | exact HB.out | apply lA | apply lN | apply lD | refine lS ?_ GE164.out | refine lS ?_ GE165.out | refine lS ?_ GE166.out | refine lS ?_ GE167.out | refine lS ?_ GE168.out | refine lS ?_ GE181.out) | exact HB.out)) hb)
       clear HO_9
       clear BK164
       clear BK165
       clear BK166
       clear BK167
       clear BK168
       clear BK181
       clear HB
       have HO_9 := n0_
       have BK164 := n1_
       have BK165 := n2_
       have BK166 := n3_
       have BK167 := n4_
       have BK168 := n5_
       have BK181 := n6_
       have HB := n7_
       clear n0_ n1_ n2_ n3_ n4_ n5_ n6_ n7_
       (try clear hb)
       (try clear hb2)
       (try clear hk)
       (try clear hi)
       refine hK.out _ _ ⟨(bC BK181.out 0).trans rfl, (bC BK181.out 1).trans rfl, (bC BK181.out 2).trans rfl, (bC BK181.out 3).trans rfl, HS4_, HS5_, HS6_, HS7_⟩ (fun hHeld => ?_)
       clear hK K
       refine norm_ (a' := ?_) ?_ ?_
       rotate_left
       ·show Act.put _ (some 52) _ = _
        simp only [Act.put, sA, sB, sC, i64_w, i32_w]
        rfl
       refine pure_ (i := 7) (N := some 53) (v := ?_) (a' := ?_) #[T,T,T,T,T,T,T,T] rfl rfl (any_of HT_.out (by kernel_rfl)) (fun _ _ _ h => h) (Or.inl ⟨by rfl, ?_⟩) ?_ ?_
       rotate_left
       ·intro w'
        go_simp
        with_reducible rfl
       rotate_left
       ·simp only [Act.put, sA, sB, sC, i64_w, i32_w]
        rfl
       refine done_ (done_of HT_.out (by kernel_rfl)) ?_
       try go_wp2
       go_roundg k1
       case measure => have := HK1.out; omega
       case rel => exact ⟨(wrap64 (x11_1 + 1)), (x182000_1), (x182001_1), (x182002_1), (x182003_1), (by first | rfl | (simp; done) | (simp [*]; done)), H', ⟨by have := HK1.out; omega⟩, ⟨by (with_reducible repeat (first | apply Kd.R_alloc | apply Kd.R_drewN | apply Kd.R_drew)); exact HO_9.out⟩, ⟨by (with_reducible repeat first | apply bN | apply bD | apply bA); exact BK164.out⟩, ⟨by (with_reducible repeat first | apply bN | apply bD | apply bA); exact BK165.out⟩, ⟨by (with_reducible repeat first | apply bN | apply bD | apply bA); exact BK166.out⟩, ⟨by (with_reducible repeat first | apply bN | apply bD | apply bA); exact BK167.out⟩, ⟨by (with_reducible repeat first | apply bN | apply bD | apply bA); exact BK168.out⟩, ⟨by (with_reducible repeat first | apply bN | apply bD | apply bA); exact BK181.out⟩, ⟨by repeat (first | (with_reducible first | exact HB.out | apply lA | apply lN | apply lD | refine lS ?_ GE164.out | refine lS ?_ GE165.out | refine lS ?_ GE166.out | refine lS ?_ GE167.out | refine lS ?_ GE168.out | refine lS ?_ GE181.out) | exact HB.out)⟩⟩
     ·rw [if_neg c31] at H
      exact absurd H (by simp)
    ·rw [if_neg c30] at H
     have c30b0 : decide (x11_1 < (y177.length : Int)) = false := decide_eq_false c30
     clear c30
     simp only [Option.some.injEq, Prod.mk.injEq] at H
     obtain ⟨rfl, rfl, rfl, rfl⟩ := H
     have hnb47 := N33_.out
     have hnc47 := N32_.out
     have hnb48 := N35_.out
     have hnc48 := N34_.out
     have hnb49 := N37_.out
     have hnc49 := N36_.out
     have hnb50 := N39_.out
     have hnc50 := N38_.out
     have hnb51 := N41_.out
     have hnc51 := N40_.out
     have hcz52_0 : wr.cell? ⟨b181, 0, none⟩ = some (.int .i32 x182000_1) := (bC BK181.out 0).trans rfl
     have hcz52_1 : wr.cell? ⟨b181, 1, none⟩ = some (.int .i32 x182001_1) := (bC BK181.out 1).trans rfl
     have hcz52_2 : wr.cell? ⟨b181, 2, none⟩ = some (.int .i32 x182002_1) := (bC BK181.out 2).trans rfl
     have hcz52_3 : wr.cell? ⟨b181, 3, none⟩ = some (.int .i32 x182003_1) := (bC BK181.out 3).trans rfl
     have hfz52_0 := bF BK181.out 0
     have hfz52_1 := bF BK181.out 1
     have hfz52_2 := bF BK181.out 2
     have hfz52_3 := bF BK181.out 3
     have hnb53 := N25_.out
     have hnc53 := N24_.out
     have hnb54 := N27_.out
     have hnc54 := N26_.out
     have hnb55 := N29_.out
     have hnc55 := N28_.out
     have hnb56 := N31_.out
     have hnc56 := N30_.out
     have hcz57_0 : wr.cell? ⟨b168, 0, none⟩ = some (.int .i32 0) := (bC BK168.out 0).trans rfl
     have hcz57_1 : wr.cell? ⟨b168, 1, none⟩ = some (.int .i32 0) := (bC BK168.out 1).trans rfl
     have hcz57_2 : wr.cell? ⟨b168, 2, none⟩ = some (.int .i32 0) := (bC BK168.out 2).trans rfl
     have hcz57_3 : wr.cell? ⟨b168, 3, none⟩ = some (.int .i32 0) := (bC BK168.out 3).trans rfl
     have hfz57_0 := bF BK168.out 0
     have hfz57_1 := bF BK168.out 1
     have hfz57_2 := bF BK168.out 2
     have hfz57_3 := bF BK168.out 3
     go_wp2
     refine bodyPost_ret (results_cell_row rfl _ _ b168 29 #[.int .i32 x182000_1, .int .i32 x182001_1, .int .i32 x182002_1, .int .i32 x182003_1] (0, 0) _ rfl (by (with_reducible repeat first | apply bN | apply bD | apply bA); refine bP (cs := #[.int .i32 x182000_1, .int .i32 x182001_1, .int .i32 x182002_1, .int .i32 0]) ?_ 3 _ rfl; (with_reducible repeat first | apply bN | apply bD | apply bA); refine bP (cs := #[.int .i32 x182000_1, .int .i32 x182001_1, .int .i32 0, .int .i32 0]) ?_ 2 _ rfl; (with_reducible repeat first | apply bN | apply bD | apply bA); refine bP (cs := #[.int .i32 x182000_1, .int .i32 0, .int .i32 0, .int .i32 0]) ?_ 1 _ rfl; (with_reducible repeat first | apply bN | apply bD | apply bA); refine bP (cs := #[.int .i32 0, .int .i32 0, .int .i32 0, .int .i32 0]) ?_ 0 _ rfl; (with_reducible repeat first | apply bN | apply bD | apply bA); exact BK168.out) Try.underlying29 rfl (by kernel_rfl)) rfl ?_
     exact ⟨by first | rfl | (simp [errW_none, errW_some] <;> rfl) | (simp [*, errW_none, errW_some] <;> rfl), by repeat (first | (with_reducible first | exact HB.out | apply lA | apply lN | apply lD | refine lS ?_ GE164.out | refine lS ?_ GE165.out | refine lS ?_ GE166.out | refine lS ?_ GE167.out | refine lS ?_ GE168.out | refine lS ?_ GE181.out) | exact HB.out)⟩
 ·rw [if_neg c9] at H
  exact absurd H (by simp)

end Go.Proofs.Ytddooigcnbpliaa.Q
