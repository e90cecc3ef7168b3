-- PRINTED by print.py (a twelfth state) out of the translation. Not trusted: Lean checks it.
import Derived.Test.YtplmeknmeobanaaQ0
import Derived.Test.YtplmeknmeobanaaMkeep
import Derived.Test.YtplmeknmeobanaaQview
import Derived.Test.YtplmeknmeobanaaQwide
import Derived.Deep.RegionHeld3
import Derived.Deep.RegionWith
import Derived.Lib.Hide
import Derived.Test.YtplmeknmeobanaaMspec
namespace Go.Proofs.Ytplmeknmeobanaa.Q
open Go.RowKit.Below renaming refl → lR
open Go.RowKit Go.Proofs.YtplmeknmeobanaaW.PrintWords Go.Proofs.YtplmeknmeobanaaW.PrintLast Go.Proofs.YtplmeknmeobanaaW.PrintMore
open Go.Proofs.YtplmeknmeobanaaW.PrintWords renaming blk_drewN → bN, blk_drew → bD, blk_alloc → bA, blk_below → bB, blk_cell → bC, blk_frozen → bF, blk_lt → bL, blk_put → bP, below_alloc → lA, pw_below_drewN → lN, below_drew1 → lD, below_set → lS, below_step → lT, below_size → lZ, Aside0.mk → aM
open List renaming setIfInBounds_toArray → sA, set_cons_zero → sB, set_cons_succ → sC
open Bool renaming true → T, false → F
attribute [local go_sem] max2_int min2_int max_two min_two max_three min_three max_four min_four   -- for this text's walks alone
set_option linter.unusedVariables false
set_option linter.unusedSimpArgs false

/-! ### correct_Amount: function 10 -/
def correct_Amount.f (a0_0 : Int) (a0_1 : Int) (a0_2 : Int) (a0_3 : Int) (a0_4 : Int) (a1_0 : Int) (a1_1 : Int) (a1_2 : Int) (a1_3 : Int) (a1_4 : Int) (a1_5 : Int) (a1_6 : Int) (a1_7 : Int) (a1_8 : Int) (a1_9 : Int) (a2_0 : Int) (a2_1 : Int) (a2_2 : Int) (a2_3 : Int) (a2_4 : Int) (a2_5 : Int) (a2_6 : Int) (a2_7 : Int) (a2_8 : Int) (a2_9 : Int) : Option (Int) := if (wrap64 ((wrap64 (a0_4)) - 1024)) ≤ 0 then (some 0) else (if a1_4 = 0 then (if a2_4 = 0 then (some 0) else (some ((wrap64 ((wrap64 ((wrap64 (a0_4)) - 1024)) * 26214)) / 65536))) else (some ((wrap64 ((wrap64 ((wrap64 (a0_4)) - 1024)) * 26214)) / 65536)))
set_option maxHeartbeats 8000000 in
set_option maxRecDepth 100000 in
theorem correct_Amount.calls (a0_0 : Int) (a0_1 : Int) (a0_2 : Int) (a0_3 : Int) (a0_4 : Int) (a1_0 : Int) (a1_1 : Int) (a1_2 : Int) (a1_3 : Int) (a1_4 : Int) (a1_5 : Int) (a1_6 : Int) (a1_7 : Int) (a1_8 : Int) (a1_9 : Int) (a2_0 : Int) (a2_1 : Int) (a2_2 : Int) (a2_3 : Int) (a2_4 : Int) (a2_5 : Int) (a2_6 : Int) (a2_7 : Int) (a2_8 : Int) (a2_9 : Int) (r : Int) (w : World) (h : correct_Amount.f a0_0 a0_1 a0_2 a0_3 a0_4 a1_0 a1_1 a1_2 a1_3 a1_4 a1_5 a1_6 a1_7 a1_8 a1_9 a2_0 a2_1 a2_2 a2_3 a2_4 a2_5 a2_6 a2_7 a2_8 a2_9 = some r) :
  Calls Try.prog 10 #[.agg #[.int .u32 a0_0, .int .u32 a0_1, .int .i32 a0_2, .int .i32 a0_3, .int .i32 a0_4], .agg #[.int .u32 a1_0, .int .i32 a1_1, .int .i32 a1_2, .int .i32 a1_3, .int .i32 a1_4, .int .i32 a1_5, .int .i32 a1_6, .int .i32 a1_7, .int .i32 a1_8, .int .i32 a1_9], .agg #[.int .u32 a2_0, .int .i32 a2_1, .int .i32 a2_2, .int .i32 a2_3, .int .i32 a2_4, .int .i32 a2_5, .int .i32 a2_6, .int .i32 a2_7, .int .i32 a2_8, .int .i32 a2_9]] w fun e w' => e = .returned (.int .i64 r) ∧ Below w.heap.size w w' := by
 have hu37 := Try.underlying37
 have hu32 := Try.underlying32
 have HB := aM (Below.refl w.heap.size w)
 have H : (if (wrap64 ((wrap64 (a0_4)) - 1024)) ≤ 0 then (some 0) else (if a1_4 = 0 then (if a2_4 = 0 then (some 0) else (some ((wrap64 ((wrap64 ((wrap64 (a0_4)) - 1024)) * 26214)) / 65536))) else (some ((wrap64 ((wrap64 ((wrap64 (a0_4)) - 1024)) * 26214)) / 65536)))) = some r := h
 clear h
 by_cases c4 : (wrap64 ((wrap64 (a0_4)) - 1024)) ≤ 0
 ·rw [if_pos c4] at H
  have c4b0 : decide ((wrap64 ((wrap64 (a0_4)) - 1024)) ≤ 0) = true := decide_eq_true c4
  clear c4
  obtain rfl := Option.some.inj H
  go_enter Try.func10, Try.ntmps10
  go_wp2_with (first | ((with_reducible refine gate_dst (N := 3) rfl ?_); refine box_event ?hg (N := 3) ?hd (cs := #[.int .u32 a0_0, .int .u32 a0_1, .int .i32 a0_2, .int .i32 a0_3, .int .i32 a0_4]) (t := 37) ?hr ?_; (case hd => rfl); (case hg => rfl); (case hr => first | (go_simp; done) | (go_simp; rfl)); intro b148 hg w5 hbox hb; have n0_ := aM (lT (by repeat (first | (with_reducible first | exact HB.out | apply lA | apply lN | apply lD) | exact HB.out)) hb); have n1_ := aM (hbox); have n2_ := aM ((by rw [hg]; exact (lZ (by repeat (first | (with_reducible first | exact HB.out | apply lA | apply lN | apply lD) | exact HB.out))) : w.heap.size ≤ b148)); have n3_ := aM ((by rw [hg]; exact (lZ (by repeat (first | (with_reducible first | exact HB.out | apply lA | apply lN | apply lD) | exact HB.out))) : w.heap.size ≤ b148)); clear HB; have HB := n0_; have BK148 := n1_; have GW148 := n2_; have GE148 := n3_; clear n0_ n1_ n2_ n3_; clear hb hbox hg) | ((with_reducible refine gate_dst (N := 4) rfl ?_); refine box_event ?hg (N := 4) ?hd (cs := #[.int .u32 a1_0, .int .i32 a1_1, .int .i32 a1_2, .int .i32 a1_3, .int .i32 a1_4, .int .i32 a1_5, .int .i32 a1_6, .int .i32 a1_7, .int .i32 a1_8, .int .i32 a1_9]) (t := 32) ?hr ?_; (case hd => rfl); (case hg => rfl); (case hr => first | (go_simp; done) | (go_simp; rfl)); intro b149 hg w6 hbox hb; have n0_ := aM (bB (by (with_reducible repeat first | apply bN | apply bD | apply bA); exact BK148.out) hb); have n1_ := aM (lT (by repeat (first | (with_reducible first | exact HB.out | apply lA | apply lN | apply lD | refine lS ?_ GE148.out) | exact HB.out)) hb); have n2_ := aM (hbox); have n3_ := aM ((by rw [hg]; exact (lZ (by repeat (first | (with_reducible first | exact HB.out | apply lA | apply lN | apply lD | refine lS ?_ GE148.out) | exact HB.out))) : w.heap.size ≤ b149)); have n4_ := aM ((by rw [hg]; exact (lZ (by repeat (first | (with_reducible first | exact HB.out | apply lA | apply lN | apply lD | refine lS ?_ GE148.out) | exact HB.out))) : w.heap.size ≤ b149)); have n5_ := aM ((by rw [hg]; exact Nat.ne_of_lt (bL (g := b148) (by (with_reducible repeat first | apply bN | apply bD | apply bA); exact BK148.out)) : b148 ≠ b149)); have n6_ := aM ((by rw [hg]; exact Nat.ne_of_gt (bL (g := b148) (by (with_reducible repeat first | apply bN | apply bD | apply bA); exact BK148.out)) : b149 ≠ b148)); clear BK148; clear HB; have BK148 := n0_; have HB := n1_; have BK149 := n2_; have GW149 := n3_; have GE149 := n4_; have N0_ := n5_; have N1_ := n6_; clear n0_ n1_ n2_ n3_ n4_ n5_ n6_; clear hb hbox hg) | ((with_reducible refine gate_dst (N := 5) rfl ?_); refine box_event ?hg (N := 5) ?hd (cs := #[.int .u32 a2_0, .int .i32 a2_1, .int .i32 a2_2, .int .i32 a2_3, .int .i32 a2_4, .int .i32 a2_5, .int .i32 a2_6, .int .i32 a2_7, .int .i32 a2_8, .int .i32 a2_9]) (t := 32) ?hr ?_; (case hd => rfl); (case hg => rfl); (case hr => first | (go_simp; done) | (go_simp; rfl)); intro b150 hg w7 hbox hb; have n0_ := aM (bB (by (with_reducible repeat first | apply bN | apply bD | apply bA); exact BK148.out) hb); have n1_ := aM (bB (by (with_reducible repeat first | apply bN | apply bD | apply bA); exact BK149.out) hb); have n2_ := aM (lT (by repeat (first | (with_reducible first | exact HB.out | apply lA | apply lN | apply lD | refine lS ?_ GE148.out | refine lS ?_ GE149.out) | exact HB.out)) hb); have n3_ := aM (hbox); have n4_ := aM ((by rw [hg]; exact (lZ (by repeat (first | (with_reducible first | exact HB.out | apply lA | apply lN | apply lD | refine lS ?_ GE148.out | refine lS ?_ GE149.out) | exact HB.out))) : w.heap.size ≤ b150)); have n5_ := aM ((by rw [hg]; exact (lZ (by repeat (first | (with_reducible first | exact HB.out | apply lA | apply lN | apply lD | refine lS ?_ GE148.out | refine lS ?_ GE149.out) | exact HB.out))) : w.heap.size ≤ b150)); have n6_ := aM ((by rw [hg]; exact Nat.ne_of_lt (bL (g := b148) (by (with_reducible repeat first | apply bN | apply bD | apply bA); exact BK148.out)) : b148 ≠ b150)); have n7_ := aM ((by rw [hg]; exact Nat.ne_of_gt (bL (g := b148) (by (with_reducible repeat first | apply bN | apply bD | apply bA); exact BK148.out)) : b150 ≠ b148)); have n8_ := aM ((by rw [hg]; exact Nat.ne_of_lt (bL (g := b149) (by (with_reducible repeat first | apply bN | apply bD | apply bA); exact BK149.out)) : b149 ≠ b150)); have n9_ := aM ((by rw [hg]; exact Nat.ne_of_gt (bL (g := b149) (by (with_reducible repeat first | apply bN | apply bD | apply bA); exact BK149.out)) : b150 ≠ b149)); clear BK148; clear BK149; clear HB; have BK148 := n0_; have BK149 := n1_; have HB := n2_; have BK150 := n3_; have GW150 := n4_; have GE150 := n5_; have N2_ := n6_; have N3_ := n7_; have N4_ := n8_; have N5_ := n9_; clear n0_ n1_ n2_ n3_ n4_ n5_ n6_ n7_ n8_ n9_; clear hb hbox hg; have hnb8 := N0_.out; have hnc8 := N1_.out; have hnb9 := N2_.out; have hnc9 := N3_.out; have hcz10_0 : w7.cell? ⟨b148, 0, none⟩ = some (.int .u32 a0_0) := (bC BK148.out 0).trans rfl; have hcz10_1 : w7.cell? ⟨b148, 1, none⟩ = some (.int .u32 a0_1) := (bC BK148.out 1).trans rfl; have hcz10_2 : w7.cell? ⟨b148, 2, none⟩ = some (.int .i32 a0_2) := (bC BK148.out 2).trans rfl; have hcz10_3 : w7.cell? ⟨b148, 3, none⟩ = some (.int .i32 a0_3) := (bC BK148.out 3).trans rfl; have hcz10_4 : w7.cell? ⟨b148, 4, none⟩ = some (.int .i32 a0_4) := (bC BK148.out 4).trans rfl; have hfz10_0 := bF BK148.out 0; have hfz10_1 := bF BK148.out 1; have hfz10_2 := bF BK148.out 2; have hfz10_3 := bF BK148.out 3; have hfz10_4 := bF BK148.out 4))
  go_ret
  exact ⟨by first | rfl | (simp [errW_none, errW_some] <;> rfl) | (simp [*, errW_none, errW_some] <;> rfl), by repeat (first | (with_reducible first | exact HB.out | apply lA | apply lN | apply lD | refine lS ?_ GE148.out | refine lS ?_ GE149.out | refine lS ?_ GE150.out) | exact HB.out)⟩
 ·rw [if_neg c4] at H
  have c4b0 : decide ((wrap64 ((wrap64 (a0_4)) - 1024)) ≤ 0) = false := decide_eq_false c4
  clear c4
  by_cases c11 : a1_4 = 0
  ·rw [if_pos c11] at H
   have c11b0 : (a1_4 == 0) = true := beq_iff_eq.mpr c11
   have c11b1 : (a1_4 != 0) = false := bne_eq_false_iff_eq.mpr c11
   clear c11
   by_cases c12 : a2_4 = 0
   ·rw [if_pos c12] at H
    have c12b0 : (a2_4 == 0) = true := beq_iff_eq.mpr c12
    have c12b1 : (a2_4 != 0) = false := bne_eq_false_iff_eq.mpr c12
    clear c12
    obtain rfl := Option.some.inj H
    go_enter Try.func10, Try.ntmps10
    go_wp2_with (first | ((with_reducible refine gate_dst (N := 3) rfl ?_); refine box_event ?hg (N := 3) ?hd (cs := #[.int .u32 a0_0, .int .u32 a0_1, .int .i32 a0_2, .int .i32 a0_3, .int .i32 a0_4]) (t := 37) ?hr ?_; (case hd => rfl); (case hg => rfl); (case hr => first | (go_simp; done) | (go_simp; rfl)); intro b148 hg w13 hbox hb; have n0_ := aM (lT (by repeat (first | (with_reducible first | exact HB.out | apply lA | apply lN | apply lD) | exact HB.out)) hb); have n1_ := aM (hbox); have n2_ := aM ((by rw [hg]; exact (lZ (by repeat (first | (with_reducible first | exact HB.out | apply lA | apply lN | apply lD) | exact HB.out))) : w.heap.size ≤ b148)); have n3_ := aM ((by rw [hg]; exact (lZ (by repeat (first | (with_reducible first | exact HB.out | apply lA | apply lN | apply lD) | exact HB.out))) : w.heap.size ≤ b148)); clear HB; have HB := n0_; have BK148 := n1_; have GW148 := n2_; have GE148 := n3_; clear n0_ n1_ n2_ n3_; clear hb hbox hg) | ((with_reducible refine gate_dst (N := 4) rfl ?_); refine box_event ?hg (N := 4) ?hd (cs := #[.int .u32 a1_0, .int .i32 a1_1, .int .i32 a1_2, .int .i32 a1_3, .int .i32 a1_4, .int .i32 a1_5, .int .i32 a1_6, .int .i32 a1_7, .int .i32 a1_8, .int .i32 a1_9]) (t := 32) ?hr ?_; (case hd => rfl); (case hg => rfl); (case hr => first | (go_simp; done) | (go_simp; rfl)); intro b149 hg w14 hbox hb; have n0_ := aM (bB (by (with_reducible repeat first | apply bN | apply bD | apply bA); exact BK148.out) hb); have n1_ := aM (lT (by repeat (first | (with_reducible first | exact HB.out | apply lA | apply lN | apply lD | refine lS ?_ GE148.out) | exact HB.out)) hb); have n2_ := aM (hbox); have n3_ := aM ((by rw [hg]; exact (lZ (by repeat (first | (with_reducible first | exact HB.out | apply lA | apply lN | apply lD | refine lS ?_ GE148.out) | exact HB.out))) : w.heap.size ≤ b149)); have n4_ := aM ((by rw [hg]; exact (lZ (by repeat (first | (with_reducible first | exact HB.out | apply lA | apply lN | apply lD | refine lS ?_ GE148.out) | exact HB.out))) : w.heap.size ≤ b149)); have n5_ := aM ((by rw [hg]; exact Nat.ne_of_lt (bL (g := b148) (by (with_reducible repeat first | apply bN | apply bD | apply bA); exact BK148.out)) : b148 ≠ b149)); have n6_ := aM ((by rw [hg]; exact Nat.ne_of_gt (bL (g := b148) (by (with_reducible repeat first | apply bN | apply bD | apply bA); exact BK148.out)) : b149 ≠ b148)); clear BK148; clear HB; have BK148 := n0_; have HB := n1_; have BK149 := n2_; have GW149 := n3_; have GE149 := n4_; have N0_ := n5_; have N1_ := n6_; clear n0_ n1_ n2_ n3_ n4_ n5_ n6_; clear hb hbox hg) | ((with_reducible refine gate_dst (N := 5) rfl ?_); refine box_event ?hg (N := 5) ?hd (cs := #[.int .u32 a2_0, .int .i32 a2_1, .int .i32 a2_2, .int .i32 a2_3, .int .i32 a2_4, .int .i32 a2_5, .int .i32 a2_6, .int .i32 a2_7, .int .i32 a2_8, .int .i32 a2_9]) (t := 32) ?hr ?_; (case hd => rfl); (case hg => rfl); (case hr => first | (go_simp; done) | (go_simp; rfl)); intro b150 hg w15 hbox hb; have n0_ := aM (bB (by (with_reducible repeat first | apply bN | apply bD | apply bA); exact BK148.out) hb); have n1_ := aM (bB (by (with_reducible repeat first | apply bN | apply bD | apply bA); exact BK149.out) hb); have n2_ := aM (lT (by repeat (first | (with_reducible first | exact HB.out | apply lA | apply lN | apply lD | refine lS ?_ GE148.out | refine lS ?_ GE149.out) | exact HB.out)) hb); have n3_ := aM (hbox); have n4_ := aM ((by rw [hg]; exact (lZ (by repeat (first | (with_reducible first | exact HB.out | apply lA | apply lN | apply lD | refine lS ?_ GE148.out | refine lS ?_ GE149.out) | exact HB.out))) : w.heap.size ≤ b150)); have n5_ := aM ((by rw [hg]; exact (lZ (by repeat (first | (with_reducible first | exact HB.out | apply lA | apply lN | apply lD | refine lS ?_ GE148.out | refine lS ?_ GE149.out) | exact HB.out))) : w.heap.size ≤ b150)); have n6_ := aM ((by rw [hg]; exact Nat.ne_of_lt (bL (g := b148) (by (with_reducible repeat first | apply bN | apply bD | apply bA); exact BK148.out)) : b148 ≠ b150)); have n7_ := aM ((by rw [hg]; exact Nat.ne_of_gt (bL (g := b148) (by (with_reducible repeat first | apply bN | apply bD | apply bA); exact BK148.out)) : b150 ≠ b148)); have n8_ := aM ((by rw [hg]; exact Nat.ne_of_lt (bL (g := b149) (by (with_reducible repeat first | apply bN | apply bD | apply bA); exact BK149.out)) : b149 ≠ b150)); have n9_ := aM ((by rw [hg]; exact Nat.ne_of_gt (bL (g := b149) (by (with_reducible repeat first | apply bN | apply bD | apply bA); exact BK149.out)) : b150 ≠ b149)); clear BK148; clear BK149; clear HB; have BK148 := n0_; have BK149 := n1_; have HB := n2_; have BK150 := n3_; have GW150 := n4_; have GE150 := n5_; have N2_ := n6_; have N3_ := n7_; have N4_ := n8_; have N5_ := n9_; clear n0_ n1_ n2_ n3_ n4_ n5_ n6_ n7_ n8_ n9_; clear hb hbox hg; have hnb16 := N0_.out; have hnc16 := N1_.out; have hnb17 := N2_.out; have hnc17 := N3_.out; have hcz18_0 : w15.cell? ⟨b148, 0, none⟩ = some (.int .u32 a0_0) := (bC BK148.out 0).trans rfl; have hcz18_1 : w15.cell? ⟨b148, 1, none⟩ = some (.int .u32 a0_1) := (bC BK148.out 1).trans rfl; have hcz18_2 : w15.cell? ⟨b148, 2, none⟩ = some (.int .i32 a0_2) := (bC BK148.out 2).trans rfl; have hcz18_3 : w15.cell? ⟨b148, 3, none⟩ = some (.int .i32 a0_3) := (bC BK148.out 3).trans rfl; have hcz18_4 : w15.cell? ⟨b148, 4, none⟩ = some (.int .i32 a0_4) := (bC BK148.out 4).trans rfl; have hfz18_0 := bF BK148.out 0; have hfz18_1 := bF BK148.out 1; have hfz18_2 := bF BK148.out 2; have hfz18_3 := bF BK148.out 3; have hfz18_4 := bF BK148.out 4; have hnb19 := N4_.out; have hnc19 := N5_.out; have hcz20_0 : w15.cell? ⟨b149, 0, none⟩ = some (.int .u32 a1_0) := (bC BK149.out 0).trans rfl; have hcz20_1 : w15.cell? ⟨b149, 1, none⟩ = some (.int .i32 a1_1) := (bC BK149.out 1).trans rfl; have hcz20_2 : w15.cell? ⟨b149, 2, none⟩ = some (.int .i32 a1_2) := (bC BK149.out 2).trans rfl; have hcz20_3 : w15.cell? ⟨b149, 3, none⟩ = some (.int .i32 a1_3) := (bC BK149.out 3).trans rfl; have hcz20_4 : w15.cell? ⟨b149, 4, none⟩ = some (.int .i32 a1_4) := (bC BK149.out 4).trans rfl; have hcz20_5 : w15.cell? ⟨b149, 5, none⟩ = some (.int .i32 a1_5) := (bC BK149.out 5).trans rfl; have hcz20_6 : w15.cell? ⟨b149, 6, none⟩ = some (.int .i32 a1_6) := (bC BK149.out 6).trans rfl; have hcz20_7 : w15.cell? ⟨b149, 7, none⟩ = some (.int .i32 a1_7) := (bC BK149.out 7).trans rfl; have hcz20_8 : w15.cell? ⟨b149, 8, none⟩ = some (.int .i32 a1_8) := (bC BK149.out 8).trans rfl; have hcz20_9 : w15.cell? ⟨b149, 9, none⟩ = some (.int .i32 a1_9) := (bC BK149.out 9).trans rfl; have hfz20_0 := bF BK149.out 0; have hfz20_1 := bF BK149.out 1; have hfz20_2 := bF BK149.out 2; have hfz20_3 := bF BK149.out 3; have hfz20_4 := bF BK149.out 4; have hfz20_5 := bF BK149.out 5; have hfz20_6 := bF BK149.out 6; have hfz20_7 := bF BK149.out 7; have hfz20_8 := bF BK149.out 8; have hfz20_9 := bF BK149.out 9; have hcz21_0 : w15.cell? ⟨b150, 0, none⟩ = some (.int .u32 a2_0) := (bC BK150.out 0).trans rfl; have hcz21_1 : w15.cell? ⟨b150, 1, none⟩ = some (.int .i32 a2_1) := (bC BK150.out 1).trans rfl; have hcz21_2 : w15.cell? ⟨b150, 2, none⟩ = some (.int .i32 a2_2) := (bC BK150.out 2).trans rfl; have hcz21_3 : w15.cell? ⟨b150, 3, none⟩ = some (.int .i32 a2_3) := (bC BK150.out 3).trans rfl; have hcz21_4 : w15.cell? ⟨b150, 4, none⟩ = some (.int .i32 a2_4) := (bC BK150.out 4).trans rfl; have hcz21_5 : w15.cell? ⟨b150, 5, none⟩ = some (.int .i32 a2_5) := (bC BK150.out 5).trans rfl; have hcz21_6 : w15.cell? ⟨b150, 6, none⟩ = some (.int .i32 a2_6) := (bC BK150.out 6).trans rfl; have hcz21_7 : w15.cell? ⟨b150, 7, none⟩ = some (.int .i32 a2_7) := (bC BK150.out 7).trans rfl; have hcz21_8 : w15.cell? ⟨b150, 8, none⟩ = some (.int .i32 a2_8) := (bC BK150.out 8).trans rfl; have hcz21_9 : w15.cell? ⟨b150, 9, none⟩ = some (.int .i32 a2_9) := (bC BK150.out 9).trans rfl; have hfz21_0 := bF BK150.out 0; have hfz21_1 := bF BK150.out 1; have hfz21_2 := bF BK150.out 2; have hfz21_3 := bF BK150.out 3; have hfz21_4 := bF BK150.out 4; have hfz21_5 := bF BK150.out 5; have hfz21_6 := bF BK150.out 6; have hfz21_7 := bF BK150.out 7; have hfz21_8 := bF BK150.out 8; have hfz21_9 := bF BK150.out 9))
    go_ret
    exact ⟨by first | rfl | (simp [errW_none, errW_some] <;> rfl) | (simp [*, errW_none, errW_some] <;> rfl), by repeat (first | (with_reducible first | exact HB.out | apply lA | apply lN | apply lD | refine lS ?_ GE148.out | refine lS ?_ GE149.out | refine lS ?_ GE150.out) | exact HB.out)⟩
   ·rw [if_neg c12] at H
    have c12b0 : (a2_4 == 0) = false := beq_eq_false_iff_ne.mpr c12
    have c12b1 : (a2_4 != 0) = true := bne_iff_ne.mpr c12
    obtain rfl := Option.some.inj H
    go_enter Try.func10, Try.ntmps10
    go_wp2_with (first | ((with_reducible refine gate_dst (N := 3) rfl ?_); refine box_event ?hg (N := 3) ?hd (cs := #[.int .u32 a0_0, .int .u32 a0_1, .int .i32 a0_2, .int .i32 a0_3, .int .i32 a0_4]) (t := 37) ?hr ?_; (case hd => rfl); (case hg => rfl); (case hr => first | (go_simp; done) | (go_simp; rfl)); intro b148 hg w22 hbox hb; have n0_ := aM (lT (by repeat (first | (with_reducible first | exact HB.out | apply lA | apply lN | apply lD) | exact HB.out)) hb); have n1_ := aM (hbox); have n2_ := aM ((by rw [hg]; exact (lZ (by repeat (first | (with_reducible first | exact HB.out | apply lA | apply lN | apply lD) | exact HB.out))) : w.heap.size ≤ b148)); have n3_ := aM ((by rw [hg]; exact (lZ (by repeat (first | (with_reducible first | exact HB.out | apply lA | apply lN | apply lD) | exact HB.out))) : w.heap.size ≤ b148)); clear HB; have HB := n0_; have BK148 := n1_; have GW148 := n2_; have GE148 := n3_; clear n0_ n1_ n2_ n3_; clear hb hbox hg) | ((with_reducible refine gate_dst (N := 4) rfl ?_); refine box_event ?hg (N := 4) ?hd (cs := #[.int .u32 a1_0, .int .i32 a1_1, .int .i32 a1_2, .int .i32 a1_3, .int .i32 a1_4, .int .i32 a1_5, .int .i32 a1_6, .int .i32 a1_7, .int .i32 a1_8, .int .i32 a1_9]) (t := 32) ?hr ?_; (case hd => rfl); (case hg => rfl); (case hr => first | (go_simp; done) | (go_simp; rfl)); intro b149 hg w23 hbox hb; have n0_ := aM (bB (by (with_reducible repeat first | apply bN | apply bD | apply bA); exact BK148.out) hb); have n1_ := aM (lT (by repeat (first | (with_reducible first | exact HB.out | apply lA | apply lN | apply lD | refine lS ?_ GE148.out) | exact HB.out)) hb); have n2_ := aM (hbox); have n3_ := aM ((by rw [hg]; exact (lZ (by repeat (first | (with_reducible first | exact HB.out | apply lA | apply lN | apply lD | refine lS ?_ GE148.out) | exact HB.out))) : w.heap.size ≤ b149)); have n4_ := aM ((by rw [hg]; exact (lZ (by repeat (first | (with_reducible first | exact HB.out | apply lA | apply lN | apply lD | refine lS ?_ GE148.out) | exact HB.out))) : w.heap.size ≤ b149)); have n5_ := aM ((by rw [hg]; exact Nat.ne_of_lt (bL (g := b148) (by (with_reducible repeat first | apply bN | apply bD | apply bA); exact BK148.out)) : b148 ≠ b149)); have n6_ := aM ((by rw [hg]; exact Nat.ne_of_gt (bL (g := b148) (by (with_reducible repeat first | apply bN | apply bD | apply bA); exact BK148.out)) : b149 ≠ b148)); clear BK148; clear HB; have BK148 := n0_; have HB := n1_; have BK149 := n2_; have GW149 := n3_; have GE149 := n4_; have N0_ := n5_; have N1_ := n6_; clear n0_ n1_ n2_ n3_ n4_ n5_ n6_; clear hb hbox hg) | ((with_reducible refine gate_dst (N := 5) rfl ?_); refine box_event ?hg (N := 5) ?hd (cs := #[.int .u32 a2_0, .int .i32 a2_1, .int .i32 a2_2, .int .i32 a2_3, .int .i32 a2_4, .int .i32 a2_5, .int .i32 a2_6, .int .i32 a2_7, .int .i32 a2_8, .int .i32 a2_9]) (t := 32) ?hr ?_; (case hd => rfl); (case hg => rfl); (case hr => first | (go_simp; done) | (go_simp; rfl)); intro b150 hg w24 hbox hb; have n0_ := aM (bB (by (with_reducible repeat first | apply bN | apply bD | apply bA); exact BK148.out) hb); have n1_ := aM (bB (by (with_reducible repeat first | apply bN | apply bD | apply bA); exact BK149.out) hb); have n2_ := aM (lT (by repeat (first | (with_reducible first | exact HB.out | apply lA | apply lN | apply lD | refine lS ?_ GE148.out | refine lS ?_ GE149.out) | exact HB.out)) hb); have n3_ := aM (hbox); have n4_ := aM ((by rw [hg]; exact (lZ (by repeat (first | (with_reducible first | exact HB.out | apply lA | apply lN | apply lD | refine lS ?_ GE148.out | refine lS ?_ GE149.out) | exact HB.out))) : w.heap.size ≤ b150)); have n5_ := aM ((by rw [hg]; exact (lZ (by repeat (first | (with_reducible first | exact HB.out | apply lA | apply lN | apply lD | refine lS ?_ GE148.out | refine lS ?_ GE149.out) | exact HB.out))) : w.heap.size ≤ b150)); have n6_ := aM ((by rw [hg]; exact Nat.ne_of_lt (bL (g := b148) (by (with_reducible repeat first | apply bN | apply bD | apply bA); exact BK148.out)) : b148 ≠ b150)); have n7_ := aM ((by rw [hg]; exact Nat.ne_of_gt (bL (g := b148) (by (with_reducible repeat first | apply bN | apply bD | apply bA); exact BK148.out)) : b150 ≠ b148)); have n8_ := aM ((by rw [hg]; exact Nat.ne_of_lt (bL (g := b149) (by (with_reducible repeat first | apply bN | apply bD | apply bA); exact BK149.out)) : b149 ≠ b150)); have n9_ := aM ((by rw [hg]; exact Nat.ne_of_gt (bL (g := b149) (by (with_reducible repeat first | apply bN | apply bD | apply bA); exact BK149.out)) : b150 ≠ b149)); clear BK148; clear BK149; clear HB; have BK148 := n0_; have BK149 := n1_; have HB := n2_; have BK150 := n3_; have GW150 := n4_; have GE150 := n5_; have N2_ := n6_; have N3_ := n7_; have N4_ := n8_; have N5_ := n9_; clear n0_ n1_ n2_ n3_ n4_ n5_ n6_ n7_ n8_ n9_; clear hb hbox hg; have hnb25 := N0_.out; have hnc25 := N1_.out; have hnb26 := N2_.out; have hnc26 := N3_.out; have hcz27_0 : w24.cell? ⟨b148, 0, none⟩ = some (.int .u32 a0_0) := (bC BK148.out 0).trans rfl; have hcz27_1 : w24.cell? ⟨b148, 1, none⟩ = some (.int .u32 a0_1) := (bC BK148.out 1).trans rfl; have hcz27_2 : w24.cell? ⟨b148, 2, none⟩ = some (.int .i32 a0_2) := (bC BK148.out 2).trans rfl; have hcz27_3 : w24.cell? ⟨b148, 3, none⟩ = some (.int .i32 a0_3) := (bC BK148.out 3).trans rfl; have hcz27_4 : w24.cell? ⟨b148, 4, none⟩ = some (.int .i32 a0_4) := (bC BK148.out 4).trans rfl; have hfz27_0 := bF BK148.out 0; have hfz27_1 := bF BK148.out 1; have hfz27_2 := bF BK148.out 2; have hfz27_3 := bF BK148.out 3; have hfz27_4 := bF BK148.out 4; have hnb28 := N4_.out; have hnc28 := N5_.out; have hcz29_0 : w24.cell? ⟨b149, 0, none⟩ = some (.int .u32 a1_0) := (bC BK149.out 0).trans rfl; have hcz29_1 : w24.cell? ⟨b149, 1, none⟩ = some (.int .i32 a1_1) := (bC BK149.out 1).trans rfl; have hcz29_2 : w24.cell? ⟨b149, 2, none⟩ = some (.int .i32 a1_2) := (bC BK149.out 2).trans rfl; have hcz29_3 : w24.cell? ⟨b149, 3, none⟩ = some (.int .i32 a1_3) := (bC BK149.out 3).trans rfl; have hcz29_4 : w24.cell? ⟨b149, 4, none⟩ = some (.int .i32 a1_4) := (bC BK149.out 4).trans rfl; have hcz29_5 : w24.cell? ⟨b149, 5, none⟩ = some (.int .i32 a1_5) := (bC BK149.out 5).trans rfl; have hcz29_6 : w24.cell? ⟨b149, 6, none⟩ = some (.int .i32 a1_6) := (bC BK149.out 6).trans rfl; have hcz29_7 : w24.cell? ⟨b149, 7, none⟩ = some (.int .i32 a1_7) := (bC BK149.out 7).trans rfl; have hcz29_8 : w24.cell? ⟨b149, 8, none⟩ = some (.int .i32 a1_8) := (bC BK149.out 8).trans rfl; have hcz29_9 : w24.cell? ⟨b149, 9, none⟩ = some (.int .i32 a1_9) := (bC BK149.out 9).trans rfl; have hfz29_0 := bF BK149.out 0; have hfz29_1 := bF BK149.out 1; have hfz29_2 := bF BK149.out 2; have hfz29_3 := bF BK149.out 3; have hfz29_4 := bF BK149.out 4; have hfz29_5 := bF BK149.out 5; have hfz29_6 := bF BK149.out 6; have hfz29_7 := bF BK149.out 7; have hfz29_8 := bF BK149.out 8; have hfz29_9 := bF BK149.out 9; have hcz30_0 : w24.cell? ⟨b150, 0, none⟩ = some (.int .u32 a2_0) := (bC BK150.out 0).trans rfl; have hcz30_1 : w24.cell? ⟨b150, 1, none⟩ = some (.int .i32 a2_1) := (bC BK150.out 1).trans rfl; have hcz30_2 : w24.cell? ⟨b150, 2, none⟩ = some (.int .i32 a2_2) := (bC BK150.out 2).trans rfl; have hcz30_3 : w24.cell? ⟨b150, 3, none⟩ = some (.int .i32 a2_3) := (bC BK150.out 3).trans rfl; have hcz30_4 : w24.cell? ⟨b150, 4, none⟩ = some (.int .i32 a2_4) := (bC BK150.out 4).trans rfl; have hcz30_5 : w24.cell? ⟨b150, 5, none⟩ = some (.int .i32 a2_5) := (bC BK150.out 5).trans rfl; have hcz30_6 : w24.cell? ⟨b150, 6, none⟩ = some (.int .i32 a2_6) := (bC BK150.out 6).trans rfl; have hcz30_7 : w24.cell? ⟨b150, 7, none⟩ = some (.int .i32 a2_7) := (bC BK150.out 7).trans rfl; have hcz30_8 : w24.cell? ⟨b150, 8, none⟩ = some (.int .i32 a2_8) := (bC BK150.out 8).trans rfl; have hcz30_9 : w24.cell? ⟨b150, 9, none⟩ = some (.int .i32 a2_9) := (bC BK150.out 9).trans rfl; have hfz30_0 := bF BK150.out 0; have hfz30_1 := bF BK150.out 1; have hfz30_2 := bF BK150.out 2; have hfz30_3 := bF BK150.out 3; have hfz30_4 := bF BK150.out 4; have hfz30_5 := bF BK150.out 5; have hfz30_6 := bF BK150.out 6; have hfz30_7 := bF BK150.out 7; have hfz30_8 := bF BK150.out 8; have hfz30_9 := bF BK150.out 9))
    go_ret
    exact ⟨by first | rfl | (simp [errW_none, errW_some] <;> rfl) | (simp [*, errW_none, errW_some] <;> rfl), by repeat (first | (with_reducible first | exact HB.out | apply lA | apply lN | apply lD | refine lS ?_ GE148.out | refine lS ?_ GE149.out | refine lS ?_ GE150.out) | exact HB.out)⟩
  ·rw [if_neg c11] at H
   have c11b0 : (a1_4 == 0) = false := beq_eq_false_iff_ne.mpr c11
   have c11b1 : (a1_4 != 0) = true := bne_iff_ne.mpr c11
   obtain rfl := Option.some.inj H
   go_enter Try.func10, Try.ntmps10
   go_wp2_with (first | ((with_reducible refine gate_dst (N := 3) rfl ?_); refine box_event ?hg (N := 3) ?hd (cs := #[.int .u32 a0_0, .int .u32 a0_1, .int .i32 a0_2, .int .i32 a0_3, .int .i32 a0_4]) (t := 37) ?hr ?_; (case hd => rfl); (case hg => rfl); (case hr => first | (go_simp; done) | (go_simp; rfl)); intro b148 hg w31 hbox hb; have n0_ := aM (lT (by repeat (first | (with_reducible first | exact HB.out | apply lA | apply lN | apply lD) | exact HB.out)) hb); have n1_ := aM (hbox); have n2_ := aM ((by rw [hg]; exact (lZ (by repeat (first | (with_reducible first | exact HB.out | apply lA | apply lN | apply lD) | exact HB.out))) : w.heap.size ≤ b148)); have n3_ := aM ((by rw [hg]; exact (lZ (by repeat (first | (with_reducible first | exact HB.out | apply lA | apply lN | apply lD) | exact HB.out))) : w.heap.size ≤ b148)); clear HB; have HB := n0_; have BK148 := n1_; have GW148 := n2_; have GE148 := n3_; clear n0_ n1_ n2_ n3_; clear hb hbox hg) | ((with_reducible refine gate_dst (N := 4) rfl ?_); refine box_event ?hg (N := 4) ?hd (cs := #[.int .u32 a1_0, .int .i32 a1_1, .int .i32 a1_2, .int .i32 a1_3, .int .i32 a1_4, .int .i32 a1_5, .int .i32 a1_6, .int .i32 a1_7, .int .i32 a1_8, .int .i32 a1_9]) (t := 32) ?hr ?_; (case hd => rfl); (case hg => rfl); (case hr => first | (go_simp; done) | (go_simp; rfl)); intro b149 hg w32 hbox hb; have n0_ := aM (bB (by (with_reducible repeat first | apply bN | apply bD | apply bA); exact BK148.out) hb); have n1_ := aM (lT (by repeat (first | (with_reducible first | exact HB.out | apply lA | apply lN | apply lD | refine lS ?_ GE148.out) | exact HB.out)) hb); have n2_ := aM (hbox); have n3_ := aM ((by rw [hg]; exact (lZ (by repeat (first | (with_reducible first | exact HB.out | apply lA | apply lN | apply lD | refine lS ?_ GE148.out) | exact HB.out))) : w.heap.size ≤ b149)); have n4_ := aM ((by rw [hg]; exact (lZ (by repeat (first | (with_reducible first | exact HB.out | apply lA | apply lN | apply lD | refine lS ?_ GE148.out) | exact HB.out))) : w.heap.size ≤ b149)); have n5_ := aM ((by rw [hg]; exact Nat.ne_of_lt (bL (g := b148) (by (with_reducible repeat first | apply bN | apply bD | apply bA); exact BK148.out)) : b148 ≠ b149)); have n6_ := aM ((by rw [hg]; exact Nat.ne_of_gt (bL (g := b148) (by (with_reducible repeat first | apply bN | apply bD | apply bA); exact BK148.out)) : b149 ≠ b148)); clear BK148; clear HB; have BK148 := n0_; have HB := n1_; have BK149 := n2_; have GW149 := n3_; have GE149 := n4_; have N0_ := n5_; have N1_ := n6_; clear n0_ n1_ n2_ n3_ n4_ n5_ n6_; clear hb hbox hg) | ((with_reducible refine gate_dst (N := 5) rfl ?_); refine box_event ?hg (N := 5) ?hd (cs := #[.int .u32 a2_0, .int .i32 a2_1, .int .i32 a2_2, .int .i32 a2_3, .int .i32 a2_4, .int .i32 a2_5, .int .i32 a2_6, .int .i32 a2_7, .int .i32 a2_8, .int .i32 a2_9]) (t := 32) ?hr ?_; (case hd => rfl); (case hg => rfl); (case hr => first | (go_simp; done) | (go_simp; rfl)); intro b150 hg w33 hbox hb; have n0_ := aM (bB (by (with_reducible repeat first | apply bN | apply bD | apply bA); exact BK148.out) hb); have n1_ := aM (bB (by (with_reducible repeat first | apply bN | apply bD | apply bA); exact BK149.out) hb); have n2_ := aM (lT (by repeat (first | (with_reducible first | exact HB.out | apply lA | apply lN | apply lD | refine lS ?_ GE148.out | refine lS ?_ GE149.out) | exact HB.out)) hb); have n3_ := aM (hbox); have n4_ := aM ((by rw [hg]; exact (lZ (by repeat (first | (with_reducible first | exact HB.out | apply lA | apply lN | apply lD | refine lS ?_ GE148.out | refine lS ?_ GE149.out) | exact HB.out))) : w.heap.size ≤ b150)); have n5_ := aM ((by rw [hg]; exact (lZ (by repeat (first | (with_reducible first | exact HB.out | apply lA | apply lN | apply lD | refine lS ?_ GE148.out | refine lS ?_ GE149.out) | exact HB.out))) : w.heap.size ≤ b150)); have n6_ := aM ((by rw [hg]; exact Nat.ne_of_lt (bL (g := b148) (by (with_reducible repeat first | apply bN | apply bD | apply bA); exact BK148.out)) : b148 ≠ b150)); have n7_ := aM ((by rw [hg]; exact Nat.ne_of_gt (bL (g := b148) (by (with_reducible repeat first | apply bN | apply bD | apply bA); exact BK148.out)) : b150 ≠ b148)); have n8_ := aM ((by rw [hg]; exact Nat.ne_of_lt (bL (g := b149) (by (with_reducible repeat first | apply bN | apply bD | apply bA); exact BK149.out)) : b149 ≠ b150)); have n9_ := aM ((by rw [hg]; exact Nat.ne_of_gt (bL (g := b149) (by (with_reducible repeat first | apply bN | apply bD | apply bA); exact BK149.out)) : b150 ≠ b149)); clear BK148; clear BK149; clear HB; have BK148 := n0_; have BK149 := n1_; have HB := n2_; have BK150 := n3_; have GW150 := n4_; have GE150 := n5_; have N2_ := n6_; have N3_ := n7_; have N4_ := n8_; have N5_ := n9_; clear n0_ n1_ n2_ n3_ n4_ n5_ n6_ n7_ n8_ n9_; clear hb hbox hg; have hnb34 := N0_.out; have hnc34 := N1_.out; have hnb35 := N2_.out; have hnc35 := N3_.out; have hcz36_0 : w33.cell? ⟨b148, 0, none⟩ = some (.int .u32 a0_0) := (bC BK148.out 0).trans rfl; have hcz36_1 : w33.cell? ⟨b148, 1, none⟩ = some (.int .u32 a0_1) := (bC BK148.out 1).trans rfl; have hcz36_2 : w33.cell? ⟨b148, 2, none⟩ = some (.int .i32 a0_2) := (bC BK148.out 2).trans rfl; have hcz36_3 : w33.cell? ⟨b148, 3, none⟩ = some (.int .i32 a0_3) := (bC BK148.out 3).trans rfl; have hcz36_4 : w33.cell? ⟨b148, 4, none⟩ = some (.int .i32 a0_4) := (bC BK148.out 4).trans rfl; have hfz36_0 := bF BK148.out 0; have hfz36_1 := bF BK148.out 1; have hfz36_2 := bF BK148.out 2; have hfz36_3 := bF BK148.out 3; have hfz36_4 := bF BK148.out 4; have hnb37 := N4_.out; have hnc37 := N5_.out; have hcz38_0 : w33.cell? ⟨b149, 0, none⟩ = some (.int .u32 a1_0) := (bC BK149.out 0).trans rfl; have hcz38_1 : w33.cell? ⟨b149, 1, none⟩ = some (.int .i32 a1_1) := (bC BK149.out 1).trans rfl; have hcz38_2 : w33.cell? ⟨b149, 2, none⟩ = some (.int .i32 a1_2) := (bC BK149.out 2).trans rfl; have hcz38_3 : w33.cell? ⟨b149, 3, none⟩ = some (.int .i32 a1_3) := (bC BK149.out 3).trans rfl; have hcz38_4 : w33.cell? ⟨b149, 4, none⟩ = some (.int .i32 a1_4) := (bC BK149.out 4).trans rfl; have hcz38_5 : w33.cell? ⟨b149, 5, none⟩ = some (.int .i32 a1_5) := (bC BK149.out 5).trans rfl; have hcz38_6 : w33.cell? ⟨b149, 6, none⟩ = some (.int .i32 a1_6) := (bC BK149.out 6).trans rfl; have hcz38_7 : w33.cell? ⟨b149, 7, none⟩ = some (.int .i32 a1_7) := (bC BK149.out 7).trans rfl; have hcz38_8 : w33.cell? ⟨b149, 8, none⟩ = some (.int .i32 a1_8) := (bC BK149.out 8).trans rfl; have hcz38_9 : w33.cell? ⟨b149, 9, none⟩ = some (.int .i32 a1_9) := (bC BK149.out 9).trans rfl; have hfz38_0 := bF BK149.out 0; have hfz38_1 := bF BK149.out 1; have hfz38_2 := bF BK149.out 2; have hfz38_3 := bF BK149.out 3; have hfz38_4 := bF BK149.out 4; have hfz38_5 := bF BK149.out 5; have hfz38_6 := bF BK149.out 6; have hfz38_7 := bF BK149.out 7; have hfz38_8 := bF BK149.out 8; have hfz38_9 := bF BK149.out 9))
   go_ret
   exact ⟨by first | rfl | (simp [errW_none, errW_some] <;> rfl) | (simp [*, errW_none, errW_some] <;> rfl), by repeat (first | (with_reducible first | exact HB.out | apply lA | apply lN | apply lD | refine lS ?_ GE148.out | refine lS ?_ GE149.out | refine lS ?_ GE150.out) | exact HB.out)⟩

/-! ### correct_Share: function 12 -/
def correct_Share.f (a0_0 : Int) (a0_1 : Int) (a0_2 : Int) (a0_3 : Int) (a0_4 : Int) (a1_0 : Int) (a1_1 : Int) (a1_2 : Int) (a1_3 : Int) (a1_4 : Int) (a1_5 : Int) (a1_6 : Int) (a1_7 : Int) (a1_8 : Int) (a1_9 : Int) (a2_0 : Int) (a2_1 : Int) (a2_2 : Int) (a2_3 : Int) (a2_4 : Int) (a2_5 : Int) (a2_6 : Int) (a2_7 : Int) (a2_8 : Int) (a2_9 : Int) (a3 : Bool) : Option (Int) := if a3 = true then ((correct_Amount.f a0_0 a0_1 a0_2 a0_3 a0_4 a1_0 a1_1 a1_2 a1_3 a1_4 a1_5 a1_6 a1_7 a1_8 a1_9 a2_0 a2_1 a2_2 a2_3 a2_4 a2_5 a2_6 a2_7 a2_8 a2_9).bind fun t156 => ((wide_MulDiv.f t156 (wrap64 (a2_4)) (mx 1 (wrap64 ((wrap64 (a1_4)) + (wrap64 (a2_4)))))).bind fun bt157 => (some bt157.1))) else ((correct_Amount.f a0_0 a0_1 a0_2 a0_3 a0_4 a1_0 a1_1 a1_2 a1_3 a1_4 a1_5 a1_6 a1_7 a1_8 a1_9 a2_0 a2_1 a2_2 a2_3 a2_4 a2_5 a2_6 a2_7 a2_8 a2_9).bind fun t159 => ((wide_MulDiv.f t159 (wrap64 (a1_4)) (mx 1 (wrap64 ((wrap64 (a1_4)) + (wrap64 (a2_4)))))).bind fun bt160 => (some bt160.1)))
def correct_Share.T4 : Bool × List (List Nat × List Nat) := (true, [([], []), ([], []), ([], []), ([0, 1, 2], [0, 1, 2]), ([], []), ([4], [4]), ([], []), ([6], [6]), ([7], [7]), ([], []), ([9], [9]), ([10], [10]), ([8, 11], [8, 11]), ([12], [12]), ([3, 5, 13, 3], [3, 5, 13]), ([14], [14]), ([15], [15]), ([15], [15]), ([16, 14, 0, 1, 2, 3, 4, 5, 6, 7, 8, 9, 10, 11, 12, 13, 14, 15, 16], [16]), ([17, 18, 0, 1, 2, 3, 4, 5, 6, 7, 8, 9, 10, 11, 12, 13, 14, 15, 16, 17, 18], [17])])
def correct_Share.B4 : List Nat := [0, 0, 0, 7, 0, 16, 0, 64, 192, 0, 512, 1536, 4032, 8128, 16383, 32767, 65535, 65535, 131071, 524287]
theorem correct_Share.tab4 : rtab .any (opsOf Try.f12 4) = correct_Share.T4 := by kernel_rfl
theorem correct_Share.bits4 : waitsOk correct_Share.T4.2 correct_Share.B4 = true := by kernel_rfl
set_option maxHeartbeats 8000000 in
set_option maxRecDepth 100000 in
theorem correct_Share.calls (a0_0 : Int) (a0_1 : Int) (a0_2 : Int) (a0_3 : Int) (a0_4 : Int) (a1_0 : Int) (a1_1 : Int) (a1_2 : Int) (a1_3 : Int) (a1_4 : Int) (a1_5 : Int) (a1_6 : Int) (a1_7 : Int) (a1_8 : Int) (a1_9 : Int) (a2_0 : Int) (a2_1 : Int) (a2_2 : Int) (a2_3 : Int) (a2_4 : Int) (a2_5 : Int) (a2_6 : Int) (a2_7 : Int) (a2_8 : Int) (a2_9 : Int) (a3 : Bool) (r : Int) (w : World) (h : correct_Share.f a0_0 a0_1 a0_2 a0_3 a0_4 a1_0 a1_1 a1_2 a1_3 a1_4 a1_5 a1_6 a1_7 a1_8 a1_9 a2_0 a2_1 a2_2 a2_3 a2_4 a2_5 a2_6 a2_7 a2_8 a2_9 a3 = some r) :
  Calls Try.prog 12 #[.agg #[.int .u32 a0_0, .int .u32 a0_1, .int .i32 a0_2, .int .i32 a0_3, .int .i32 a0_4], .agg #[.int .u32 a1_0, .int .i32 a1_1, .int .i32 a1_2, .int .i32 a1_3, .int .i32 a1_4, .int .i32 a1_5, .int .i32 a1_6, .int .i32 a1_7, .int .i32 a1_8, .int .i32 a1_9], .agg #[.int .u32 a2_0, .int .i32 a2_1, .int .i32 a2_2, .int .i32 a2_3, .int .i32 a2_4, .int .i32 a2_5, .int .i32 a2_6, .int .i32 a2_7, .int .i32 a2_8, .int .i32 a2_9], .bool a3] w fun e w' => e = .returned (.int .i64 r) ∧ Below w.heap.size w w' := by
 have hu37 := Try.underlying37
 have hu32 := Try.underlying32
 have HB := aM (Below.refl w.heap.size w)
 have H : (if a3 = true then ((correct_Amount.f a0_0 a0_1 a0_2 a0_3 a0_4 a1_0 a1_1 a1_2 a1_3 a1_4 a1_5 a1_6 a1_7 a1_8 a1_9 a2_0 a2_1 a2_2 a2_3 a2_4 a2_5 a2_6 a2_7 a2_8 a2_9).bind fun t156 => ((wide_MulDiv.f t156 (wrap64 (a2_4)) (mx 1 (wrap64 ((wrap64 (a1_4)) + (wrap64 (a2_4)))))).bind fun bt157 => (some bt157.1))) else ((correct_Amount.f a0_0 a0_1 a0_2 a0_3 a0_4 a1_0 a1_1 a1_2 a1_3 a1_4 a1_5 a1_6 a1_7 a1_8 a1_9 a2_0 a2_1 a2_2 a2_3 a2_4 a2_5 a2_6 a2_7 a2_8 a2_9).bind fun t159 => ((wide_MulDiv.f t159 (wrap64 (a1_4)) (mx 1 (wrap64 ((wrap64 (a1_4)) + (wrap64 (a2_4)))))).bind fun bt160 => (some bt160.1)))) = some r := h
 clear h
 by_cases c5 : a3 = true
 ·subst c5
  rw [if_pos rfl] at H
  replace H := Option.bind_eq_some_iff.mp H
  obtain ⟨t156, A60, H⟩ := H
  try dsimp only at H
  have A6 := aM A60
  clear A60
  obtain ⟨ji7, hji7⟩ : ∃ j_ : Int, (mx 1 (wrap64 ((wrap64 (a1_4)) + (wrap64 (a2_4))))) = j_ := ⟨_, rfl⟩
  replace H : ((wide_MulDiv.f t156 (wrap64 (a2_4)) (ji7)).bind fun bt157 => (some bt157.1)) = some r := by first | (rw [hji7] at H; exact H) | (simp only [hji7] at H ⊢; exact H)
  (try rw [hji7] at A6)
  (try (have hji7l : 1 ≤ ji7 := by (rw [← hji7]; unfold mx; (repeat' split) <;> omega)))
  (try (have hji7m : 0 ≤ ji7 := by omega))
  have hji7_ : (if 1 < (wrap64 ((wrap64 (a1_4)) + (wrap64 (a2_4)))) then (wrap64 ((wrap64 (a1_4)) + (wrap64 (a2_4)))) else 1) = ji7 := hji7
  replace H := Option.bind_eq_some_iff.mp H
  obtain ⟨⟨t157, t158⟩, A80, H⟩ := H
  try dsimp only at H
  have A8 := aM A80
  clear A80
  obtain rfl := Option.some.inj H
  go_enter Try.func12, Try.ntmps12
  try go_wp2_with (first | ((with_reducible refine gate_dst (N := 4) rfl ?_); refine box_event ?hg (N := 4) ?hd (cs := #[.int .u32 a0_0, .int .u32 a0_1, .int .i32 a0_2, .int .i32 a0_3, .int .i32 a0_4]) (t := 37) ?hr ?_; (case hd => rfl); (case hg => rfl); (case hr => first | (go_simp; done) | (go_simp; rfl)); intro b153 hg w9 hbox hb; have n0_ := aM (lT (by repeat (first | (with_reducible first | exact HB.out | apply lA | apply lN | apply lD) | exact HB.out)) hb); have n1_ := aM (hbox); have n2_ := aM ((by rw [hg]; exact (lZ (by repeat (first | (with_reducible first | exact HB.out | apply lA | apply lN | apply lD) | exact HB.out))) : w.heap.size ≤ b153)); have n3_ := aM ((by rw [hg]; exact (lZ (by repeat (first | (with_reducible first | exact HB.out | apply lA | apply lN | apply lD) | exact HB.out))) : w.heap.size ≤ b153)); clear HB; have HB := n0_; have BK153 := n1_; have GW153 := n2_; have GE153 := n3_; clear n0_ n1_ n2_ n3_; clear hb hbox hg) | ((with_reducible refine gate_dst (N := 5) rfl ?_); refine box_event ?hg (N := 5) ?hd (cs := #[.int .u32 a1_0, .int .i32 a1_1, .int .i32 a1_2, .int .i32 a1_3, .int .i32 a1_4, .int .i32 a1_5, .int .i32 a1_6, .int .i32 a1_7, .int .i32 a1_8, .int .i32 a1_9]) (t := 32) ?hr ?_; (case hd => rfl); (case hg => rfl); (case hr => first | (go_simp; done) | (go_simp; rfl)); intro b154 hg w10 hbox hb; have n0_ := aM (bB (by (with_reducible repeat first | apply bN | apply bD | apply bA); exact BK153.out) hb); have n1_ := aM (lT (by repeat (first | (with_reducible first | exact HB.out | apply lA | apply lN | apply lD | refine lS ?_ GE153.out) | exact HB.out)) hb); have n2_ := aM (hbox); have n3_ := aM ((by rw [hg]; exact (lZ (by repeat (first | (with_reducible first | exact HB.out | apply lA | apply lN | apply lD | refine lS ?_ GE153.out) | exact HB.out))) : w.heap.size ≤ b154)); have n4_ := aM ((by rw [hg]; exact (lZ (by repeat (first | (with_reducible first | exact HB.out | apply lA | apply lN | apply lD | refine lS ?_ GE153.out) | exact HB.out))) : w.heap.size ≤ b154)); have n5_ := aM ((by rw [hg]; exact Nat.ne_of_lt (bL (g := b153) (by (with_reducible repeat first | apply bN | apply bD | apply bA); exact BK153.out)) : b153 ≠ b154)); have n6_ := aM ((by rw [hg]; exact Nat.ne_of_gt (bL (g := b153) (by (with_reducible repeat first | apply bN | apply bD | apply bA); exact BK153.out)) : b154 ≠ b153)); clear BK153; clear HB; have BK153 := n0_; have HB := n1_; have BK154 := n2_; have GW154 := n3_; have GE154 := n4_; have N6_ := n5_; have N7_ := n6_; clear n0_ n1_ n2_ n3_ n4_ n5_ n6_; clear hb hbox hg) | ((with_reducible refine gate_dst (N := 6) rfl ?_); refine box_event ?hg (N := 6) ?hd (cs := #[.int .u32 a2_0, .int .i32 a2_1, .int .i32 a2_2, .int .i32 a2_3, .int .i32 a2_4, .int .i32 a2_5, .int .i32 a2_6, .int .i32 a2_7, .int .i32 a2_8, .int .i32 a2_9]) (t := 32) ?hr ?_; (case hd => rfl); (case hg => rfl); (case hr => first | (go_simp; done) | (go_simp; rfl)); intro b155 hg w11 hbox hb; have n0_ := aM (bB (by (with_reducible repeat first | apply bN | apply bD | apply bA); exact BK153.out) hb); have n1_ := aM (bB (by (with_reducible repeat first | apply bN | apply bD | apply bA); exact BK154.out) hb); have n2_ := aM (lT (by repeat (first | (with_reducible first | exact HB.out | apply lA | apply lN | apply lD | refine lS ?_ GE153.out | refine lS ?_ GE154.out) | exact HB.out)) hb); have n3_ := aM (hbox); have n4_ := aM ((by rw [hg]; exact (lZ (by repeat (first | (with_reducible first | exact HB.out | apply lA | apply lN | apply lD | refine lS ?_ GE153.out | refine lS ?_ GE154.out) | exact HB.out))) : w.heap.size ≤ b155)); have n5_ := aM ((by rw [hg]; exact (lZ (by repeat (first | (with_reducible first | exact HB.out | apply lA | apply lN | apply lD | refine lS ?_ GE153.out | refine lS ?_ GE154.out) | exact HB.out))) : w.heap.size ≤ b155)); have n6_ := aM ((by rw [hg]; exact Nat.ne_of_lt (bL (g := b153) (by (with_reducible repeat first | apply bN | apply bD | apply bA); exact BK153.out)) : b153 ≠ b155)); have n7_ := aM ((by rw [hg]; exact Nat.ne_of_gt (bL (g := b153) (by (with_reducible repeat first | apply bN | apply bD | apply bA); exact BK153.out)) : b155 ≠ b153)); have n8_ := aM ((by rw [hg]; exact Nat.ne_of_lt (bL (g := b154) (by (with_reducible repeat first | apply bN | apply bD | apply bA); exact BK154.out)) : b154 ≠ b155)); have n9_ := aM ((by rw [hg]; exact Nat.ne_of_gt (bL (g := b154) (by (with_reducible repeat first | apply bN | apply bD | apply bA); exact BK154.out)) : b155 ≠ b154)); clear BK153; clear BK154; clear HB; have BK153 := n0_; have BK154 := n1_; have HB := n2_; have BK155 := n3_; have GW155 := n4_; have GE155 := n5_; have N8_ := n6_; have N9_ := n7_; have N10_ := n8_; have N11_ := n9_; clear n0_ n1_ n2_ n3_ n4_ n5_ n6_ n7_ n8_ n9_; clear hb hbox hg; have hnb12 := N7_.out; have hnc12 := N6_.out; have hnb13 := N10_.out; have hnc13 := N11_.out; have hcz14_0 : w11.cell? ⟨b154, 0, none⟩ = some (.int .u32 a1_0) := (bC BK154.out 0).trans rfl; have hcz14_1 : w11.cell? ⟨b154, 1, none⟩ = some (.int .i32 a1_1) := (bC BK154.out 1).trans rfl; have hcz14_2 : w11.cell? ⟨b154, 2, none⟩ = some (.int .i32 a1_2) := (bC BK154.out 2).trans rfl; have hcz14_3 : w11.cell? ⟨b154, 3, none⟩ = some (.int .i32 a1_3) := (bC BK154.out 3).trans rfl; have hcz14_4 : w11.cell? ⟨b154, 4, none⟩ = some (.int .i32 a1_4) := (bC BK154.out 4).trans rfl; have hcz14_5 : w11.cell? ⟨b154, 5, none⟩ = some (.int .i32 a1_5) := (bC BK154.out 5).trans rfl; have hcz14_6 : w11.cell? ⟨b154, 6, none⟩ = some (.int .i32 a1_6) := (bC BK154.out 6).trans rfl; have hcz14_7 : w11.cell? ⟨b154, 7, none⟩ = some (.int .i32 a1_7) := (bC BK154.out 7).trans rfl; have hcz14_8 : w11.cell? ⟨b154, 8, none⟩ = some (.int .i32 a1_8) := (bC BK154.out 8).trans rfl; have hcz14_9 : w11.cell? ⟨b154, 9, none⟩ = some (.int .i32 a1_9) := (bC BK154.out 9).trans rfl; have hfz14_0 := bF BK154.out 0; have hfz14_1 := bF BK154.out 1; have hfz14_2 := bF BK154.out 2; have hfz14_3 := bF BK154.out 3; have hfz14_4 := bF BK154.out 4; have hfz14_5 := bF BK154.out 5; have hfz14_6 := bF BK154.out 6; have hfz14_7 := bF BK154.out 7; have hfz14_8 := bF BK154.out 8; have hfz14_9 := bF BK154.out 9; have hnb15 := N9_.out; have hnc15 := N8_.out; have hcz16_0 : w11.cell? ⟨b155, 0, none⟩ = some (.int .u32 a2_0) := (bC BK155.out 0).trans rfl; have hcz16_1 : w11.cell? ⟨b155, 1, none⟩ = some (.int .i32 a2_1) := (bC BK155.out 1).trans rfl; have hcz16_2 : w11.cell? ⟨b155, 2, none⟩ = some (.int .i32 a2_2) := (bC BK155.out 2).trans rfl; have hcz16_3 : w11.cell? ⟨b155, 3, none⟩ = some (.int .i32 a2_3) := (bC BK155.out 3).trans rfl; have hcz16_4 : w11.cell? ⟨b155, 4, none⟩ = some (.int .i32 a2_4) := (bC BK155.out 4).trans rfl; have hcz16_5 : w11.cell? ⟨b155, 5, none⟩ = some (.int .i32 a2_5) := (bC BK155.out 5).trans rfl; have hcz16_6 : w11.cell? ⟨b155, 6, none⟩ = some (.int .i32 a2_6) := (bC BK155.out 6).trans rfl; have hcz16_7 : w11.cell? ⟨b155, 7, none⟩ = some (.int .i32 a2_7) := (bC BK155.out 7).trans rfl; have hcz16_8 : w11.cell? ⟨b155, 8, none⟩ = some (.int .i32 a2_8) := (bC BK155.out 8).trans rfl; have hcz16_9 : w11.cell? ⟨b155, 9, none⟩ = some (.int .i32 a2_9) := (bC BK155.out 9).trans rfl; have hfz16_0 := bF BK155.out 0; have hfz16_1 := bF BK155.out 1; have hfz16_2 := bF BK155.out 2; have hfz16_3 := bF BK155.out 3; have hfz16_4 := bF BK155.out 4; have hfz16_5 := bF BK155.out 5; have hfz16_6 := bF BK155.out 6; have hfz16_7 := bF BK155.out 7; have hfz16_8 := bF BK155.out 8; have hfz16_9 := bF BK155.out 9))
  have n_ := kA3 BK153 BK154 BK155 HB (lD (lR _ _))
  clear BK153 BK154 BK155 HB
  obtain ⟨BK153, BK154, BK155, HB⟩ := n_
  refine start_ (n := 20) (S := fun w' => w'.cell? ⟨b153, 0, none⟩ = some (.int .u32 a0_0) ∧ w'.cell? ⟨b153, 1, none⟩ = some (.int .u32 a0_1) ∧ w'.cell? ⟨b153, 2, none⟩ = some (.int .i32 a0_2) ∧ w'.cell? ⟨b153, 3, none⟩ = some (.int .i32 a0_3) ∧ w'.cell? ⟨b153, 4, none⟩ = some (.int .i32 a0_4) ∧ w'.cell? ⟨b154, 0, none⟩ = some (.int .u32 a1_0) ∧ w'.cell? ⟨b154, 1, none⟩ = some (.int .i32 a1_1) ∧ w'.cell? ⟨b154, 2, none⟩ = some (.int .i32 a1_2) ∧ w'.cell? ⟨b154, 3, none⟩ = some (.int .i32 a1_3) ∧ w'.cell? ⟨b154, 4, none⟩ = some (.int .i32 a1_4) ∧ w'.cell? ⟨b154, 5, none⟩ = some (.int .i32 a1_5) ∧ w'.cell? ⟨b154, 6, none⟩ = some (.int .i32 a1_6) ∧ w'.cell? ⟨b154, 7, none⟩ = some (.int .i32 a1_7) ∧ w'.cell? ⟨b154, 8, none⟩ = some (.int .i32 a1_8) ∧ w'.cell? ⟨b154, 9, none⟩ = some (.int .i32 a1_9) ∧ w'.cell? ⟨b155, 0, none⟩ = some (.int .u32 a2_0) ∧ w'.cell? ⟨b155, 1, none⟩ = some (.int .i32 a2_1) ∧ w'.cell? ⟨b155, 2, none⟩ = some (.int .i32 a2_2) ∧ w'.cell? ⟨b155, 3, none⟩ = some (.int .i32 a2_3) ∧ w'.cell? ⟨b155, 4, none⟩ = some (.int .i32 a2_4) ∧ w'.cell? ⟨b155, 5, none⟩ = some (.int .i32 a2_5) ∧ w'.cell? ⟨b155, 6, none⟩ = some (.int .i32 a2_6) ∧ w'.cell? ⟨b155, 7, none⟩ = some (.int .i32 a2_7) ∧ w'.cell? ⟨b155, 8, none⟩ = some (.int .i32 a2_8) ∧ w'.cell? ⟨b155, 9, none⟩ = some (.int .i32 a2_9)) (ds := []) #[F,F,F,F,F,F,F,F,F,F,F,F,F,F,F,F,F,F,F,F] (by kernel_rfl) rfl rfl ⟨(bC BK153.out 0).trans rfl, (bC BK153.out 1).trans rfl, (bC BK153.out 2).trans rfl, (bC BK153.out 3).trans rfl, (bC BK153.out 4).trans rfl, (bC BK154.out 0).trans rfl, (bC BK154.out 1).trans rfl, (bC BK154.out 2).trans rfl, (bC BK154.out 3).trans rfl, (bC BK154.out 4).trans rfl, (bC BK154.out 5).trans rfl, (bC BK154.out 6).trans rfl, (bC BK154.out 7).trans rfl, (bC BK154.out 8).trans rfl, (bC BK154.out 9).trans rfl, (bC BK155.out 0).trans rfl, (bC BK155.out 1).trans rfl, (bC BK155.out 2).trans rfl, (bC BK155.out 3).trans rfl, (bC BK155.out 4).trans rfl, (bC BK155.out 5).trans rfl, (bC BK155.out 6).trans rfl, (bC BK155.out 7).trans rfl, (bC BK155.out 8).trans rfl, (bC BK155.out 9).trans rfl⟩ (fun hHeld => ?_); refine with_tabW correct_Share.tab4 correct_Share.bits4 (fun HT_ HW_ => ?_)
  generalize w11.drew = w17 at BK153 BK154 BK155 HB hHeld ⊢
  refine pure_ (i := 4) (N := some 22) (v := ?_) (a' := ?_) #[F,F,F,F,T,F,F,F,F,F,F,F,F,F,F,F,F,F,F,F] rfl rfl (any_of HT_.out (by kernel_rfl)) (fun _ _ _ h => h) (Or.inl ⟨by rfl, ?_⟩) ?_ ?_
  rotate_left
  ·intro w'
   go_simp
   with_reducible rfl
  rotate_left
  ·simp only [Act.put, sA, sB, sC, i64_w, i32_w]
   rfl
  refine pure_ (i := 5) (N := some 23) (v := ?_) (a' := ?_) #[F,F,F,F,T,T,F,F,F,F,F,F,F,F,F,F,F,F,F,F] rfl rfl (any_of HT_.out (by kernel_rfl)) (fun _ _ _ h => h) (Or.inl ⟨by rfl, ?_⟩) ?_ ?_
  rotate_left
  ·intro w'
   go_simp
   with_reducible rfl
  rotate_left
  ·simp only [Act.put, sA, sB, sC, i64_w, i32_w]
   rfl
  refine pure_ (i := 6) (N := some 24) (v := ?_) (a' := ?_) #[F,F,F,F,T,T,T,F,F,F,F,F,F,F,F,F,F,F,F,F] rfl rfl (any_of HT_.out (by kernel_rfl)) (fun _ _ _ h => h) (Or.inl ⟨by rfl, ?_⟩) ?_ ?_
  rotate_left
  ·intro w'
   go_simp
   with_reducible rfl
  rotate_left
  ·simp only [Act.put, sA, sB, sC, i64_w, i32_w]
   rfl
  refine pure_ (i := 9) (N := some 27) (v := ?_) (a' := ?_) #[F,F,F,F,T,T,T,F,F,T,F,F,F,F,F,F,F,F,F,F] rfl rfl (any_of HT_.out (by kernel_rfl)) (fun _ _ _ h => h) (Or.inl ⟨by rfl, ?_⟩) ?_ ?_
  rotate_left
  ·intro w'
   go_simp
   with_reducible rfl
  rotate_left
  ·simp only [Act.put, sA, sB, sC, i64_w, i32_w]
   rfl
  refine take_ (i := 0) (N := some 18) (v := ?_) (a' := ?_) #[T,F,F,F,T,T,T,F,F,T,F,F,F,F,F,F,F,F,F,F] rfl rfl (take_ofW HT_.out HW_.out (by kernel_rfl)) (fun _ _ _ h => h) (Or.inl ⟨by rfl, ?_⟩) hHeld ?_ ?_
  rotate_left
  ·rintro w' ⟨s0, s1, s2, s3, s4, s5, s6, s7, s8, s9, s10, s11, s12, s13, s14, s15, s16, s17, s18, s19, s20, s21, s22, s23, s24⟩
   go_simp
   with_reducible rfl
  rotate_left
  ·simp only [Act.put, sA, sB, sC, i64_w, i32_w]
   rfl
  refine take_ (i := 1) (N := some 19) (v := ?_) (a' := ?_) #[T,T,F,F,T,T,T,F,F,T,F,F,F,F,F,F,F,F,F,F] rfl rfl (take_ofW HT_.out HW_.out (by kernel_rfl)) (fun _ _ _ h => h) (Or.inl ⟨by rfl, ?_⟩) hHeld ?_ ?_
  rotate_left
  ·rintro w' ⟨s0, s1, s2, s3, s4, s5, s6, s7, s8, s9, s10, s11, s12, s13, s14, s15, s16, s17, s18, s19, s20, s21, s22, s23, s24⟩
   go_simp
   with_reducible rfl
  rotate_left
  ·simp only [Act.put, sA, sB, sC, i64_w, i32_w]
   rfl
  refine take_ (i := 2) (N := some 20) (v := ?_) (a' := ?_) #[T,T,T,F,T,T,T,F,F,T,F,F,F,F,F,F,F,F,F,F] rfl rfl (take_ofW HT_.out HW_.out (by kernel_rfl)) (fun _ _ _ h => h) (Or.inl ⟨by rfl, ?_⟩) hHeld ?_ ?_
  rotate_left
  ·rintro w' ⟨s0, s1, s2, s3, s4, s5, s6, s7, s8, s9, s10, s11, s12, s13, s14, s15, s16, s17, s18, s19, s20, s21, s22, s23, s24⟩
   go_simp
   with_reducible rfl
  rotate_left
  ·simp only [Act.put, sA, sB, sC, i64_w, i32_w]
   rfl
  refine take_ (i := 7) (N := some 25) (v := ?_) (a' := ?_) #[T,T,T,F,T,T,T,T,F,T,F,F,F,F,F,F,F,F,F,F] rfl rfl (take_ofW HT_.out HW_.out (by kernel_rfl)) (fun _ _ _ h => h) (Or.inl ⟨by rfl, ?_⟩) hHeld ?_ ?_
  rotate_left
  ·rintro w' ⟨s0, s1, s2, s3, s4, s5, s6, s7, s8, s9, s10, s11, s12, s13, s14, s15, s16, s17, s18, s19, s20, s21, s22, s23, s24⟩
   go_simp
   with_reducible rfl
  rotate_left
  ·simp only [Act.put, sA, sB, sC, i64_w, i32_w]
   rfl
  refine pure_ (i := 8) (N := some 26) (v := ?_) (a' := ?_) #[T,T,T,F,T,T,T,T,T,T,F,F,F,F,F,F,F,F,F,F] rfl rfl (any_of HT_.out (by kernel_rfl)) (fun _ _ _ h => h) (Or.inl ⟨by rfl, ?_⟩) ?_ ?_
  rotate_left
  ·intro w'
   go_simp
   with_reducible rfl
  rotate_left
  ·simp only [Act.put, sA, sB, sC, i64_w, i32_w]
   rfl
  refine take_ (i := 10) (N := some 28) (v := ?_) (a' := ?_) #[T,T,T,F,T,T,T,T,T,T,T,F,F,F,F,F,F,F,F,F] rfl rfl (take_ofW HT_.out HW_.out (by kernel_rfl)) (fun _ _ _ h => h) (Or.inl ⟨by rfl, ?_⟩) hHeld ?_ ?_
  rotate_left
  ·rintro w' ⟨s0, s1, s2, s3, s4, s5, s6, s7, s8, s9, s10, s11, s12, s13, s14, s15, s16, s17, s18, s19, s20, s21, s22, s23, s24⟩
   go_simp
   with_reducible rfl
  rotate_left
  ·simp only [Act.put, sA, sB, sC, i64_w, i32_w]
   rfl
  refine pure_ (i := 11) (N := some 29) (v := ?_) (a' := ?_) #[T,T,T,F,T,T,T,T,T,T,T,T,F,F,F,F,F,F,F,F] rfl rfl (any_of HT_.out (by kernel_rfl)) (fun _ _ _ h => h) (Or.inl ⟨by rfl, ?_⟩) ?_ ?_
  rotate_left
  ·intro w'
   go_simp
   with_reducible rfl
  rotate_left
  ·simp only [Act.put, sA, sB, sC, i64_w, i32_w]
   rfl
  refine pure_ (i := 12) (N := some 30) (v := ?_) (a' := ?_) #[T,T,T,F,T,T,T,T,T,T,T,T,T,F,F,F,F,F,F,F] rfl rfl (any_of HT_.out (by kernel_rfl)) (fun _ _ _ h => h) (Or.inl ⟨by rfl, ?_⟩) ?_ ?_
  rotate_left
  ·intro w'
   go_simp
   with_reducible rfl
  rotate_left
  ·simp only [Act.put, sA, sB, sC, i64_w, i32_w]
   rfl
  refine pure_ (i := 13) (N := some 31) (v := ?_) (a' := ?_) #[T,T,T,F,T,T,T,T,T,T,T,T,T,T,F,F,F,F,F,F] rfl rfl (any_of HT_.out (by kernel_rfl)) (fun _ _ _ h => h) (Or.inl ⟨by rfl, ?_⟩) ?_ ?_
  rotate_left
  ·intro w'
   go_simp
   with_reducible rfl
  rotate_left
  ·simp only [Act.put, sA, sB, sC, i64_w, i32_w]
   rfl
  refine one_ (i := 3) (N := some 21) #[T,T,T,T,T,T,T,T,T,T,T,T,T,T,F,F,F,F,F,F] rfl rfl (one_of HT_.out (by kernel_rfl)) (by decide) (fun K hK => ?_)
  refine goes_ Try.func10 (by kernel_rfl) rfl #[.agg #[.int .u32 a0_0, .int .u32 a0_1, .int .i32 a0_2, .int .i32 a0_3, .int .i32 a0_4], .agg #[.int .u32 a1_0, .int .i32 a1_1, .int .i32 a1_2, .int .i32 a1_3, .int .i32 a1_4, .int .i32 a1_5, .int .i32 a1_6, .int .i32 a1_7, .int .i32 a1_8, .int .i32 a1_9], .agg #[.int .u32 a2_0, .int .i32 a2_1, .int .i32 a2_2, .int .i32 a2_3, .int .i32 a2_4, .int .i32 a2_5, .int .i32 a2_6, .int .i32 a2_7, .int .i32 a2_8, .int .i32 a2_9]] (by rfl) rfl rfl (by (try simp only [List.map_toArray, List.map_cons, List.map_nil]); first | done | rfl | (simp only [List.length_drop, List.length_take]; rfl)) ?_
  with_reducible refine (correct_Amount.calls a0_0 a0_1 a0_2 a0_3 a0_4 a1_0 a1_1 a1_2 a1_3 a1_4 a1_5 a1_6 a1_7 a1_8 a1_9 a2_0 a2_1 a2_2 a2_3 a2_4 a2_5 a2_6 a2_7 a2_8 a2_9 t156 _ A6.out).mono ?_
  rintro e w18 ⟨rfl, hb⟩
  refine ⟨_, rfl, ?_⟩
  have n_ := kB3 BK153 BK154 BK155 HB (by repeat first | exact lR _ _ | apply lN | apply lD | apply lA) hb
  clear BK153 BK154 BK155 HB
  obtain ⟨BK153, BK154, BK155, HB⟩ := n_
  (try clear hb)
  (try clear hb2)
  (try clear hk)
  (try clear hi)
  refine hK.out _ _ ⟨(bC BK153.out 0).trans rfl, (bC BK153.out 1).trans rfl, (bC BK153.out 2).trans rfl, (bC BK153.out 3).trans rfl, (bC BK153.out 4).trans rfl, (bC BK154.out 0).trans rfl, (bC BK154.out 1).trans rfl, (bC BK154.out 2).trans rfl, (bC BK154.out 3).trans rfl, (bC BK154.out 4).trans rfl, (bC BK154.out 5).trans rfl, (bC BK154.out 6).trans rfl, (bC BK154.out 7).trans rfl, (bC BK154.out 8).trans rfl, (bC BK154.out 9).trans rfl, (bC BK155.out 0).trans rfl, (bC BK155.out 1).trans rfl, (bC BK155.out 2).trans rfl, (bC BK155.out 3).trans rfl, (bC BK155.out 4).trans rfl, (bC BK155.out 5).trans rfl, (bC BK155.out 6).trans rfl, (bC BK155.out 7).trans rfl, (bC BK155.out 8).trans rfl, (bC BK155.out 9).trans rfl⟩ (fun hHeld => ?_)
  clear hK K
  refine norm_ (a' := ?_) ?_ ?_
  rotate_left
  ·show Act.put _ (some 21) _ = _
   simp only [Act.put, sA, sB, sC, i64_w, i32_w]
   rfl
  refine one_ (i := 14) (N := some 32) #[T,T,T,T,T,T,T,T,T,T,T,T,T,T,T,F,F,F,F,F] rfl rfl (one_of HT_.out (by kernel_rfl)) (by decide) (fun K hK => ?_)
  refine goes_ Try.func22 (by kernel_rfl) rfl #[.int .i64 t156, .int .i64 (wrap64 (a2_4)), .int .i64 ji7] (by rfl) rfl rfl (by (try simp only [List.map_toArray, List.map_cons, List.map_nil]); first | done | (simp only [hji7]; rfl) | rfl | (simp only [List.length_drop, List.length_take]; rfl)) ?_
  with_reducible refine (wide_MulDiv.calls t156 (wrap64 (a2_4)) ji7 t157 t158 _ A8.out).mono ?_
  rintro e w19 ⟨rfl, hb⟩
  refine ⟨_, rfl, ?_⟩
  have n_ := kB3 BK153 BK154 BK155 HB (by repeat first | exact lR _ _ | apply lN | apply lD | apply lA) hb
  clear BK153 BK154 BK155 HB
  obtain ⟨BK153, BK154, BK155, HB⟩ := n_
  (try clear hb)
  (try clear hb2)
  (try clear hk)
  (try clear hi)
  refine hK.out _ _ ⟨(bC BK153.out 0).trans rfl, (bC BK153.out 1).trans rfl, (bC BK153.out 2).trans rfl, (bC BK153.out 3).trans rfl, (bC BK153.out 4).trans rfl, (bC BK154.out 0).trans rfl, (bC BK154.out 1).trans rfl, (bC BK154.out 2).trans rfl, (bC BK154.out 3).trans rfl, (bC BK154.out 4).trans rfl, (bC BK154.out 5).trans rfl, (bC BK154.out 6).trans rfl, (bC BK154.out 7).trans rfl, (bC BK154.out 8).trans rfl, (bC BK154.out 9).trans rfl, (bC BK155.out 0).trans rfl, (bC BK155.out 1).trans rfl, (bC BK155.out 2).trans rfl, (bC BK155.out 3).trans rfl, (bC BK155.out 4).trans rfl, (bC BK155.out 5).trans rfl, (bC BK155.out 6).trans rfl, (bC BK155.out 7).trans rfl, (bC BK155.out 8).trans rfl, (bC BK155.out 9).trans rfl⟩ (fun hHeld => ?_)
  clear hK K
  refine norm_ (a' := ?_) ?_ ?_
  rotate_left
  ·show Act.put _ (some 32) _ = _
   simp only [Act.put, sA, sB, sC, i64_w, i32_w]
   rfl
  refine pure_ (i := 15) (N := some 17) (v := ?_) (a' := ?_) #[T,T,T,T,T,T,T,T,T,T,T,T,T,T,T,T,F,F,F,F] rfl rfl (any_of HT_.out (by kernel_rfl)) (fun _ _ _ h => h) (Or.inl ⟨by rfl, ?_⟩) ?_ ?_
  rotate_left
  ·intro w'
   go_simp
   with_reducible rfl
  rotate_left
  ·simp only [Act.put, sA, sB, sC, i64_w, i32_w]
   rfl
  refine pure_ (i := 16) (N := some 33) (v := ?_) (a' := ?_) #[T,T,T,T,T,T,T,T,T,T,T,T,T,T,T,T,T,F,F,F] rfl rfl (any_of HT_.out (by kernel_rfl)) (fun _ _ _ h => h) (Or.inl ⟨by rfl, ?_⟩) ?_ ?_
  rotate_left
  ·intro w'
   go_simp
   with_reducible rfl
  rotate_left
  ·simp only [Act.put, sA, sB, sC, i64_w, i32_w]
   rfl
  refine pure_ (i := 17) (N := some 34) (v := ?_) (a' := ?_) #[T,T,T,T,T,T,T,T,T,T,T,T,T,T,T,T,T,T,F,F] rfl rfl (any_of HT_.out (by kernel_rfl)) (fun _ _ _ h => h) (Or.inl ⟨by rfl, ?_⟩) ?_ ?_
  rotate_left
  ·intro w'
   go_simp
   with_reducible rfl
  rotate_left
  ·simp only [Act.put, sA, sB, sC, i64_w, i32_w]
   rfl
  refine pure_ (i := 18) (N := some 10) (v := ?_) (a' := ?_) #[T,T,T,T,T,T,T,T,T,T,T,T,T,T,T,T,T,T,T,F] rfl rfl (any_of HT_.out (by kernel_rfl)) (fun _ _ _ h => h) (Or.inl ⟨by rfl, ?_⟩) ?_ ?_
  rotate_left
  ·intro w'
   go_simp
   with_reducible rfl
  rotate_left
  ·simp only [Act.put, sA, sB, sC, i64_w, i32_w]
   rfl
  refine pure_ (i := 19) (N := some 11) (v := ?_) (a' := ?_) #[T,T,T,T,T,T,T,T,T,T,T,T,T,T,T,T,T,T,T,T] rfl rfl (any_of HT_.out (by kernel_rfl)) (fun _ _ _ h => h) (Or.inl ⟨by rfl, ?_⟩) ?_ ?_
  rotate_left
  ·intro w'
   go_simp
   with_reducible rfl
  rotate_left
  ·simp only [Act.put, sA, sB, sC, i64_w, i32_w]
   rfl
  refine done_ (done_of HT_.out (by kernel_rfl)) ?_
  try go_wp2
  go_ret
  exact ⟨by first | rfl | (simp [errW_none, errW_some] <;> rfl) | (simp only [← hji7]; first | rfl | (simp [errW_none, errW_some] <;> rfl)) | (simp [*, errW_none, errW_some] <;> rfl), by repeat (first | (with_reducible first | exact HB.out | apply lA | apply lN | apply lD | refine lS ?_ GE153.out | refine lS ?_ GE154.out | refine lS ?_ GE155.out) | exact HB.out)⟩
 ·replace c5 := Bool.eq_false_iff.mpr c5
  subst c5
  rw [if_neg (show ¬ (false = true) by decide)] at H
  replace H := Option.bind_eq_some_iff.mp H
  obtain ⟨t159, A200, H⟩ := H
  try dsimp only at H
  have A20 := aM A200
  clear A200
  obtain ⟨ji21, hji21⟩ : ∃ j_ : Int, (mx 1 (wrap64 ((wrap64 (a1_4)) + (wrap64 (a2_4))))) = j_ := ⟨_, rfl⟩
  replace H : ((wide_MulDiv.f t159 (wrap64 (a1_4)) (ji21)).bind fun bt160 => (some bt160.1)) = some r := by first | (rw [hji21] at H; exact H) | (simp only [hji21] at H ⊢; exact H)
  (try rw [hji21] at A20)
  (try (have hji21l : 1 ≤ ji21 := by (rw [← hji21]; unfold mx; (repeat' split) <;> omega)))
  (try (have hji21m : 0 ≤ ji21 := by omega))
  have hji21_ : (if 1 < (wrap64 ((wrap64 (a1_4)) + (wrap64 (a2_4)))) then (wrap64 ((wrap64 (a1_4)) + (wrap64 (a2_4)))) else 1) = ji21 := hji21
  replace H := Option.bind_eq_some_iff.mp H
  obtain ⟨⟨t160, t161⟩, A220, H⟩ := H
  try dsimp only at H
  have A22 := aM A220
  clear A220
  obtain rfl := Option.some.inj H
  go_enter Try.func12, Try.ntmps12
  try go_wp2_with (first | ((with_reducible refine gate_dst (N := 4) rfl ?_); refine box_event ?hg (N := 4) ?hd (cs := #[.int .u32 a0_0, .int .u32 a0_1, .int .i32 a0_2, .int .i32 a0_3, .int .i32 a0_4]) (t := 37) ?hr ?_; (case hd => rfl); (case hg => rfl); (case hr => first | (go_simp; done) | (go_simp; rfl)); intro b153 hg w23 hbox hb; have n0_ := aM (lT (by repeat (first | (with_reducible first | exact HB.out | apply lA | apply lN | apply lD) | exact HB.out)) hb); have n1_ := aM (hbox); have n2_ := aM ((by rw [hg]; exact (lZ (by repeat (first | (with_reducible first | exact HB.out | apply lA | apply lN | apply lD) | exact HB.out))) : w.heap.size ≤ b153)); have n3_ := aM ((by rw [hg]; exact (lZ (by repeat (first | (with_reducible first | exact HB.out | apply lA | apply lN | apply lD) | exact HB.out))) : w.heap.size ≤ b153)); clear HB; have HB := n0_; have BK153 := n1_; have GW153 := n2_; have GE153 := n3_; clear n0_ n1_ n2_ n3_; clear hb hbox hg) | ((with_reducible refine gate_dst (N := 5) rfl ?_); refine box_event ?hg (N := 5) ?hd (cs := #[.int .u32 a1_0, .int .i32 a1_1, .int .i32 a1_2, .int .i32 a1_3, .int .i32 a1_4, .int .i32 a1_5, .int .i32 a1_6, .int .i32 a1_7, .int .i32 a1_8, .int .i32 a1_9]) (t := 32) ?hr ?_; (case hd => rfl); (case hg => rfl); (case hr => first | (go_simp; done) | (go_simp; rfl)); intro b154 hg w24 hbox hb; have n0_ := aM (bB (by (with_reducible repeat first | apply bN | apply bD | apply bA); exact BK153.out) hb); have n1_ := aM (lT (by repeat (first | (with_reducible first | exact HB.out | apply lA | apply lN | apply lD | refine lS ?_ GE153.out) | exact HB.out)) hb); have n2_ := aM (hbox); have n3_ := aM ((by rw [hg]; exact (lZ (by repeat (first | (with_reducible first | exact HB.out | apply lA | apply lN | apply lD | refine lS ?_ GE153.out) | exact HB.out))) : w.heap.size ≤ b154)); have n4_ := aM ((by rw [hg]; exact (lZ (by repeat (first | (with_reducible first | exact HB.out | apply lA | apply lN | apply lD | refine lS ?_ GE153.out) | exact HB.out))) : w.heap.size ≤ b154)); have n5_ := aM ((by rw [hg]; exact Nat.ne_of_lt (bL (g := b153) (by (with_reducible repeat first | apply bN | apply bD | apply bA); exact BK153.out)) : b153 ≠ b154)); have n6_ := aM ((by rw [hg]; exact Nat.ne_of_gt (bL (g := b153) (by (with_reducible repeat first | apply bN | apply bD | apply bA); exact BK153.out)) : b154 ≠ b153)); clear BK153; clear HB; have BK153 := n0_; have HB := n1_; have BK154 := n2_; have GW154 := n3_; have GE154 := n4_; have N6_ := n5_; have N7_ := n6_; clear n0_ n1_ n2_ n3_ n4_ n5_ n6_; clear hb hbox hg) | ((with_reducible refine gate_dst (N := 6) rfl ?_); refine box_event ?hg (N := 6) ?hd (cs := #[.int .u32 a2_0, .int .i32 a2_1, .int .i32 a2_2, .int .i32 a2_3, .int .i32 a2_4, .int .i32 a2_5, .int .i32 a2_6, .int .i32 a2_7, .int .i32 a2_8, .int .i32 a2_9]) (t := 32) ?hr ?_; (case hd => rfl); (case hg => rfl); (case hr => first | (go_simp; done) | (go_simp; rfl)); intro b155 hg w25 hbox hb; have n0_ := aM (bB (by (with_reducible repeat first | apply bN | apply bD | apply bA); exact BK153.out) hb); have n1_ := aM (bB (by (with_reducible repeat first | apply bN | apply bD | apply bA); exact BK154.out) hb); have n2_ := aM (lT (by repeat (first | (with_reducible first | exact HB.out | apply lA | apply lN | apply lD | refine lS ?_ GE153.out | refine lS ?_ GE154.out) | exact HB.out)) hb); have n3_ := aM (hbox); have n4_ := aM ((by rw [hg]; exact (lZ (by repeat (first | (with_reducible first | exact HB.out | apply lA | apply lN | apply lD | refine lS ?_ GE153.out | refine lS ?_ GE154.out) | exact HB.out))) : w.heap.size ≤ b155)); have n5_ := aM ((by rw [hg]; exact (lZ (by repeat (first | (with_reducible first | exact HB.out | apply lA | apply lN | apply lD | refine lS ?_ GE153.out | refine lS ?_ GE154.out) | exact HB.out))) : w.heap.size ≤ b155)); have n6_ := aM ((by rw [hg]; exact Nat.ne_of_lt (bL (g := b153) (by (with_reducible repeat first | apply bN | apply bD | apply bA); exact BK153.out)) : b153 ≠ b155)); have n7_ := aM ((by rw [hg]; exact Nat.ne_of_gt (bL (g := b153) (by (with_reducible repeat first | apply bN | apply bD | apply bA); exact BK153.out)) : b155 ≠ b153)); have n8_ := aM ((by rw [hg]; exact Nat.ne_of_lt (bL (g := b154) (by (with_reducible repeat first | apply bN | apply bD | apply bA); exact BK154.out)) : b154 ≠ b155)); have n9_ := aM ((by rw [hg]; exact Nat.ne_of_gt (bL (g := b154) (by (with_reducible repeat first | apply bN | apply bD | apply bA); exact BK154.out)) : b155 ≠ b154)); clear BK153; clear BK154; clear HB; have BK153 := n0_; have BK154 := n1_; have HB := n2_; have BK155 := n3_; have GW155 := n4_; have GE155 := n5_; have N8_ := n6_; have N9_ := n7_; have N10_ := n8_; have N11_ := n9_; clear n0_ n1_ n2_ n3_ n4_ n5_ n6_ n7_ n8_ n9_; clear hb hbox hg; have hnb26 := N7_.out; have hnc26 := N6_.out; have hnb27 := N10_.out; have hnc27 := N11_.out; have hcz28_0 : w25.cell? ⟨b154, 0, none⟩ = some (.int .u32 a1_0) := (bC BK154.out 0).trans rfl; have hcz28_1 : w25.cell? ⟨b154, 1, none⟩ = some (.int .i32 a1_1) := (bC BK154.out 1).trans rfl; have hcz28_2 : w25.cell? ⟨b154, 2, none⟩ = some (.int .i32 a1_2) := (bC BK154.out 2).trans rfl; have hcz28_3 : w25.cell? ⟨b154, 3, none⟩ = some (.int .i32 a1_3) := (bC BK154.out 3).trans rfl; have hcz28_4 : w25.cell? ⟨b154, 4, none⟩ = some (.int .i32 a1_4) := (bC BK154.out 4).trans rfl; have hcz28_5 : w25.cell? ⟨b154, 5, none⟩ = some (.int .i32 a1_5) := (bC BK154.out 5).trans rfl; have hcz28_6 : w25.cell? ⟨b154, 6, none⟩ = some (.int .i32 a1_6) := (bC BK154.out 6).trans rfl; have hcz28_7 : w25.cell? ⟨b154, 7, none⟩ = some (.int .i32 a1_7) := (bC BK154.out 7).trans rfl; have hcz28_8 : w25.cell? ⟨b154, 8, none⟩ = some (.int .i32 a1_8) := (bC BK154.out 8).trans rfl; have hcz28_9 : w25.cell? ⟨b154, 9, none⟩ = some (.int .i32 a1_9) := (bC BK154.out 9).trans rfl; have hfz28_0 := bF BK154.out 0; have hfz28_1 := bF BK154.out 1; have hfz28_2 := bF BK154.out 2; have hfz28_3 := bF BK154.out 3; have hfz28_4 := bF BK154.out 4; have hfz28_5 := bF BK154.out 5; have hfz28_6 := bF BK154.out 6; have hfz28_7 := bF BK154.out 7; have hfz28_8 := bF BK154.out 8; have hfz28_9 := bF BK154.out 9))
  have n_ := kA3 BK153 BK154 BK155 HB (lD (lR _ _))
  clear BK153 BK154 BK155 HB
  obtain ⟨BK153, BK154, BK155, HB⟩ := n_
  refine start_ (n := 20) (S := fun w' => w'.cell? ⟨b153, 0, none⟩ = some (.int .u32 a0_0) ∧ w'.cell? ⟨b153, 1, none⟩ = some (.int .u32 a0_1) ∧ w'.cell? ⟨b153, 2, none⟩ = some (.int .i32 a0_2) ∧ w'.cell? ⟨b153, 3, none⟩ = some (.int .i32 a0_3) ∧ w'.cell? ⟨b153, 4, none⟩ = some (.int .i32 a0_4) ∧ w'.cell? ⟨b154, 0, none⟩ = some (.int .u32 a1_0) ∧ w'.cell? ⟨b154, 1, none⟩ = some (.int .i32 a1_1) ∧ w'.cell? ⟨b154, 2, none⟩ = some (.int .i32 a1_2) ∧ w'.cell? ⟨b154, 3, none⟩ = some (.int .i32 a1_3) ∧ w'.cell? ⟨b154, 4, none⟩ = some (.int .i32 a1_4) ∧ w'.cell? ⟨b154, 5, none⟩ = some (.int .i32 a1_5) ∧ w'.cell? ⟨b154, 6, none⟩ = some (.int .i32 a1_6) ∧ w'.cell? ⟨b154, 7, none⟩ = some (.int .i32 a1_7) ∧ w'.cell? ⟨b154, 8, none⟩ = some (.int .i32 a1_8) ∧ w'.cell? ⟨b154, 9, none⟩ = some (.int .i32 a1_9) ∧ w'.cell? ⟨b155, 0, none⟩ = some (.int .u32 a2_0) ∧ w'.cell? ⟨b155, 1, none⟩ = some (.int .i32 a2_1) ∧ w'.cell? ⟨b155, 2, none⟩ = some (.int .i32 a2_2) ∧ w'.cell? ⟨b155, 3, none⟩ = some (.int .i32 a2_3) ∧ w'.cell? ⟨b155, 4, none⟩ = some (.int .i32 a2_4) ∧ w'.cell? ⟨b155, 5, none⟩ = some (.int .i32 a2_5) ∧ w'.cell? ⟨b155, 6, none⟩ = some (.int .i32 a2_6) ∧ w'.cell? ⟨b155, 7, none⟩ = some (.int .i32 a2_7) ∧ w'.cell? ⟨b155, 8, none⟩ = some (.int .i32 a2_8) ∧ w'.cell? ⟨b155, 9, none⟩ = some (.int .i32 a2_9)) (ds := []) #[F,F,F,F,F,F,F,F,F,F,F,F,F,F,F,F,F,F,F,F] (by kernel_rfl) rfl rfl ⟨(bC BK153.out 0).trans rfl, (bC BK153.out 1).trans rfl, (bC BK153.out 2).trans rfl, (bC BK153.out 3).trans rfl, (bC BK153.out 4).trans rfl, (bC BK154.out 0).trans rfl, (bC BK154.out 1).trans rfl, (bC BK154.out 2).trans rfl, (bC BK154.out 3).trans rfl, (bC BK154.out 4).trans rfl, (bC BK154.out 5).trans rfl, (bC BK154.out 6).trans rfl, (bC BK154.out 7).trans rfl, (bC BK154.out 8).trans rfl, (bC BK154.out 9).trans rfl, (bC BK155.out 0).trans rfl, (bC BK155.out 1).trans rfl, (bC BK155.out 2).trans rfl, (bC BK155.out 3).trans rfl, (bC BK155.out 4).trans rfl, (bC BK155.out 5).trans rfl, (bC BK155.out 6).trans rfl, (bC BK155.out 7).trans rfl, (bC BK155.out 8).trans rfl, (bC BK155.out 9).trans rfl⟩ (fun hHeld => ?_); refine with_tabW correct_Share.tab4 correct_Share.bits4 (fun HT_ HW_ => ?_)
  generalize w25.drew = w29 at BK153 BK154 BK155 HB hHeld ⊢
  refine pure_ (i := 4) (N := some 22) (v := ?_) (a' := ?_) #[F,F,F,F,T,F,F,F,F,F,F,F,F,F,F,F,F,F,F,F] rfl rfl (any_of HT_.out (by kernel_rfl)) (fun _ _ _ h => h) (Or.inl ⟨by rfl, ?_⟩) ?_ ?_
  rotate_left
  ·intro w'
   go_simp
   with_reducible rfl
  rotate_left
  ·simp only [Act.put, sA, sB, sC, i64_w, i32_w]
   rfl
  refine pure_ (i := 5) (N := some 23) (v := ?_) (a' := ?_) #[F,F,F,F,T,T,F,F,F,F,F,F,F,F,F,F,F,F,F,F] rfl rfl (any_of HT_.out (by kernel_rfl)) (fun _ _ _ h => h) (Or.inl ⟨by rfl, ?_⟩) ?_ ?_
  rotate_left
  ·intro w'
   go_simp
   with_reducible rfl
  rotate_left
  ·simp only [Act.put, sA, sB, sC, i64_w, i32_w]
   rfl
  refine pure_ (i := 6) (N := some 24) (v := ?_) (a' := ?_) #[F,F,F,F,T,T,T,F,F,F,F,F,F,F,F,F,F,F,F,F] rfl rfl (any_of HT_.out (by kernel_rfl)) (fun _ _ _ h => h) (Or.inl ⟨by rfl, ?_⟩) ?_ ?_
  rotate_left
  ·intro w'
   go_simp
   with_reducible rfl
  rotate_left
  ·simp only [Act.put, sA, sB, sC, i64_w, i32_w]
   rfl
  refine pure_ (i := 9) (N := some 27) (v := ?_) (a' := ?_) #[F,F,F,F,T,T,T,F,F,T,F,F,F,F,F,F,F,F,F,F] rfl rfl (any_of HT_.out (by kernel_rfl)) (fun _ _ _ h => h) (Or.inl ⟨by rfl, ?_⟩) ?_ ?_
  rotate_left
  ·intro w'
   go_simp
   with_reducible rfl
  rotate_left
  ·simp only [Act.put, sA, sB, sC, i64_w, i32_w]
   rfl
  refine take_ (i := 0) (N := some 18) (v := ?_) (a' := ?_) #[T,F,F,F,T,T,T,F,F,T,F,F,F,F,F,F,F,F,F,F] rfl rfl (take_ofW HT_.out HW_.out (by kernel_rfl)) (fun _ _ _ h => h) (Or.inl ⟨by rfl, ?_⟩) hHeld ?_ ?_
  rotate_left
  ·rintro w' ⟨s0, s1, s2, s3, s4, s5, s6, s7, s8, s9, s10, s11, s12, s13, s14, s15, s16, s17, s18, s19, s20, s21, s22, s23, s24⟩
   go_simp
   with_reducible rfl
  rotate_left
  ·simp only [Act.put, sA, sB, sC, i64_w, i32_w]
   rfl
  refine take_ (i := 1) (N := some 19) (v := ?_) (a' := ?_) #[T,T,F,F,T,T,T,F,F,T,F,F,F,F,F,F,F,F,F,F] rfl rfl (take_ofW HT_.out HW_.out (by kernel_rfl)) (fun _ _ _ h => h) (Or.inl ⟨by rfl, ?_⟩) hHeld ?_ ?_
  rotate_left
  ·rintro w' ⟨s0, s1, s2, s3, s4, s5, s6, s7, s8, s9, s10, s11, s12, s13, s14, s15, s16, s17, s18, s19, s20, s21, s22, s23, s24⟩
   go_simp
   with_reducible rfl
  rotate_left
  ·simp only [Act.put, sA, sB, sC, i64_w, i32_w]
   rfl
  refine take_ (i := 2) (N := some 20) (v := ?_) (a' := ?_) #[T,T,T,F,T,T,T,F,F,T,F,F,F,F,F,F,F,F,F,F] rfl rfl (take_ofW HT_.out HW_.out (by kernel_rfl)) (fun _ _ _ h => h) (Or.inl ⟨by rfl, ?_⟩) hHeld ?_ ?_
  rotate_left
  ·rintro w' ⟨s0, s1, s2, s3, s4, s5, s6, s7, s8, s9, s10, s11, s12, s13, s14, s15, s16, s17, s18, s19, s20, s21, s22, s23, s24⟩
   go_simp
   with_reducible rfl
  rotate_left
  ·simp only [Act.put, sA, sB, sC, i64_w, i32_w]
   rfl
  refine take_ (i := 7) (N := some 25) (v := ?_) (a' := ?_) #[T,T,T,F,T,T,T,T,F,T,F,F,F,F,F,F,F,F,F,F] rfl rfl (take_ofW HT_.out HW_.out (by kernel_rfl)) (fun _ _ _ h => h) (Or.inl ⟨by rfl, ?_⟩) hHeld ?_ ?_
  rotate_left
  ·rintro w' ⟨s0, s1, s2, s3, s4, s5, s6, s7, s8, s9, s10, s11, s12, s13, s14, s15, s16, s17, s18, s19, s20, s21, s22, s23, s24⟩
   go_simp
   with_reducible rfl
  rotate_left
  ·simp only [Act.put, sA, sB, sC, i64_w, i32_w]
   rfl
  refine pure_ (i := 8) (N := some 26) (v := ?_) (a' := ?_) #[T,T,T,F,T,T,T,T,T,T,F,F,F,F,F,F,F,F,F,F] rfl rfl (any_of HT_.out (by kernel_rfl)) (fun _ _ _ h => h) (Or.inl ⟨by rfl, ?_⟩) ?_ ?_
  rotate_left
  ·intro w'
   go_simp
   with_reducible rfl
  rotate_left
  ·simp only [Act.put, sA, sB, sC, i64_w, i32_w]
   rfl
  refine take_ (i := 10) (N := some 28) (v := ?_) (a' := ?_) #[T,T,T,F,T,T,T,T,T,T,T,F,F,F,F,F,F,F,F,F] rfl rfl (take_ofW HT_.out HW_.out (by kernel_rfl)) (fun _ _ _ h => h) (Or.inl ⟨by rfl, ?_⟩) hHeld ?_ ?_
  rotate_left
  ·rintro w' ⟨s0, s1, s2, s3, s4, s5, s6, s7, s8, s9, s10, s11, s12, s13, s14, s15, s16, s17, s18, s19, s20, s21, s22, s23, s24⟩
   go_simp
   with_reducible rfl
  rotate_left
  ·simp only [Act.put, sA, sB, sC, i64_w, i32_w]
   rfl
  refine pure_ (i := 11) (N := some 29) (v := ?_) (a' := ?_) #[T,T,T,F,T,T,T,T,T,T,T,T,F,F,F,F,F,F,F,F] rfl rfl (any_of HT_.out (by kernel_rfl)) (fun _ _ _ h => h) (Or.inl ⟨by rfl, ?_⟩) ?_ ?_
  rotate_left
  ·intro w'
   go_simp
   with_reducible rfl
  rotate_left
  ·simp only [Act.put, sA, sB, sC, i64_w, i32_w]
   rfl
  refine pure_ (i := 12) (N := some 30) (v := ?_) (a' := ?_) #[T,T,T,F,T,T,T,T,T,T,T,T,T,F,F,F,F,F,F,F] rfl rfl (any_of HT_.out (by kernel_rfl)) (fun _ _ _ h => h) (Or.inl ⟨by rfl, ?_⟩) ?_ ?_
  rotate_left
  ·intro w'
   go_simp
   with_reducible rfl
  rotate_left
  ·simp only [Act.put, sA, sB, sC, i64_w, i32_w]
   rfl
  refine pure_ (i := 13) (N := some 31) (v := ?_) (a' := ?_) #[T,T,T,F,T,T,T,T,T,T,T,T,T,T,F,F,F,F,F,F] rfl rfl (any_of HT_.out (by kernel_rfl)) (fun _ _ _ h => h) (Or.inl ⟨by rfl, ?_⟩) ?_ ?_
  rotate_left
  ·intro w'
   go_simp
   with_reducible rfl
  rotate_left
  ·simp only [Act.put, sA, sB, sC, i64_w, i32_w]
   rfl
  refine one_ (i := 3) (N := some 21) #[T,T,T,T,T,T,T,T,T,T,T,T,T,T,F,F,F,F,F,F] rfl rfl (one_of HT_.out (by kernel_rfl)) (by decide) (fun K hK => ?_)
  refine goes_ Try.func10 (by kernel_rfl) rfl #[.agg #[.int .u32 a0_0, .int .u32 a0_1, .int .i32 a0_2, .int .i32 a0_3, .int .i32 a0_4], .agg #[.int .u32 a1_0, .int .i32 a1_1, .int .i32 a1_2, .int .i32 a1_3, .int .i32 a1_4, .int .i32 a1_5, .int .i32 a1_6, .int .i32 a1_7, .int .i32 a1_8, .int .i32 a1_9], .agg #[.int .u32 a2_0, .int .i32 a2_1, .int .i32 a2_2, .int .i32 a2_3, .int .i32 a2_4, .int .i32 a2_5, .int .i32 a2_6, .int .i32 a2_7, .int .i32 a2_8, .int .i32 a2_9]] (by rfl) rfl rfl (by (try simp only [List.map_toArray, List.map_cons, List.map_nil]); first | done | rfl | (simp only [List.length_drop, List.length_take]; rfl)) ?_
  with_reducible refine (correct_Amount.calls a0_0 a0_1 a0_2 a0_3 a0_4 a1_0 a1_1 a1_2 a1_3 a1_4 a1_5 a1_6 a1_7 a1_8 a1_9 a2_0 a2_1 a2_2 a2_3 a2_4 a2_5 a2_6 a2_7 a2_8 a2_9 t159 _ A20.out).mono ?_
  rintro e w30 ⟨rfl, hb⟩
  refine ⟨_, rfl, ?_⟩
  have n_ := kB3 BK153 BK154 BK155 HB (by repeat first | exact lR _ _ | apply lN | apply lD | apply lA) hb
  clear BK153 BK154 BK155 HB
  obtain ⟨BK153, BK154, BK155, HB⟩ := n_
  (try clear hb)
  (try clear hb2)
  (try clear hk)
  (try clear hi)
  refine hK.out _ _ ⟨(bC BK153.out 0).trans rfl, (bC BK153.out 1).trans rfl, (bC BK153.out 2).trans rfl, (bC BK153.out 3).trans rfl, (bC BK153.out 4).trans rfl, (bC BK154.out 0).trans rfl, (bC BK154.out 1).trans rfl, (bC BK154.out 2).trans rfl, (bC BK154.out 3).trans rfl, (bC BK154.out 4).trans rfl, (bC BK154.out 5).trans rfl, (bC BK154.out 6).trans rfl, (bC BK154.out 7).trans rfl, (bC BK154.out 8).trans rfl, (bC BK154.out 9).trans rfl, (bC BK155.out 0).trans rfl, (bC BK155.out 1).trans rfl, (bC BK155.out 2).trans rfl, (bC BK155.out 3).trans rfl, (bC BK155.out 4).trans rfl, (bC BK155.out 5).trans rfl, (bC BK155.out 6).trans rfl, (bC BK155.out 7).trans rfl, (bC BK155.out 8).trans rfl, (bC BK155.out 9).trans rfl⟩ (fun hHeld => ?_)
  clear hK K
  refine norm_ (a' := ?_) ?_ ?_
  rotate_left
  ·show Act.put _ (some 21) _ = _
   simp only [Act.put, sA, sB, sC, i64_w, i32_w]
   rfl
  refine one_ (i := 14) (N := some 32) #[T,T,T,T,T,T,T,T,T,T,T,T,T,T,T,F,F,F,F,F] rfl rfl (one_of HT_.out (by kernel_rfl)) (by decide) (fun K hK => ?_)
  refine goes_ Try.func22 (by kernel_rfl) rfl #[.int .i64 t159, .int .i64 (wrap64 (a1_4)), .int .i64 ji21] (by rfl) rfl rfl (by (try simp only [List.map_toArray, List.map_cons, List.map_nil]); first | done | (simp only [hji21]; rfl) | rfl | (simp only [List.length_drop, List.length_take]; rfl)) ?_
  with_reducible refine (wide_MulDiv.calls t159 (wrap64 (a1_4)) ji21 t160 t161 _ A22.out).mono ?_
  rintro e w31 ⟨rfl, hb⟩
  refine ⟨_, rfl, ?_⟩
  have n_ := kB3 BK153 BK154 BK155 HB (by repeat first | exact lR _ _ | apply lN | apply lD | apply lA) hb
  clear BK153 BK154 BK155 HB
  obtain ⟨BK153, BK154, BK155, HB⟩ := n_
  (try clear hb)
  (try clear hb2)
  (try clear hk)
  (try clear hi)
  refine hK.out _ _ ⟨(bC BK153.out 0).trans rfl, (bC BK153.out 1).trans rfl, (bC BK153.out 2).trans rfl, (bC BK153.out 3).trans rfl, (bC BK153.out 4).trans rfl, (bC BK154.out 0).trans rfl, (bC BK154.out 1).trans rfl, (bC BK154.out 2).trans rfl, (bC BK154.out 3).trans rfl, (bC BK154.out 4).trans rfl, (bC BK154.out 5).trans rfl, (bC BK154.out 6).trans rfl, (bC BK154.out 7).trans rfl, (bC BK154.out 8).trans rfl, (bC BK154.out 9).trans rfl, (bC BK155.out 0).trans rfl, (bC BK155.out 1).trans rfl, (bC BK155.out 2).trans rfl, (bC BK155.out 3).trans rfl, (bC BK155.out 4).trans rfl, (bC BK155.out 5).trans rfl, (bC BK155.out 6).trans rfl, (bC BK155.out 7).trans rfl, (bC BK155.out 8).trans rfl, (bC BK155.out 9).trans rfl⟩ (fun hHeld => ?_)
  clear hK K
  refine norm_ (a' := ?_) ?_ ?_
  rotate_left
  ·show Act.put _ (some 32) _ = _
   simp only [Act.put, sA, sB, sC, i64_w, i32_w]
   rfl
  refine pure_ (i := 15) (N := some 17) (v := ?_) (a' := ?_) #[T,T,T,T,T,T,T,T,T,T,T,T,T,T,T,T,F,F,F,F] rfl rfl (any_of HT_.out (by kernel_rfl)) (fun _ _ _ h => h) (Or.inl ⟨by rfl, ?_⟩) ?_ ?_
  rotate_left
  ·intro w'
   go_simp
   with_reducible rfl
  rotate_left
  ·simp only [Act.put, sA, sB, sC, i64_w, i32_w]
   rfl
  refine pure_ (i := 16) (N := some 33) (v := ?_) (a' := ?_) #[T,T,T,T,T,T,T,T,T,T,T,T,T,T,T,T,T,F,F,F] rfl rfl (any_of HT_.out (by kernel_rfl)) (fun _ _ _ h => h) (Or.inl ⟨by rfl, ?_⟩) ?_ ?_
  rotate_left
  ·intro w'
   go_simp
   with_reducible rfl
  rotate_left
  ·simp only [Act.put, sA, sB, sC, i64_w, i32_w]
   rfl
  refine pure_ (i := 17) (N := some 34) (v := ?_) (a' := ?_) #[T,T,T,T,T,T,T,T,T,T,T,T,T,T,T,T,T,T,F,F] rfl rfl (any_of HT_.out (by kernel_rfl)) (fun _ _ _ h => h) (Or.inl ⟨by rfl, ?_⟩) ?_ ?_
  rotate_left
  ·intro w'
   go_simp
   with_reducible rfl
  rotate_left
  ·simp only [Act.put, sA, sB, sC, i64_w, i32_w]
   rfl
  refine pure_ (i := 18) (N := some 10) (v := ?_) (a' := ?_) #[T,T,T,T,T,T,T,T,T,T,T,T,T,T,T,T,T,T,T,F] rfl rfl (any_of HT_.out (by kernel_rfl)) (fun _ _ _ h => h) (Or.inl ⟨by rfl, ?_⟩) ?_ ?_
  rotate_left
  ·intro w'
   go_simp
   with_reducible rfl
  rotate_left
  ·simp only [Act.put, sA, sB, sC, i64_w, i32_w]
   rfl
  refine pure_ (i := 19) (N := some 11) (v := ?_) (a' := ?_) #[T,T,T,T,T,T,T,T,T,T,T,T,T,T,T,T,T,T,T,T] rfl rfl (any_of HT_.out (by kernel_rfl)) (fun _ _ _ h => h) (Or.inl ⟨by rfl, ?_⟩) ?_ ?_
  rotate_left
  ·intro w'
   go_simp
   with_reducible rfl
  rotate_left
  ·simp only [Act.put, sA, sB, sC, i64_w, i32_w]
   rfl
  refine done_ (done_of HT_.out (by kernel_rfl)) ?_
  try go_wp2
  go_ret
  exact ⟨by first | rfl | (simp [errW_none, errW_some] <;> rfl) | (simp only [← hji21]; first | rfl | (simp [errW_none, errW_some] <;> rfl)) | (simp [*, errW_none, errW_some] <;> rfl), by repeat (first | (with_reducible first | exact HB.out | apply lA | apply lN | apply lD | refine lS ?_ GE153.out | refine lS ?_ GE154.out | refine lS ?_ GE155.out) | exact HB.out)⟩

/-! ### correct_Shifts: function 16 (given) -/
-- IMPORT Derived.Test.YtplmeknmeobanaaMspec
-- IMPORT Derived.Lib.Hide
-- IMPORT Derived.Deep.RegionHeld3
-- IMPORT Derived.Deep.RegionWith
-- NEEDS billiard/view.Find
-- NEEDS billiard/correct.Share
/-- One of the two coordinates of a body's shift: a contact's part added. -/
def shiftV (s : S48) (share sign nx ny : Int) : S48 := ⟨wrap64 (s.f0 + wrap64 (sign * (wrap64 (share * wrap64 nx) / 65536))), wrap64 (s.f1 + wrap64 (sign * (wrap64 (share * wrap64 ny) / 65536)))⟩
/-- The contacts in turn: both bodies of each are found, and moved by their shares. -/
def shiftsL (v : List S32) : List S37 → List S48 → Option (List S48)
 | [], xs => some xs
 | c :: l, xs => (view_Find.f v c.f0.f0).bind fun p => (view_Find.f v c.f0.f1).bind fun q => if p.1 < (v.length : Int) ∧ q.1 < (v.length : Int) then
   (let a := rd_T32 v p.1; let b := rd_T32 v q.1
    (correct_Share.f c.f0.f0 c.f0.f1 c.f1.f0 c.f1.f1 c.f2 a.f0 a.f1 a.f2.f0 a.f2.f1 a.f3 a.f4 a.f5.f0 a.f5.f1 a.f6.f0 a.f6.f1 b.f0 b.f1 b.f2.f0 b.f2.f1 b.f3 b.f4 b.f5.f0 b.f5.f1 b.f6.f0 b.f6.f1 false).bind fun s => (correct_Share.f c.f0.f0 c.f0.f1 c.f1.f0 c.f1.f1 c.f2 a.f0 a.f1 a.f2.f0 a.f2.f1 a.f3 a.f4 a.f5.f0 a.f5.f1 a.f6.f0 a.f6.f1 b.f0 b.f1 b.f2.f0 b.f2.f1 b.f3 b.f4 b.f5.f0 b.f5.f1 b.f6.f0 b.f6.f1 true).bind fun t =>
    (let ys := xs.set p.1.toNat (shiftV (xs.getD p.1.toNat z48) s (-1) c.f1.f0 c.f1.f1)
    shiftsL v l (ys.set q.1.toNat (shiftV (ys.getD q.1.toNat z48) t 1 c.f1.f0 c.f1.f1))))
   else none
def correct_Shifts.f (v : List S32) (l : List S37) : Option (List S48) := if v.length ≤ 1000000 then shiftsL v l (List.replicate v.length z48) else none
/-- The cells of a list of shifts. -/
def flatS (xs : List S48) : List Value := xs.flatMap (fun x => [.int .i64 x.f0, .int .i64 x.f1])
theorem flatS_cons (x : S48) (xs : List S48) : flatS (x :: xs) = .int .i64 x.f0 :: .int .i64 x.f1 :: flatS xs := rfl
theorem flatS_get : ∀ (xs : List S48) (i : Nat) (h : i < xs.length), (flatS xs)[i * 2]? = some (.int .i64 xs[i].f0) ∧ (flatS xs)[i * 2 + 1]? = some (.int .i64 xs[i].f1)
 | [], _, h => absurd h (by simp)
 | x :: xs, 0, _ => ⟨rfl, rfl⟩
 | x :: xs, i + 1, h => by
  have := flatS_get xs i (by simpa using h)
  rw [flatS_cons, show (i + 1) * 2 = i * 2 + 1 + 1 by omega]
  simpa only [List.getElem?_cons_succ, List.getElem_cons_succ] using this
theorem flatS_set : ∀ (xs : List S48) (i : Nat) (y : S48), ((flatS xs).set (i * 2) (.int .i64 y.f0)).set (i * 2 + 1) (.int .i64 y.f1) = flatS (xs.set i y)
 | [], _, _ => rfl
 | x :: xs, 0, _ => rfl
 | x :: xs, i + 1, y => by
  rw [flatS_cons, show (i + 1) * 2 = i * 2 + 1 + 1 by omega, sC, sC, sC, sC, flatS_set xs i y, sC, flatS_cons]
theorem flatS_len : ∀ xs : List S48, (flatS xs).length = xs.length * 2
 | [] => rfl
 | x :: xs => by rw [flatS_cons, List.length_cons, List.length_cons, List.length_cons, flatS_len xs]; omega
theorem grown_twice {a b c : World} {r : Option Nat} (h : a.grownBy b r) (k : b.grownBy c r) : a.grownBy c r :=
 ⟨k.os.trans h.os, k.tape.trans h.tape, k.output.trans h.output, Nat.le_trans h.size k.size, fun i hi hr => (k.block i (Nat.lt_of_lt_of_le hi h.size) hr).trans (h.block i hi hr)⟩
theorem shift_grown (w : World) (g i : Nat) (u : Value) : w.grownBy (w.setCell ⟨g, i, none⟩ u).drew (some g) :=
 ⟨rfl, rfl, rfl, (by show w.heap.size ≤ (w.heap.modify g _).size; rw [Array.size_modify]; exact Nat.le_refl _), fun k _ hk => Below.heap_setCell w ⟨g, i, none⟩ u k (fun e => hk (by rw [e]))⟩
set_option maxRecDepth 100000 in
set_option maxHeartbeats 8000000 in
theorem shift_move.same (m : Nat) (share sign c0 c1 nx ny c4 : Int) (xs : List S48) (hm : m < xs.length) (bo bc g : Nat) (w : World) (hog : bo ≠ g) (hcg : bc ≠ g)
  (ho : w.heap[bo]? = some (.cells #[.slice (some ⟨g, 0, none⟩) xs.length xs.length] 44 (0, 0)))
  (hc : w.heap[bc]? = some (.cells #[.int .u32 c0, .int .u32 c1, .int .i32 nx, .int .i32 ny, .int .i32 c4] 37 (0, 0)))
  (hg : w.heap[g]? = some (.cells (flatS xs).toArray 48 (0, 0))) :
  Calls Try.prog 24 #[.int .i64 m, .int .i64 share, .int .i64 sign, .pointer (some ⟨bo, 0, none⟩), .pointer (some ⟨bc, 0, none⟩)] w fun e w' => e = .returned (.tuple #[]) ∧ w'.heap[g]? = some (.cells (flatS (xs.set m (shiftV xs[m] share sign nx ny))).toArray 48 (0, 0)) ∧ w.grownBy w' (some g) := by
 have HG := Lib.hid hg
 have HO := Lib.hid ho
 have HC := Lib.hid hc
 have o0 : w.cell? ⟨bo, 0, none⟩ = some (.slice (some ⟨g, 0, none⟩) xs.length xs.length) := (bC ho 0).trans rfl
 have n0 : w.cell? ⟨bc, 2, none⟩ = some (.int .i32 nx) := (bC hc 2).trans rfl
 have n1 : w.cell? ⟨bc, 3, none⟩ = some (.int .i32 ny) := (bC hc 3).trans rfl
 have g0 : w.cell? ⟨g, m * 2, none⟩ = some (.int .i64 xs[m].f0) := (bC hg _).trans (by simpa using (flatS_get xs m hm).1)
 have g1 : w.cell? ⟨g, m * 2 + 1, none⟩ = some (.int .i64 xs[m].f1) := (bC hg _).trans (by simpa using (flatS_get xs m hm).2)
 have f0 := bF hg (m * 2)
 have f1 := bF hg (m * 2 + 1)
 have p1 : ((0 : Int) ≤ (m : Int)) = True := eq_true (by omega)
 have q1 : ((m : Int) < (xs.length : Int)) = True := eq_true (by omega)
 clear hg ho hc
 go_enter Try.func24, Try.ntmps24
 go_wp2_with fail
 go_region
 have hgrow1 : w.grownBy (w.setCell ⟨g, m * 2, none⟩ (.int .i64 (shiftV xs[m] share sign nx ny).f0)).drew (some g) := shift_grown w g (m * 2) _
 have hg1 : (w.setCell ⟨g, m * 2, none⟩ (.int .i64 (shiftV xs[m] share sign nx ny).f0)).drew.heap[g]? = some (.cells ((flatS xs).set (m * 2) (.int .i64 (shiftV xs[m] share sign nx ny).f0)).toArray 48 (0, 0)) := bP HG.out (m * 2) _ (by simp)
 have e0 : wrap64 (xs[m].f0 + wrap64 (sign * (wrap64 (share * wrap64 nx) / 65536))) = (shiftV xs[m] share sign nx ny).f0 := rfl
 rw [e0]
 clear e0 g0 f0
 generalize (w.setCell ⟨g, m * 2, none⟩ (.int .i64 (shiftV xs[m] share sign nx ny).f0)).drew = W1 at *
 have ho1 : W1.heap[bo]? = _ := (hgrow1.block bo (bL HO.out) (by simpa using hog)).trans HO.out
 have hc1 : W1.heap[bc]? = _ := (hgrow1.block bc (bL HC.out) (by simpa using hcg)).trans HC.out
 have o1 : W1.cell? ⟨bo, 0, none⟩ = some (.slice (some ⟨g, 0, none⟩) xs.length xs.length) := (bC ho1 0).trans rfl
 have n2 : W1.cell? ⟨bc, 3, none⟩ = some (.int .i32 ny) := (bC hc1 3).trans rfl
 have g2 : W1.cell? ⟨g, m * 2 + 1, none⟩ = some (.int .i64 xs[m].f1) := (bC hg1 _).trans (by
  have := (flatS_get xs m hm).2
  simp only [List.getElem?_toArray]
  rw [List.getElem?_set_ne (by omega)]
  exact this)
 have f2 := bF hg1 (m * 2 + 1)
 have HG1 := Lib.hid hg1
 have HW1 := Lib.hid hgrow1
 clear hg1 hgrow1 ho1 hc1 o0 n0 n1 g1 f1
 go_wp2_with fail
 go_region
 have hgrow2 : W1.grownBy (W1.setCell ⟨g, m * 2 + 1, none⟩ (.int .i64 (shiftV xs[m] share sign nx ny).f1)).drew (some g) := shift_grown W1 g (m * 2 + 1) _
 have hg2 : (W1.setCell ⟨g, m * 2 + 1, none⟩ (.int .i64 (shiftV xs[m] share sign nx ny).f1)).drew.heap[g]? = some (.cells (flatS (xs.set m (shiftV xs[m] share sign nx ny))).toArray 48 (0, 0)) := bP HG1.out (m * 2 + 1) _ (by rw [← flatS_set]; simp)
 have e1 : wrap64 (xs[m].f1 + wrap64 (sign * (wrap64 (share * wrap64 ny) / 65536))) = (shiftV xs[m] share sign nx ny).f1 := rfl
 rw [e1]
 go_end0
 exact ⟨rfl, hg2, grown_twice HW1.out hgrow2⟩
theorem view_Find.nat {v : List S32} {key p : Int} {b : Bool} (h : view_Find.f v key = some (p, b)) : ∃ m : Nat, p = (m : Int) ∧ m ≤ v.length := by
 unfold view_Find.f at h
 split at h
 ·simp only [Option.some.injEq, Prod.mk.injEq] at h
  exact ⟨cutK v key, h.1.symm, cutK_le v key⟩
 ·cases h
theorem made_at (z : Array Value) (m j : Nat) (h : j < (madeCells z m).size) : (madeCells z m)[j] = z[j % z.size]! := by simp [madeCells]
theorem shift_made (W : World) (n : Nat) (hn : n ≤ 1000000) : (Instr.makeSlice 44 (.int .i64 (n : Int)) (.int .i64 (n : Int))).run Try.prog W = .ok (.slice (some ⟨W.heap.size, 0, none⟩) n n) (W.alloc (.cells (flatS (List.replicate n z48)).toArray 48)) := by
 obtain ⟨i, hi, hz, hs, hb⟩ := info_parts (show (Try.prog.info? 48).map (fun i => (i.zero, i.size, i.bytes)) = some (some (.agg #[.int .i64 0, .int .i64 0]), 2, 16) by kernel_rfl)
 have h := run_make (P := Try.prog) W 44 48 i _ Try.underlying44 hi hz .i64 .i64 (n : Int) (n : Int) (by omega) (Int.le_refl _) (by rw [hb]; omega) (by omega)
 rw [h, hs]
 simp only [Int.toNat_natCast]
 have e : madeCells (Value.agg #[.int .i64 0, .int .i64 0]).cells (n * 2) = (flatS (List.replicate n z48)).toArray := by
  apply Array.ext
  ·rw [size_madeCells, List.size_toArray, flatS_len, List.length_replicate]
  ·intro j h1 h2
   rw [size_madeCells] at h1
   have hr : (madeCells (Value.agg #[.int .i64 0, .int .i64 0]).cells (n * 2))[j] = .int .i64 0 := by
    rw [made_at]
    have hz : (Value.agg #[.int .i64 0, .int .i64 0]).cells = #[.int .i64 0, .int .i64 0] := rfl
    rw [hz]
    have : j % 2 = 0 ∨ j % 2 = 1 := by omega
    rcases this with k | k
    ·show (#[Value.int .i64 0, Value.int .i64 0] : Array Value)[j % 2]! = _
     rw [k]; rfl
    ·show (#[Value.int .i64 0, Value.int .i64 0] : Array Value)[j % 2]! = _
     rw [k]; rfl
   rw [hr]
   have hl : ∀ (m : Nat) (j : Nat) (h : j < (flatS (List.replicate m z48)).length), (flatS (List.replicate m z48))[j] = .int .i64 0 := fun m => by
    induction m with
    | zero => intro j h; simp [flatS] at h
    | succ m ih =>
     intro j h
     match j, h with
     | 0, _ => rfl
     | 1, _ => rfl
     | j + 2, h => exact ih j (by simpa [flatS, List.replicate_succ] using h)
   simp only [List.getElem_toArray]
   exact (hl n j _).symm
 rw [e]
/-- What stands between two contacts. -/
structure ShiftS (w W : World) (bo g : Nat) (n : Nat) (xs : List S48) : Prop where
 hw : Below w.heap.size w W
 hb : w.heap.size ≤ bo
 hgb : w.heap.size ≤ g
 hg0 : bo ≠ g
 ho : W.heap[bo]? = some (.cells #[.slice (some ⟨g, 0, none⟩) xs.length xs.length] 44 (0, 0))
 hg : W.heap[g]? = some (.cells (flatS xs).toArray 48 (0, 0))
 hn : xs.length = n
theorem ShiftS.next {w W W' : World} {bo g n : Nat} {xs : List S48} (h : ShiftS w W bo g n xs) (hb : Below W.heap.size W W') : ShiftS w W' bo g n xs :=
 ⟨h.hw.trans (hb.mono h.hw.size), h.hb, h.hgb, h.hg0, bB h.ho hb, bB h.hg hb, h.hn⟩
theorem ShiftS.moved {w W W' : World} {bo g n : Nat} {xs ys : List S48} (h : ShiftS w W bo g n xs) (hgr : W.grownBy W' (some g)) (hg : W'.heap[g]? = some (.cells (flatS ys).toArray 48 (0, 0))) (hl : ys.length = xs.length) : ShiftS w W' bo g n ys :=
 ⟨h.hw.grown hgr h.hw.size (fun k e => by cases e; exact h.hgb), h.hb, h.hgb, h.hg0, by rw [hl]; exact (hgr.block bo (bL h.ho) (by simpa using h.hg0)).trans h.ho, hg, hl.trans h.hn⟩
theorem shift_next {i n : Nat} (h : i < n) (hn : n ≤ 9223372036854775807) : wrap64 ((i : Int) + 1) = ((i + 1 : Nat) : Int) := by unfold wrap64; omega
theorem shift_measure {i n : Nat} (h : i < n) : ((n : Int) - intOf (.int .i64 ((i + 1 : Nat) : Int))).toNat < ((n : Int) - intOf (.int .i64 (i : Int))).toNat := by show ((n : Int) - ((i + 1 : Nat) : Int)).toNat < ((n : Int) - (i : Int)).toNat; omega
theorem flatS_snoc (ys : List S48) (y : S48) : flatS (ys ++ [y]) = flatS ys ++ [.int .i64 y.f0, .int .i64 y.f1] := by simp [flatS]
theorem shift_reps {w : World} {base : Nat} {ok : Nat → Prop} (xs : List S48) : Reps (k48.M w base ok) k48.sz xs (flatS xs) := by
 have h : ∀ n (xs : List S48), xs.length = n → Reps (k48.M w base ok) k48.sz xs (flatS xs) := fun n => by
  induction n with
  | zero =>
   intro xs hx
   obtain rfl := List.eq_nil_of_length_eq_zero hx
   exact Reps.none _ _
  | succ n ih =>
   intro xs hx
   obtain ⟨ys, y, rfl⟩ : ∃ ys y, xs = ys ++ [y] := ⟨xs.dropLast, xs.getLast (by intro e; simp [e] at hx), (List.dropLast_concat_getLast _).symm⟩
   rw [flatS_snoc]
   exact (ih ys (by simpa using hx)).snoc ⟨[.int .i64 y.f0], [.int .i64 y.f1], rfl, rfl, rfl⟩ rfl
 exact h _ xs rfl
theorem shift_body {W : World} {ad : Addr} {n : Nat} {v : List S32} (h : Kd.C k32 W (some ad) n v) (m : Nat) (hm : m < n) : W.cell? (ad.add (m * 10)) = some (.int .u32 (rd_T32 v (m : Int)).f0) ∧ W.cell? ⟨(ad.add (m * 10)).block, (ad.add (m * 10)).off + 1, none⟩ = some (.int .i32 (rd_T32 v (m : Int)).f1) ∧ W.cell? ⟨(ad.add (m * 10)).block, (ad.add (m * 10)).off + 2, none⟩ = some (.int .i32 (rd_T32 v (m : Int)).f2.f0) ∧ W.cell? ⟨(ad.add (m * 10)).block, (ad.add (m * 10)).off + 3, none⟩ = some (.int .i32 (rd_T32 v (m : Int)).f2.f1) ∧ W.cell? ⟨(ad.add (m * 10)).block, (ad.add (m * 10)).off + 4, none⟩ = some (.int .i32 (rd_T32 v (m : Int)).f3) ∧ W.cell? ⟨(ad.add (m * 10)).block, (ad.add (m * 10)).off + 5, none⟩ = some (.int .i32 (rd_T32 v (m : Int)).f4) ∧ W.cell? ⟨(ad.add (m * 10)).block, (ad.add (m * 10)).off + 6, none⟩ = some (.int .i32 (rd_T32 v (m : Int)).f5.f0) ∧ W.cell? ⟨(ad.add (m * 10)).block, (ad.add (m * 10)).off + 7, none⟩ = some (.int .i32 (rd_T32 v (m : Int)).f5.f1) ∧ W.cell? ⟨(ad.add (m * 10)).block, (ad.add (m * 10)).off + 8, none⟩ = some (.int .i32 (rd_T32 v (m : Int)).f6.f0) ∧ W.cell? ⟨(ad.add (m * 10)).block, (ad.add (m * 10)).off + 9, none⟩ = some (.int .i32 (rd_T32 v (m : Int)).f6.f1) := by
 obtain ⟨ad', e, x⟩ := at_T32 h (m : Int) (by omega) (by omega)
 cases e
 simpa only [Int.toNat_natCast] using x
theorem shift_box {W : World} {bc : Nat} {c : S37} (h : W.heap[bc]? = some (.cells #[.int .u32 c.f0.f0, .int .u32 c.f0.f1, .int .i32 c.f1.f0, .int .i32 c.f1.f1, .int .i32 c.f2] 37 (0, 0))) : W.cell? ⟨bc, 0, none⟩ = some (.int .u32 c.f0.f0) ∧ W.cell? ⟨bc, 1, none⟩ = some (.int .u32 c.f0.f1) ∧ W.cell? ⟨bc, 2, none⟩ = some (.int .i32 c.f1.f0) ∧ W.cell? ⟨bc, 3, none⟩ = some (.int .i32 c.f1.f1) ∧ W.cell? ⟨bc, 4, none⟩ = some (.int .i32 c.f2) :=
 ⟨(bC h 0).trans rfl, (bC h 1).trans rfl, (bC h 2).trans rfl, (bC h 3).trans rfl, (bC h 4).trans rfl⟩
theorem shift_move.calls {w W : World} {bo g n m bc : Nat} {xs : List S48} {c : S37} (h : ShiftS w W bo g n xs) (hm : m < n) (hc : W.heap[bc]? = some (.cells #[.int .u32 c.f0.f0, .int .u32 c.f0.f1, .int .i32 c.f1.f0, .int .i32 c.f1.f1, .int .i32 c.f2] 37 (0, 0))) (hcg : bc ≠ g) (share sign : Int) :
  Calls Try.prog 24 #[.int .i64 m, .int .i64 share, .int .i64 sign, .pointer (some ⟨bo, 0, none⟩), .pointer (some ⟨bc, 0, none⟩)] W fun e W' => e = .returned (.tuple #[]) ∧ ShiftS w W' bo g n (xs.set m (shiftV (xs.getD m z48) share sign c.f1.f0 c.f1.f1)) ∧ W'.heap[bc]? = some (.cells #[.int .u32 c.f0.f0, .int .u32 c.f0.f1, .int .i32 c.f1.f0, .int .i32 c.f1.f1, .int .i32 c.f2] 37 (0, 0)) ∧ W.heap.size ≤ W'.heap.size := by
 have hm' : m < xs.length := by rw [h.hn]; exact hm
 refine (shift_move.same m share sign _ _ _ _ _ xs hm' bo bc g W h.hg0 hcg h.ho hc h.hg).mono ?_
 rintro e W' ⟨rfl, hg, hgr⟩
 rw [← show xs.getD m z48 = xs[m] by simp [List.getD, hm']] at hg
 exact ⟨rfl, h.moved hgr hg (by simp), (hgr.block bc (bL hc) (by simpa using hcg)).trans hc, hgr.size⟩
set_option maxRecDepth 100000 in
set_option maxHeartbeats 16000000 in
theorem correct_Shifts.calls (A0 : Option Addr) (c0 : Nat) (l0 : List S32) (A1 : Option Addr) (c1 : Nat) (l1 : List S37) (r : List S48) (w : World) (hr0 : Kd.C k32 w A0 l0.length l0) (hc0 : l0.length ≤ c0) (hr1 : Kd.C k37 w A1 l1.length l1) (hc1 : l1.length ≤ c1) (h : correct_Shifts.f l0 l1 = some r) :
  Calls Try.prog 16 #[.slice A0 l0.length c0, .slice A1 l1.length c1] w fun e w' => ∃ v0_ : Value, e = .returned (v0_) ∧ Kd.R k48 48 w' w.heap.size (fun _ => True) v0_ r ∧ Below w.heap.size w w' := by
 unfold correct_Shifts.f at h
 split at h
 rotate_left
 ·cases h
 rename_i hn
 have H := Lib.hid h
 have HR0 := Lib.hid hr0
 have HR1 := Lib.hid hr1
 have HL1 := Lib.hid (Kd.C_max hr1)
 have hmk := fun W => shift_made W l0.length hn
 clear h hr0 hr1
 go_enter Try.func16, Try.ntmps16
 go_wp2_with fail
 go_loopw [18] (fun p wr => ∃ (i : Nat) (xs : List S48), p = .int .i64 i ∧ i ≤ l1.length ∧ Aside0 (shiftsL l0 (l1.drop i) xs = some r) ∧ ShiftS w wr (w.heap.size + 1) w.heap.size l0.length xs)
  (fun p _ => (l1.length - intOf p).toNat)
 case atStart =>
  refine ⟨0, List.replicate l0.length z48, by simp, by omega, aM H.out, lA (lA (Below.refl _ _) _) _, by omega, by omega, by omega, ?_, bA (blk_new _ _) _, by simp⟩
  have := blk_new (w.alloc (.cells (flatS (List.replicate l0.length z48)).toArray 48)) (.cells #[.slice (some ⟨w.heap.size, 0, none⟩) l0.length l0.length] 44)
  simp only [World.size_alloc] at this
  simpa using this
 case round =>
  obtain ⟨i, xs, rfl, hi, HH, hS⟩ := hrel
  have HS := Lib.hid hS
  have hsn := hS.hn
  have o0 : wr.cell? ⟨w.heap.size + 1, 0, none⟩ = some (.slice (some ⟨w.heap.size, 0, none⟩) xs.length xs.length) := (bC hS.ho 0).trans rfl
  clear hS
  by_cases hlt : i < l1.length
  ·have d1 : decide ((i : Int) < (l1.length : Int)) = true := decide_eq_true (by omega)
   have p1 : ((0 : Int) ≤ (i : Int)) = True := eq_true (by omega)
   have q1 : ((i : Int) < (l1.length : Int)) = True := eq_true (by omega)
   obtain ⟨ad, e, x0, x1, x2, x3, x4⟩ := at_T37 (Kd.C_below HR1.out HS.out.hw) (i : Int) (by omega) (by omega)
   cases e
   simp only [Int.toNat_natCast] at x0 x1 x2 x3 x4
   have hd : l1.drop i = rd_T37 l1 (i : Int) :: l1.drop (i + 1) := by
    rw [List.drop_eq_getElem_cons hlt]
    congr 1
    unfold rd_T37
    simp [List.getD, hlt]
   generalize rd_T37 l1 (i : Int) = c at *
   have h := HH.out
   rw [hd] at h
   unfold shiftsL at h
   clear hd HH
   obtain ⟨⟨p, pb⟩, hF1, h1⟩ := Option.bind_eq_some_iff.mp h
   obtain ⟨⟨q, qb⟩, hF2, h2⟩ := Option.bind_eq_some_iff.mp h1
   simp only at h2
   split at h2
   rotate_left
   ·cases h2
   rename_i hpq
   obtain ⟨sa, hA1, h3⟩ := Option.bind_eq_some_iff.mp h2
   obtain ⟨sb, hA2, h4⟩ := Option.bind_eq_some_iff.mp h3
   clear h h1 h2 h3
   obtain ⟨m, rfl, _⟩ := view_Find.nat hF1
   obtain ⟨k, rfl, _⟩ := view_Find.nat hF2
   have HF1 := Lib.hid (fun W hr => view_Find.calls A0 c0 l0 _ _ _ W hr hc0 hF1)
   have HF2 := Lib.hid (fun W hr => view_Find.calls A0 c0 l0 _ _ _ W hr hc0 hF2)
   have HA1 := Lib.hid (fun W => correct_Share.calls _ _ _ _ _ _ _ _ _ _ _ _ _ _ _ _ _ _ _ _ _ _ _ _ _ _ _ W hA1)
   have HA2 := Lib.hid (fun W => correct_Share.calls _ _ _ _ _ _ _ _ _ _ _ _ _ _ _ _ _ _ _ _ _ _ _ _ _ _ _ W hA2)
   have HH := Lib.hid h4
   clear h4 hF1 hF2 hA1 hA2
   go_wp2_with fail
   have hC0 : (wr.alloc (.cells #[.int .u32 c.f0.f0, .int .u32 c.f0.f1, .int .i32 c.f1.f0, .int .i32 c.f1.f1, .int .i32 c.f2] 37 (0, 0))).heap[wr.heap.size]? = some (.cells #[.int .u32 c.f0.f0, .int .u32 c.f0.f1, .int .i32 c.f1.f0, .int .i32 c.f1.f1, .int .i32 c.f2] 37 (0, 0)) := blk_new _ _
   have hS0 := HS.out.next (lA (Below.refl _ _) (.cells #[.int .u32 c.f0.f0, .int .u32 c.f0.f1, .int .i32 c.f1.f0, .int .i32 c.f1.f1, .int .i32 c.f2] 37 (0, 0)))
   have hbg : wr.heap.size ≠ w.heap.size := by have := bL HS.out.hg; omega
   refine (HF1.out _ (Kd.C_below HR0.out hS0.hw)).mono ?_
   rintro e W1 ⟨rfl, hb1⟩
   have hS1 := hS0.next hb1
   have hC1 := bB hC0 (hb1.mono (by simp))
   have y1 := (shift_box hC1).2.1
   clear hS0 hC0 hb1
   go_wp2_with fail
   refine (HF2.out _ (Kd.C_below HR0.out hS1.hw)).mono ?_
   rintro e W2 ⟨rfl, hb2⟩
   have hS2 := hS1.next hb2
   have hC2 := bB hC1 hb2
   clear hS1 hC1 hb2 y1
   go_wp2_with fail
   have L0 := Kd.C_below HR0.out hS2.hw
   obtain ⟨ad0, e0, _⟩ := at_T32 L0 (m : Int) (by omega) (by omega)
   subst e0
   clear L0
   have hm : m < l0.length := by omega
   have hk : k < l0.length := by omega
   have i1 : ((0 : Int) ≤ (m : Int)) = True := eq_true (by omega)
   have i2 : ((m : Int) < (l0.length : Int)) = True := eq_true (by omega)
   have i3 : ((0 : Int) ≤ (k : Int)) = True := eq_true (by omega)
   have i4 : ((k : Int) < (l0.length : Int)) = True := eq_true (by omega)
   have hS3 := hS2.next (below_drew (Below.refl _ _))
   have hC3 := bB hC2 (below_drew (Below.refl W2.heap.size W2))
   have K3 := (⟨shift_box hC3, shift_body (Kd.C_below HR0.out hS3.hw) m hm, shift_body (Kd.C_below HR0.out hS3.hw) k hk⟩ : (W2.drew.cell? ⟨wr.heap.size, 0, none⟩ = some (.int .u32 c.f0.f0) ∧ W2.drew.cell? ⟨wr.heap.size, 1, none⟩ = some (.int .u32 c.f0.f1) ∧ W2.drew.cell? ⟨wr.heap.size, 2, none⟩ = some (.int .i32 c.f1.f0) ∧ W2.drew.cell? ⟨wr.heap.size, 3, none⟩ = some (.int .i32 c.f1.f1) ∧ W2.drew.cell? ⟨wr.heap.size, 4, none⟩ = some (.int .i32 c.f2)) ∧ (W2.drew.cell? (ad0.add (m * 10)) = some (.int .u32 (rd_T32 l0 (m : Int)).f0) ∧ W2.drew.cell? ⟨(ad0.add (m * 10)).block, (ad0.add (m * 10)).off + 1, none⟩ = some (.int .i32 (rd_T32 l0 (m : Int)).f1) ∧ W2.drew.cell? ⟨(ad0.add (m * 10)).block, (ad0.add (m * 10)).off + 2, none⟩ = some (.int .i32 (rd_T32 l0 (m : Int)).f2.f0) ∧ W2.drew.cell? ⟨(ad0.add (m * 10)).block, (ad0.add (m * 10)).off + 3, none⟩ = some (.int .i32 (rd_T32 l0 (m : Int)).f2.f1) ∧ W2.drew.cell? ⟨(ad0.add (m * 10)).block, (ad0.add (m * 10)).off + 4, none⟩ = some (.int .i32 (rd_T32 l0 (m : Int)).f3) ∧ W2.drew.cell? ⟨(ad0.add (m * 10)).block, (ad0.add (m * 10)).off + 5, none⟩ = some (.int .i32 (rd_T32 l0 (m : Int)).f4) ∧ W2.drew.cell? ⟨(ad0.add (m * 10)).block, (ad0.add (m * 10)).off + 6, none⟩ = some (.int .i32 (rd_T32 l0 (m : Int)).f5.f0) ∧ W2.drew.cell? ⟨(ad0.add (m * 10)).block, (ad0.add (m * 10)).off + 7, none⟩ = some (.int .i32 (rd_T32 l0 (m : Int)).f5.f1) ∧ W2.drew.cell? ⟨(ad0.add (m * 10)).block, (ad0.add (m * 10)).off + 8, none⟩ = some (.int .i32 (rd_T32 l0 (m : Int)).f6.f0) ∧ W2.drew.cell? ⟨(ad0.add (m * 10)).block, (ad0.add (m * 10)).off + 9, none⟩ = some (.int .i32 (rd_T32 l0 (m : Int)).f6.f1)) ∧ W2.drew.cell? (ad0.add (k * 10)) = some (.int .u32 (rd_T32 l0 (k : Int)).f0) ∧ W2.drew.cell? ⟨(ad0.add (k * 10)).block, (ad0.add (k * 10)).off + 1, none⟩ = some (.int .i32 (rd_T32 l0 (k : Int)).f1) ∧ W2.drew.cell? ⟨(ad0.add (k * 10)).block, (ad0.add (k * 10)).off + 2, none⟩ = some (.int .i32 (rd_T32 l0 (k : Int)).f2.f0) ∧ W2.drew.cell? ⟨(ad0.add (k * 10)).block, (ad0.add (k * 10)).off + 3, none⟩ = some (.int .i32 (rd_T32 l0 (k : Int)).f2.f1) ∧ W2.drew.cell? ⟨(ad0.add (k * 10)).block, (ad0.add (k * 10)).off + 4, none⟩ = some (.int .i32 (rd_T32 l0 (k : Int)).f3) ∧ W2.drew.cell? ⟨(ad0.add (k * 10)).block, (ad0.add (k * 10)).off + 5, none⟩ = some (.int .i32 (rd_T32 l0 (k : Int)).f4) ∧ W2.drew.cell? ⟨(ad0.add (k * 10)).block, (ad0.add (k * 10)).off + 6, none⟩ = some (.int .i32 (rd_T32 l0 (k : Int)).f5.f0) ∧ W2.drew.cell? ⟨(ad0.add (k * 10)).block, (ad0.add (k * 10)).off + 7, none⟩ = some (.int .i32 (rd_T32 l0 (k : Int)).f5.f1) ∧ W2.drew.cell? ⟨(ad0.add (k * 10)).block, (ad0.add (k * 10)).off + 8, none⟩ = some (.int .i32 (rd_T32 l0 (k : Int)).f6.f0) ∧ W2.drew.cell? ⟨(ad0.add (k * 10)).block, (ad0.add (k * 10)).off + 9, none⟩ = some (.int .i32 (rd_T32 l0 (k : Int)).f6.f1))
   clear HF1 HF2
   go_region_held3 (fun V => (V.cell? ⟨wr.heap.size, 0, none⟩ = some (.int .u32 c.f0.f0) ∧ V.cell? ⟨wr.heap.size, 1, none⟩ = some (.int .u32 c.f0.f1) ∧ V.cell? ⟨wr.heap.size, 2, none⟩ = some (.int .i32 c.f1.f0) ∧ V.cell? ⟨wr.heap.size, 3, none⟩ = some (.int .i32 c.f1.f1) ∧ V.cell? ⟨wr.heap.size, 4, none⟩ = some (.int .i32 c.f2)) ∧ (V.cell? (ad0.add (m * 10)) = some (.int .u32 (rd_T32 l0 (m : Int)).f0) ∧ V.cell? ⟨(ad0.add (m * 10)).block, (ad0.add (m * 10)).off + 1, none⟩ = some (.int .i32 (rd_T32 l0 (m : Int)).f1) ∧ V.cell? ⟨(ad0.add (m * 10)).block, (ad0.add (m * 10)).off + 2, none⟩ = some (.int .i32 (rd_T32 l0 (m : Int)).f2.f0) ∧ V.cell? ⟨(ad0.add (m * 10)).block, (ad0.add (m * 10)).off + 3, none⟩ = some (.int .i32 (rd_T32 l0 (m : Int)).f2.f1) ∧ V.cell? ⟨(ad0.add (m * 10)).block, (ad0.add (m * 10)).off + 4, none⟩ = some (.int .i32 (rd_T32 l0 (m : Int)).f3) ∧ V.cell? ⟨(ad0.add (m * 10)).block, (ad0.add (m * 10)).off + 5, none⟩ = some (.int .i32 (rd_T32 l0 (m : Int)).f4) ∧ V.cell? ⟨(ad0.add (m * 10)).block, (ad0.add (m * 10)).off + 6, none⟩ = some (.int .i32 (rd_T32 l0 (m : Int)).f5.f0) ∧ V.cell? ⟨(ad0.add (m * 10)).block, (ad0.add (m * 10)).off + 7, none⟩ = some (.int .i32 (rd_T32 l0 (m : Int)).f5.f1) ∧ V.cell? ⟨(ad0.add (m * 10)).block, (ad0.add (m * 10)).off + 8, none⟩ = some (.int .i32 (rd_T32 l0 (m : Int)).f6.f0) ∧ V.cell? ⟨(ad0.add (m * 10)).block, (ad0.add (m * 10)).off + 9, none⟩ = some (.int .i32 (rd_T32 l0 (m : Int)).f6.f1)) ∧ V.cell? (ad0.add (k * 10)) = some (.int .u32 (rd_T32 l0 (k : Int)).f0) ∧ V.cell? ⟨(ad0.add (k * 10)).block, (ad0.add (k * 10)).off + 1, none⟩ = some (.int .i32 (rd_T32 l0 (k : Int)).f1) ∧ V.cell? ⟨(ad0.add (k * 10)).block, (ad0.add (k * 10)).off + 2, none⟩ = some (.int .i32 (rd_T32 l0 (k : Int)).f2.f0) ∧ V.cell? ⟨(ad0.add (k * 10)).block, (ad0.add (k * 10)).off + 3, none⟩ = some (.int .i32 (rd_T32 l0 (k : Int)).f2.f1) ∧ V.cell? ⟨(ad0.add (k * 10)).block, (ad0.add (k * 10)).off + 4, none⟩ = some (.int .i32 (rd_T32 l0 (k : Int)).f3) ∧ V.cell? ⟨(ad0.add (k * 10)).block, (ad0.add (k * 10)).off + 5, none⟩ = some (.int .i32 (rd_T32 l0 (k : Int)).f4) ∧ V.cell? ⟨(ad0.add (k * 10)).block, (ad0.add (k * 10)).off + 6, none⟩ = some (.int .i32 (rd_T32 l0 (k : Int)).f5.f0) ∧ V.cell? ⟨(ad0.add (k * 10)).block, (ad0.add (k * 10)).off + 7, none⟩ = some (.int .i32 (rd_T32 l0 (k : Int)).f5.f1) ∧ V.cell? ⟨(ad0.add (k * 10)).block, (ad0.add (k * 10)).off + 8, none⟩ = some (.int .i32 (rd_T32 l0 (k : Int)).f6.f0) ∧ V.cell? ⟨(ad0.add (k * 10)).block, (ad0.add (k * 10)).off + 9, none⟩ = some (.int .i32 (rd_T32 l0 (k : Int)).f6.f1))
    (first | (with_reducible exact K3) | (with_reducible exact K4) | (with_reducible exact K5))
    (first
    | (go_at_call 12; refine (HA1.out _).mono ?_; rintro e W4 ⟨rfl, hb4⟩; have hS4 := hS3.next hb4; have hC4 := bB hC3 hb4; have K4 := (⟨shift_box hC4, shift_body (Kd.C_below HR0.out hS4.hw) m hm, shift_body (Kd.C_below HR0.out hS4.hw) k hk⟩ : (W4.cell? ⟨wr.heap.size, 0, none⟩ = some (.int .u32 c.f0.f0) ∧ W4.cell? ⟨wr.heap.size, 1, none⟩ = some (.int .u32 c.f0.f1) ∧ W4.cell? ⟨wr.heap.size, 2, none⟩ = some (.int .i32 c.f1.f0) ∧ W4.cell? ⟨wr.heap.size, 3, none⟩ = some (.int .i32 c.f1.f1) ∧ W4.cell? ⟨wr.heap.size, 4, none⟩ = some (.int .i32 c.f2)) ∧ (W4.cell? (ad0.add (m * 10)) = some (.int .u32 (rd_T32 l0 (m : Int)).f0) ∧ W4.cell? ⟨(ad0.add (m * 10)).block, (ad0.add (m * 10)).off + 1, none⟩ = some (.int .i32 (rd_T32 l0 (m : Int)).f1) ∧ W4.cell? ⟨(ad0.add (m * 10)).block, (ad0.add (m * 10)).off + 2, none⟩ = some (.int .i32 (rd_T32 l0 (m : Int)).f2.f0) ∧ W4.cell? ⟨(ad0.add (m * 10)).block, (ad0.add (m * 10)).off + 3, none⟩ = some (.int .i32 (rd_T32 l0 (m : Int)).f2.f1) ∧ W4.cell? ⟨(ad0.add (m * 10)).block, (ad0.add (m * 10)).off + 4, none⟩ = some (.int .i32 (rd_T32 l0 (m : Int)).f3) ∧ W4.cell? ⟨(ad0.add (m * 10)).block, (ad0.add (m * 10)).off + 5, none⟩ = some (.int .i32 (rd_T32 l0 (m : Int)).f4) ∧ W4.cell? ⟨(ad0.add (m * 10)).block, (ad0.add (m * 10)).off + 6, none⟩ = some (.int .i32 (rd_T32 l0 (m : Int)).f5.f0) ∧ W4.cell? ⟨(ad0.add (m * 10)).block, (ad0.add (m * 10)).off + 7, none⟩ = some (.int .i32 (rd_T32 l0 (m : Int)).f5.f1) ∧ W4.cell? ⟨(ad0.add (m * 10)).block, (ad0.add (m * 10)).off + 8, none⟩ = some (.int .i32 (rd_T32 l0 (m : Int)).f6.f0) ∧ W4.cell? ⟨(ad0.add (m * 10)).block, (ad0.add (m * 10)).off + 9, none⟩ = some (.int .i32 (rd_T32 l0 (m : Int)).f6.f1)) ∧ W4.cell? (ad0.add (k * 10)) = some (.int .u32 (rd_T32 l0 (k : Int)).f0) ∧ W4.cell? ⟨(ad0.add (k * 10)).block, (ad0.add (k * 10)).off + 1, none⟩ = some (.int .i32 (rd_T32 l0 (k : Int)).f1) ∧ W4.cell? ⟨(ad0.add (k * 10)).block, (ad0.add (k * 10)).off + 2, none⟩ = some (.int .i32 (rd_T32 l0 (k : Int)).f2.f0) ∧ W4.cell? ⟨(ad0.add (k * 10)).block, (ad0.add (k * 10)).off + 3, none⟩ = some (.int .i32 (rd_T32 l0 (k : Int)).f2.f1) ∧ W4.cell? ⟨(ad0.add (k * 10)).block, (ad0.add (k * 10)).off + 4, none⟩ = some (.int .i32 (rd_T32 l0 (k : Int)).f3) ∧ W4.cell? ⟨(ad0.add (k * 10)).block, (ad0.add (k * 10)).off + 5, none⟩ = some (.int .i32 (rd_T32 l0 (k : Int)).f4) ∧ W4.cell? ⟨(ad0.add (k * 10)).block, (ad0.add (k * 10)).off + 6, none⟩ = some (.int .i32 (rd_T32 l0 (k : Int)).f5.f0) ∧ W4.cell? ⟨(ad0.add (k * 10)).block, (ad0.add (k * 10)).off + 7, none⟩ = some (.int .i32 (rd_T32 l0 (k : Int)).f5.f1) ∧ W4.cell? ⟨(ad0.add (k * 10)).block, (ad0.add (k * 10)).off + 8, none⟩ = some (.int .i32 (rd_T32 l0 (k : Int)).f6.f0) ∧ W4.cell? ⟨(ad0.add (k * 10)).block, (ad0.add (k * 10)).off + 9, none⟩ = some (.int .i32 (rd_T32 l0 (k : Int)).f6.f1)))
    | (go_at_call 24; refine (shift_move.calls hS4 hm hC4 hbg sa (-1)).mono ?_; rintro e W5 ⟨rfl, hS5, hC5, hz5⟩; have K5 := (⟨shift_box hC5, shift_body (Kd.C_below HR0.out hS5.hw) m hm, shift_body (Kd.C_below HR0.out hS5.hw) k hk⟩ : (W5.cell? ⟨wr.heap.size, 0, none⟩ = some (.int .u32 c.f0.f0) ∧ W5.cell? ⟨wr.heap.size, 1, none⟩ = some (.int .u32 c.f0.f1) ∧ W5.cell? ⟨wr.heap.size, 2, none⟩ = some (.int .i32 c.f1.f0) ∧ W5.cell? ⟨wr.heap.size, 3, none⟩ = some (.int .i32 c.f1.f1) ∧ W5.cell? ⟨wr.heap.size, 4, none⟩ = some (.int .i32 c.f2)) ∧ (W5.cell? (ad0.add (m * 10)) = some (.int .u32 (rd_T32 l0 (m : Int)).f0) ∧ W5.cell? ⟨(ad0.add (m * 10)).block, (ad0.add (m * 10)).off + 1, none⟩ = some (.int .i32 (rd_T32 l0 (m : Int)).f1) ∧ W5.cell? ⟨(ad0.add (m * 10)).block, (ad0.add (m * 10)).off + 2, none⟩ = some (.int .i32 (rd_T32 l0 (m : Int)).f2.f0) ∧ W5.cell? ⟨(ad0.add (m * 10)).block, (ad0.add (m * 10)).off + 3, none⟩ = some (.int .i32 (rd_T32 l0 (m : Int)).f2.f1) ∧ W5.cell? ⟨(ad0.add (m * 10)).block, (ad0.add (m * 10)).off + 4, none⟩ = some (.int .i32 (rd_T32 l0 (m : Int)).f3) ∧ W5.cell? ⟨(ad0.add (m * 10)).block, (ad0.add (m * 10)).off + 5, none⟩ = some (.int .i32 (rd_T32 l0 (m : Int)).f4) ∧ W5.cell? ⟨(ad0.add (m * 10)).block, (ad0.add (m * 10)).off + 6, none⟩ = some (.int .i32 (rd_T32 l0 (m : Int)).f5.f0) ∧ W5.cell? ⟨(ad0.add (m * 10)).block, (ad0.add (m * 10)).off + 7, none⟩ = some (.int .i32 (rd_T32 l0 (m : Int)).f5.f1) ∧ W5.cell? ⟨(ad0.add (m * 10)).block, (ad0.add (m * 10)).off + 8, none⟩ = some (.int .i32 (rd_T32 l0 (m : Int)).f6.f0) ∧ W5.cell? ⟨(ad0.add (m * 10)).block, (ad0.add (m * 10)).off + 9, none⟩ = some (.int .i32 (rd_T32 l0 (m : Int)).f6.f1)) ∧ W5.cell? (ad0.add (k * 10)) = some (.int .u32 (rd_T32 l0 (k : Int)).f0) ∧ W5.cell? ⟨(ad0.add (k * 10)).block, (ad0.add (k * 10)).off + 1, none⟩ = some (.int .i32 (rd_T32 l0 (k : Int)).f1) ∧ W5.cell? ⟨(ad0.add (k * 10)).block, (ad0.add (k * 10)).off + 2, none⟩ = some (.int .i32 (rd_T32 l0 (k : Int)).f2.f0) ∧ W5.cell? ⟨(ad0.add (k * 10)).block, (ad0.add (k * 10)).off + 3, none⟩ = some (.int .i32 (rd_T32 l0 (k : Int)).f2.f1) ∧ W5.cell? ⟨(ad0.add (k * 10)).block, (ad0.add (k * 10)).off + 4, none⟩ = some (.int .i32 (rd_T32 l0 (k : Int)).f3) ∧ W5.cell? ⟨(ad0.add (k * 10)).block, (ad0.add (k * 10)).off + 5, none⟩ = some (.int .i32 (rd_T32 l0 (k : Int)).f4) ∧ W5.cell? ⟨(ad0.add (k * 10)).block, (ad0.add (k * 10)).off + 6, none⟩ = some (.int .i32 (rd_T32 l0 (k : Int)).f5.f0) ∧ W5.cell? ⟨(ad0.add (k * 10)).block, (ad0.add (k * 10)).off + 7, none⟩ = some (.int .i32 (rd_T32 l0 (k : Int)).f5.f1) ∧ W5.cell? ⟨(ad0.add (k * 10)).block, (ad0.add (k * 10)).off + 8, none⟩ = some (.int .i32 (rd_T32 l0 (k : Int)).f6.f0) ∧ W5.cell? ⟨(ad0.add (k * 10)).block, (ad0.add (k * 10)).off + 9, none⟩ = some (.int .i32 (rd_T32 l0 (k : Int)).f6.f1))))
   rename_i hHeld
   clear hHeld K3 K4 K5 hS2 hS3 hS4 hC2 hC3 hC4 HA1
   go_wp2_with fail
   have hS6 := hS5.next (below_drew (Below.refl _ _))
   have hC6 := bB hC5 (below_drew (Below.refl W5.heap.size W5))
   have K6 := (⟨shift_box hC6, shift_body (Kd.C_below HR0.out hS6.hw) m hm, shift_body (Kd.C_below HR0.out hS6.hw) k hk⟩ : (W5.drew.cell? ⟨wr.heap.size, 0, none⟩ = some (.int .u32 c.f0.f0) ∧ W5.drew.cell? ⟨wr.heap.size, 1, none⟩ = some (.int .u32 c.f0.f1) ∧ W5.drew.cell? ⟨wr.heap.size, 2, none⟩ = some (.int .i32 c.f1.f0) ∧ W5.drew.cell? ⟨wr.heap.size, 3, none⟩ = some (.int .i32 c.f1.f1) ∧ W5.drew.cell? ⟨wr.heap.size, 4, none⟩ = some (.int .i32 c.f2)) ∧ (W5.drew.cell? (ad0.add (m * 10)) = some (.int .u32 (rd_T32 l0 (m : Int)).f0) ∧ W5.drew.cell? ⟨(ad0.add (m * 10)).block, (ad0.add (m * 10)).off + 1, none⟩ = some (.int .i32 (rd_T32 l0 (m : Int)).f1) ∧ W5.drew.cell? ⟨(ad0.add (m * 10)).block, (ad0.add (m * 10)).off + 2, none⟩ = some (.int .i32 (rd_T32 l0 (m : Int)).f2.f0) ∧ W5.drew.cell? ⟨(ad0.add (m * 10)).block, (ad0.add (m * 10)).off + 3, none⟩ = some (.int .i32 (rd_T32 l0 (m : Int)).f2.f1) ∧ W5.drew.cell? ⟨(ad0.add (m * 10)).block, (ad0.add (m * 10)).off + 4, none⟩ = some (.int .i32 (rd_T32 l0 (m : Int)).f3) ∧ W5.drew.cell? ⟨(ad0.add (m * 10)).block, (ad0.add (m * 10)).off + 5, none⟩ = some (.int .i32 (rd_T32 l0 (m : Int)).f4) ∧ W5.drew.cell? ⟨(ad0.add (m * 10)).block, (ad0.add (m * 10)).off + 6, none⟩ = some (.int .i32 (rd_T32 l0 (m : Int)).f5.f0) ∧ W5.drew.cell? ⟨(ad0.add (m * 10)).block, (ad0.add (m * 10)).off + 7, none⟩ = some (.int .i32 (rd_T32 l0 (m : Int)).f5.f1) ∧ W5.drew.cell? ⟨(ad0.add (m * 10)).block, (ad0.add (m * 10)).off + 8, none⟩ = some (.int .i32 (rd_T32 l0 (m : Int)).f6.f0) ∧ W5.drew.cell? ⟨(ad0.add (m * 10)).block, (ad0.add (m * 10)).off + 9, none⟩ = some (.int .i32 (rd_T32 l0 (m : Int)).f6.f1)) ∧ W5.drew.cell? (ad0.add (k * 10)) = some (.int .u32 (rd_T32 l0 (k : Int)).f0) ∧ W5.drew.cell? ⟨(ad0.add (k * 10)).block, (ad0.add (k * 10)).off + 1, none⟩ = some (.int .i32 (rd_T32 l0 (k : Int)).f1) ∧ W5.drew.cell? ⟨(ad0.add (k * 10)).block, (ad0.add (k * 10)).off + 2, none⟩ = some (.int .i32 (rd_T32 l0 (k : Int)).f2.f0) ∧ W5.drew.cell? ⟨(ad0.add (k * 10)).block, (ad0.add (k * 10)).off + 3, none⟩ = some (.int .i32 (rd_T32 l0 (k : Int)).f2.f1) ∧ W5.drew.cell? ⟨(ad0.add (k * 10)).block, (ad0.add (k * 10)).off + 4, none⟩ = some (.int .i32 (rd_T32 l0 (k : Int)).f3) ∧ W5.drew.cell? ⟨(ad0.add (k * 10)).block, (ad0.add (k * 10)).off + 5, none⟩ = some (.int .i32 (rd_T32 l0 (k : Int)).f4) ∧ W5.drew.cell? ⟨(ad0.add (k * 10)).block, (ad0.add (k * 10)).off + 6, none⟩ = some (.int .i32 (rd_T32 l0 (k : Int)).f5.f0) ∧ W5.drew.cell? ⟨(ad0.add (k * 10)).block, (ad0.add (k * 10)).off + 7, none⟩ = some (.int .i32 (rd_T32 l0 (k : Int)).f5.f1) ∧ W5.drew.cell? ⟨(ad0.add (k * 10)).block, (ad0.add (k * 10)).off + 8, none⟩ = some (.int .i32 (rd_T32 l0 (k : Int)).f6.f0) ∧ W5.drew.cell? ⟨(ad0.add (k * 10)).block, (ad0.add (k * 10)).off + 9, none⟩ = some (.int .i32 (rd_T32 l0 (k : Int)).f6.f1))
   go_region_held3 (fun V => (V.cell? ⟨wr.heap.size, 0, none⟩ = some (.int .u32 c.f0.f0) ∧ V.cell? ⟨wr.heap.size, 1, none⟩ = some (.int .u32 c.f0.f1) ∧ V.cell? ⟨wr.heap.size, 2, none⟩ = some (.int .i32 c.f1.f0) ∧ V.cell? ⟨wr.heap.size, 3, none⟩ = some (.int .i32 c.f1.f1) ∧ V.cell? ⟨wr.heap.size, 4, none⟩ = some (.int .i32 c.f2)) ∧ (V.cell? (ad0.add (m * 10)) = some (.int .u32 (rd_T32 l0 (m : Int)).f0) ∧ V.cell? ⟨(ad0.add (m * 10)).block, (ad0.add (m * 10)).off + 1, none⟩ = some (.int .i32 (rd_T32 l0 (m : Int)).f1) ∧ V.cell? ⟨(ad0.add (m * 10)).block, (ad0.add (m * 10)).off + 2, none⟩ = some (.int .i32 (rd_T32 l0 (m : Int)).f2.f0) ∧ V.cell? ⟨(ad0.add (m * 10)).block, (ad0.add (m * 10)).off + 3, none⟩ = some (.int .i32 (rd_T32 l0 (m : Int)).f2.f1) ∧ V.cell? ⟨(ad0.add (m * 10)).block, (ad0.add (m * 10)).off + 4, none⟩ = some (.int .i32 (rd_T32 l0 (m : Int)).f3) ∧ V.cell? ⟨(ad0.add (m * 10)).block, (ad0.add (m * 10)).off + 5, none⟩ = some (.int .i32 (rd_T32 l0 (m : Int)).f4) ∧ V.cell? ⟨(ad0.add (m * 10)).block, (ad0.add (m * 10)).off + 6, none⟩ = some (.int .i32 (rd_T32 l0 (m : Int)).f5.f0) ∧ V.cell? ⟨(ad0.add (m * 10)).block, (ad0.add (m * 10)).off + 7, none⟩ = some (.int .i32 (rd_T32 l0 (m : Int)).f5.f1) ∧ V.cell? ⟨(ad0.add (m * 10)).block, (ad0.add (m * 10)).off + 8, none⟩ = some (.int .i32 (rd_T32 l0 (m : Int)).f6.f0) ∧ V.cell? ⟨(ad0.add (m * 10)).block, (ad0.add (m * 10)).off + 9, none⟩ = some (.int .i32 (rd_T32 l0 (m : Int)).f6.f1)) ∧ V.cell? (ad0.add (k * 10)) = some (.int .u32 (rd_T32 l0 (k : Int)).f0) ∧ V.cell? ⟨(ad0.add (k * 10)).block, (ad0.add (k * 10)).off + 1, none⟩ = some (.int .i32 (rd_T32 l0 (k : Int)).f1) ∧ V.cell? ⟨(ad0.add (k * 10)).block, (ad0.add (k * 10)).off + 2, none⟩ = some (.int .i32 (rd_T32 l0 (k : Int)).f2.f0) ∧ V.cell? ⟨(ad0.add (k * 10)).block, (ad0.add (k * 10)).off + 3, none⟩ = some (.int .i32 (rd_T32 l0 (k : Int)).f2.f1) ∧ V.cell? ⟨(ad0.add (k * 10)).block, (ad0.add (k * 10)).off + 4, none⟩ = some (.int .i32 (rd_T32 l0 (k : Int)).f3) ∧ V.cell? ⟨(ad0.add (k * 10)).block, (ad0.add (k * 10)).off + 5, none⟩ = some (.int .i32 (rd_T32 l0 (k : Int)).f4) ∧ V.cell? ⟨(ad0.add (k * 10)).block, (ad0.add (k * 10)).off + 6, none⟩ = some (.int .i32 (rd_T32 l0 (k : Int)).f5.f0) ∧ V.cell? ⟨(ad0.add (k * 10)).block, (ad0.add (k * 10)).off + 7, none⟩ = some (.int .i32 (rd_T32 l0 (k : Int)).f5.f1) ∧ V.cell? ⟨(ad0.add (k * 10)).block, (ad0.add (k * 10)).off + 8, none⟩ = some (.int .i32 (rd_T32 l0 (k : Int)).f6.f0) ∧ V.cell? ⟨(ad0.add (k * 10)).block, (ad0.add (k * 10)).off + 9, none⟩ = some (.int .i32 (rd_T32 l0 (k : Int)).f6.f1))
    (first | (with_reducible exact K6) | (with_reducible exact K7) | (with_reducible exact K8))
    (first
    | (go_at_call 12; refine (HA2.out _).mono ?_; rintro e W7 ⟨rfl, hb7⟩; have hS7 := hS6.next hb7; have hC7 := bB hC6 hb7; have K7 := (⟨shift_box hC7, shift_body (Kd.C_below HR0.out hS7.hw) m hm, shift_body (Kd.C_below HR0.out hS7.hw) k hk⟩ : (W7.cell? ⟨wr.heap.size, 0, none⟩ = some (.int .u32 c.f0.f0) ∧ W7.cell? ⟨wr.heap.size, 1, none⟩ = some (.int .u32 c.f0.f1) ∧ W7.cell? ⟨wr.heap.size, 2, none⟩ = some (.int .i32 c.f1.f0) ∧ W7.cell? ⟨wr.heap.size, 3, none⟩ = some (.int .i32 c.f1.f1) ∧ W7.cell? ⟨wr.heap.size, 4, none⟩ = some (.int .i32 c.f2)) ∧ (W7.cell? (ad0.add (m * 10)) = some (.int .u32 (rd_T32 l0 (m : Int)).f0) ∧ W7.cell? ⟨(ad0.add (m * 10)).block, (ad0.add (m * 10)).off + 1, none⟩ = some (.int .i32 (rd_T32 l0 (m : Int)).f1) ∧ W7.cell? ⟨(ad0.add (m * 10)).block, (ad0.add (m * 10)).off + 2, none⟩ = some (.int .i32 (rd_T32 l0 (m : Int)).f2.f0) ∧ W7.cell? ⟨(ad0.add (m * 10)).block, (ad0.add (m * 10)).off + 3, none⟩ = some (.int .i32 (rd_T32 l0 (m : Int)).f2.f1) ∧ W7.cell? ⟨(ad0.add (m * 10)).block, (ad0.add (m * 10)).off + 4, none⟩ = some (.int .i32 (rd_T32 l0 (m : Int)).f3) ∧ W7.cell? ⟨(ad0.add (m * 10)).block, (ad0.add (m * 10)).off + 5, none⟩ = some (.int .i32 (rd_T32 l0 (m : Int)).f4) ∧ W7.cell? ⟨(ad0.add (m * 10)).block, (ad0.add (m * 10)).off + 6, none⟩ = some (.int .i32 (rd_T32 l0 (m : Int)).f5.f0) ∧ W7.cell? ⟨(ad0.add (m * 10)).block, (ad0.add (m * 10)).off + 7, none⟩ = some (.int .i32 (rd_T32 l0 (m : Int)).f5.f1) ∧ W7.cell? ⟨(ad0.add (m * 10)).block, (ad0.add (m * 10)).off + 8, none⟩ = some (.int .i32 (rd_T32 l0 (m : Int)).f6.f0) ∧ W7.cell? ⟨(ad0.add (m * 10)).block, (ad0.add (m * 10)).off + 9, none⟩ = some (.int .i32 (rd_T32 l0 (m : Int)).f6.f1)) ∧ W7.cell? (ad0.add (k * 10)) = some (.int .u32 (rd_T32 l0 (k : Int)).f0) ∧ W7.cell? ⟨(ad0.add (k * 10)).block, (ad0.add (k * 10)).off + 1, none⟩ = some (.int .i32 (rd_T32 l0 (k : Int)).f1) ∧ W7.cell? ⟨(ad0.add (k * 10)).block, (ad0.add (k * 10)).off + 2, none⟩ = some (.int .i32 (rd_T32 l0 (k : Int)).f2.f0) ∧ W7.cell? ⟨(ad0.add (k * 10)).block, (ad0.add (k * 10)).off + 3, none⟩ = some (.int .i32 (rd_T32 l0 (k : Int)).f2.f1) ∧ W7.cell? ⟨(ad0.add (k * 10)).block, (ad0.add (k * 10)).off + 4, none⟩ = some (.int .i32 (rd_T32 l0 (k : Int)).f3) ∧ W7.cell? ⟨(ad0.add (k * 10)).block, (ad0.add (k * 10)).off + 5, none⟩ = some (.int .i32 (rd_T32 l0 (k : Int)).f4) ∧ W7.cell? ⟨(ad0.add (k * 10)).block, (ad0.add (k * 10)).off + 6, none⟩ = some (.int .i32 (rd_T32 l0 (k : Int)).f5.f0) ∧ W7.cell? ⟨(ad0.add (k * 10)).block, (ad0.add (k * 10)).off + 7, none⟩ = some (.int .i32 (rd_T32 l0 (k : Int)).f5.f1) ∧ W7.cell? ⟨(ad0.add (k * 10)).block, (ad0.add (k * 10)).off + 8, none⟩ = some (.int .i32 (rd_T32 l0 (k : Int)).f6.f0) ∧ W7.cell? ⟨(ad0.add (k * 10)).block, (ad0.add (k * 10)).off + 9, none⟩ = some (.int .i32 (rd_T32 l0 (k : Int)).f6.f1)))
    | (go_at_call 24; refine (shift_move.calls hS7 hk hC7 hbg sb 1).mono ?_; rintro e W8 ⟨rfl, hS8, hC8, hz8⟩; have K8 := (⟨shift_box hC8, shift_body (Kd.C_below HR0.out hS8.hw) m hm, shift_body (Kd.C_below HR0.out hS8.hw) k hk⟩ : (W8.cell? ⟨wr.heap.size, 0, none⟩ = some (.int .u32 c.f0.f0) ∧ W8.cell? ⟨wr.heap.size, 1, none⟩ = some (.int .u32 c.f0.f1) ∧ W8.cell? ⟨wr.heap.size, 2, none⟩ = some (.int .i32 c.f1.f0) ∧ W8.cell? ⟨wr.heap.size, 3, none⟩ = some (.int .i32 c.f1.f1) ∧ W8.cell? ⟨wr.heap.size, 4, none⟩ = some (.int .i32 c.f2)) ∧ (W8.cell? (ad0.add (m * 10)) = some (.int .u32 (rd_T32 l0 (m : Int)).f0) ∧ W8.cell? ⟨(ad0.add (m * 10)).block, (ad0.add (m * 10)).off + 1, none⟩ = some (.int .i32 (rd_T32 l0 (m : Int)).f1) ∧ W8.cell? ⟨(ad0.add (m * 10)).block, (ad0.add (m * 10)).off + 2, none⟩ = some (.int .i32 (rd_T32 l0 (m : Int)).f2.f0) ∧ W8.cell? ⟨(ad0.add (m * 10)).block, (ad0.add (m * 10)).off + 3, none⟩ = some (.int .i32 (rd_T32 l0 (m : Int)).f2.f1) ∧ W8.cell? ⟨(ad0.add (m * 10)).block, (ad0.add (m * 10)).off + 4, none⟩ = some (.int .i32 (rd_T32 l0 (m : Int)).f3) ∧ W8.cell? ⟨(ad0.add (m * 10)).block, (ad0.add (m * 10)).off + 5, none⟩ = some (.int .i32 (rd_T32 l0 (m : Int)).f4) ∧ W8.cell? ⟨(ad0.add (m * 10)).block, (ad0.add (m * 10)).off + 6, none⟩ = some (.int .i32 (rd_T32 l0 (m : Int)).f5.f0) ∧ W8.cell? ⟨(ad0.add (m * 10)).block, (ad0.add (m * 10)).off + 7, none⟩ = some (.int .i32 (rd_T32 l0 (m : Int)).f5.f1) ∧ W8.cell? ⟨(ad0.add (m * 10)).block, (ad0.add (m * 10)).off + 8, none⟩ = some (.int .i32 (rd_T32 l0 (m : Int)).f6.f0) ∧ W8.cell? ⟨(ad0.add (m * 10)).block, (ad0.add (m * 10)).off + 9, none⟩ = some (.int .i32 (rd_T32 l0 (m : Int)).f6.f1)) ∧ W8.cell? (ad0.add (k * 10)) = some (.int .u32 (rd_T32 l0 (k : Int)).f0) ∧ W8.cell? ⟨(ad0.add (k * 10)).block, (ad0.add (k * 10)).off + 1, none⟩ = some (.int .i32 (rd_T32 l0 (k : Int)).f1) ∧ W8.cell? ⟨(ad0.add (k * 10)).block, (ad0.add (k * 10)).off + 2, none⟩ = some (.int .i32 (rd_T32 l0 (k : Int)).f2.f0) ∧ W8.cell? ⟨(ad0.add (k * 10)).block, (ad0.add (k * 10)).off + 3, none⟩ = some (.int .i32 (rd_T32 l0 (k : Int)).f2.f1) ∧ W8.cell? ⟨(ad0.add (k * 10)).block, (ad0.add (k * 10)).off + 4, none⟩ = some (.int .i32 (rd_T32 l0 (k : Int)).f3) ∧ W8.cell? ⟨(ad0.add (k * 10)).block, (ad0.add (k * 10)).off + 5, none⟩ = some (.int .i32 (rd_T32 l0 (k : Int)).f4) ∧ W8.cell? ⟨(ad0.add (k * 10)).block, (ad0.add (k * 10)).off + 6, none⟩ = some (.int .i32 (rd_T32 l0 (k : Int)).f5.f0) ∧ W8.cell? ⟨(ad0.add (k * 10)).block, (ad0.add (k * 10)).off + 7, none⟩ = some (.int .i32 (rd_T32 l0 (k : Int)).f5.f1) ∧ W8.cell? ⟨(ad0.add (k * 10)).block, (ad0.add (k * 10)).off + 8, none⟩ = some (.int .i32 (rd_T32 l0 (k : Int)).f6.f0) ∧ W8.cell? ⟨(ad0.add (k * 10)).block, (ad0.add (k * 10)).off + 9, none⟩ = some (.int .i32 (rd_T32 l0 (k : Int)).f6.f1))))
   rename_i hHeld
   clear hHeld K6 K7 K8 hS5 hS6 hS7 hC5 hC6 hC7 hC8 HA2
   have h4 := HH.out
   simp only [Int.toNat_natCast] at h4
   have hw1 : wrap64 ((i : Int) + 1) = ((i + 1 : Nat) : Int) := by have := HL1.out; exact shift_next (by omega) HL1.out
   go_wp2_with fail
   rw [hw1]
   go_roundw
   case rel => exact ⟨i + 1, _, rfl, hlt, aM h4, hS8⟩
   case measure => exact shift_measure hlt
  ·have d1 : decide ((i : Int) < (l1.length : Int)) = false := decide_eq_false (by omega)
   go_wp2_with fail
   have hd : l1.drop i = [] := List.drop_eq_nil_of_le (by omega)
   have h := HH.out
   rw [hd] at h
   unfold shiftsL at h
   cases h
   refine bodyPost_ret (results_tmp rfl _ _ _) rfl ?_
   refine ⟨_, rfl, ⟨fun _ _ => trivial, flatS r, ⟨by rw [flatS_len]; rfl, .inr ⟨w.heap.size, l0.length, _, (by show Value.slice _ l0.length l0.length = _; rw [hsn]), Nat.le_refl _, HS.out.hg, Nat.le_of_eq hsn, by unfold maxLen; omega, by rw [List.size_toArray, flatS_len, hsn]; rfl, ?_⟩⟩, shift_reps r⟩, HS.out.hw⟩
   rw [List.toList_toArray]
   exact List.take_of_length_le (by rw [flatS_len]; exact Nat.le_refl _)

end Go.Proofs.Ytplmeknmeobanaa.Q
