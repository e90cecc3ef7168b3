-- PRINTED by print.py (a twelfth state) out of the translation. Not trusted: Lean checks it.
import Derived.Test.YtcbdcgghccjdpaaQ0
import Derived.Test.YtcbdcgghccjdpaaMspec
import Derived.Test.YtcbdcgghccjdpaaQwide
import Derived.Deep.RegionHeld3
import Derived.Test.YtcbdcgghccjdpaaMwide
namespace Go.Proofs.Ytcbdcgghccjdpaa.Q
open Go.RowKit.Below renaming refl → lR
open Go.RowKit Go.Proofs.YtcbdcgghccjdpaaW.PrintWords Go.Proofs.YtcbdcgghccjdpaaW.PrintLast Go.Proofs.YtcbdcgghccjdpaaW.PrintMore
open Go.Proofs.YtcbdcgghccjdpaaW.PrintWords renaming blk_drewN → bN, blk_drew → bD, blk_alloc → bA, blk_below → bB, blk_cell → bC, blk_frozen → bF, blk_lt → bL, below_alloc → lA, pw_below_drewN → lN, below_drew1 → lD, below_set → lS, below_step → lT, below_size → lZ, Aside0.mk → aM
open List renaming setIfInBounds_toArray → sA, set_cons_zero → sB, set_cons_succ → sC
open Bool renaming true → T, false → F
attribute [local go_sem] max2_int min2_int max_two min_two max_three min_three max_four min_four   -- for this text's walks alone
set_option linter.unusedVariables false
set_option linter.unusedSimpArgs false

/-! ### impulse_Approach: function 38 -/
def impulse_Approach.f (a0_0 : Int) (a0_1 : Int) (a0_2 : Int) (a0_3 : Int) (a0_4 : Int) (a1_0 : Int) (a1_1 : Int) (a1_2 : Int) (a1_3 : Int) (a1_4 : Int) (a1_5 : Int) (a1_6 : Int) (a1_7 : Int) (a1_8 : Int) (a1_9 : Int) (a2_0 : Int) (a2_1 : Int) (a2_2 : Int) (a2_3 : Int) (a2_4 : Int) (a2_5 : Int) (a2_6 : Int) (a2_7 : Int) (a2_8 : Int) (a2_9 : Int) : Option (Int) := some ((wrap64 ((wrap64 ((wrap64 ((wrap64 (a2_8)) - (wrap64 (a1_8)))) * (wrap64 (a0_2)))) + (wrap64 ((wrap64 ((wrap64 (a2_9)) - (wrap64 (a1_9)))) * (wrap64 (a0_3)))))) / 65536)
set_option maxHeartbeats 8000000 in
set_option maxRecDepth 100000 in
theorem impulse_Approach.calls (a0_0 : Int) (a0_1 : Int) (a0_2 : Int) (a0_3 : Int) (a0_4 : Int) (a1_0 : Int) (a1_1 : Int) (a1_2 : Int) (a1_3 : Int) (a1_4 : Int) (a1_5 : Int) (a1_6 : Int) (a1_7 : Int) (a1_8 : Int) (a1_9 : Int) (a2_0 : Int) (a2_1 : Int) (a2_2 : Int) (a2_3 : Int) (a2_4 : Int) (a2_5 : Int) (a2_6 : Int) (a2_7 : Int) (a2_8 : Int) (a2_9 : Int) (r : Int) (w : World) (h : impulse_Approach.f a0_0 a0_1 a0_2 a0_3 a0_4 a1_0 a1_1 a1_2 a1_3 a1_4 a1_5 a1_6 a1_7 a1_8 a1_9 a2_0 a2_1 a2_2 a2_3 a2_4 a2_5 a2_6 a2_7 a2_8 a2_9 = some r) :
  Calls Try.prog 38 #[.agg #[.int .u32 a0_0, .int .u32 a0_1, .int .i32 a0_2, .int .i32 a0_3, .int .i32 a0_4], .agg #[.int .u32 a1_0, .int .i32 a1_1, .int .i32 a1_2, .int .i32 a1_3, .int .i32 a1_4, .int .i32 a1_5, .int .i32 a1_6, .int .i32 a1_7, .int .i32 a1_8, .int .i32 a1_9], .agg #[.int .u32 a2_0, .int .i32 a2_1, .int .i32 a2_2, .int .i32 a2_3, .int .i32 a2_4, .int .i32 a2_5, .int .i32 a2_6, .int .i32 a2_7, .int .i32 a2_8, .int .i32 a2_9]] w fun e w' => e = .returned (.int .i64 r) ∧ Below w.heap.size w w' := by
 have hu41 := Try.underlying41
 have hu44 := Try.underlying44
 have HB := aM (Below.refl w.heap.size w)
 have H : (some ((wrap64 ((wrap64 ((wrap64 ((wrap64 (a2_8)) - (wrap64 (a1_8)))) * (wrap64 (a0_2)))) + (wrap64 ((wrap64 ((wrap64 (a2_9)) - (wrap64 (a1_9)))) * (wrap64 (a0_3)))))) / 65536)) = some r := h
 clear h
 obtain rfl := Option.some.inj H
 go_enter Try.func38, Try.ntmps38
 go_wp2_with (first | ((with_reducible refine gate_dst (N := 3) rfl ?_); refine box_event ?hg (N := 3) ?hd (cs := #[.int .u32 a0_0, .int .u32 a0_1, .int .i32 a0_2, .int .i32 a0_3, .int .i32 a0_4]) (t := 41) ?hr ?_; (case hd => rfl); (case hg => rfl); (case hr => first | (go_simp; done) | (go_simp; rfl)); intro b150 hg w4 hbox hb; have n0_ := aM (lT (by repeat (first | (with_reducible first | exact HB.out | apply lA | apply lN | apply lD) | exact HB.out)) hb); have n1_ := aM (hbox); have n2_ := aM ((by rw [hg]; exact (lZ (by repeat (first | (with_reducible first | exact HB.out | apply lA | apply lN | apply lD) | exact HB.out))) : w.heap.size ≤ b150)); have n3_ := aM ((by rw [hg]; exact (lZ (by repeat (first | (with_reducible first | exact HB.out | apply lA | apply lN | apply lD) | exact HB.out))) : w.heap.size ≤ b150)); clear HB; have HB := n0_; have BK150 := n1_; have GW150 := n2_; have GE150 := n3_; clear n0_ n1_ n2_ n3_; clear hb hbox hg) | ((with_reducible refine gate_dst (N := 4) rfl ?_); refine box_event ?hg (N := 4) ?hd (cs := #[.int .u32 a1_0, .int .i32 a1_1, .int .i32 a1_2, .int .i32 a1_3, .int .i32 a1_4, .int .i32 a1_5, .int .i32 a1_6, .int .i32 a1_7, .int .i32 a1_8, .int .i32 a1_9]) (t := 44) ?hr ?_; (case hd => rfl); (case hg => rfl); (case hr => first | (go_simp; done) | (go_simp; rfl)); intro b151 hg w5 hbox hb; have n0_ := aM (bB (by (with_reducible repeat first | apply bN | apply bD | apply bA); exact BK150.out) hb); have n1_ := aM (lT (by repeat (first | (with_reducible first | exact HB.out | apply lA | apply lN | apply lD | refine lS ?_ GE150.out) | exact HB.out)) hb); have n2_ := aM (hbox); have n3_ := aM ((by rw [hg]; exact (lZ (by repeat (first | (with_reducible first | exact HB.out | apply lA | apply lN | apply lD | refine lS ?_ GE150.out) | exact HB.out))) : w.heap.size ≤ b151)); have n4_ := aM ((by rw [hg]; exact (lZ (by repeat (first | (with_reducible first | exact HB.out | apply lA | apply lN | apply lD | refine lS ?_ GE150.out) | exact HB.out))) : w.heap.size ≤ b151)); have n5_ := aM ((by rw [hg]; exact Nat.ne_of_lt (bL (g := b150) (by (with_reducible repeat first | apply bN | apply bD | apply bA); exact BK150.out)) : b150 ≠ b151)); have n6_ := aM ((by rw [hg]; exact Nat.ne_of_gt (bL (g := b150) (by (with_reducible repeat first | apply bN | apply bD | apply bA); exact BK150.out)) : b151 ≠ b150)); clear BK150; clear HB; have BK150 := n0_; have HB := n1_; have BK151 := n2_; have GW151 := n3_; have GE151 := n4_; have N0_ := n5_; have N1_ := n6_; clear n0_ n1_ n2_ n3_ n4_ n5_ n6_; clear hb hbox hg) | ((with_reducible refine gate_dst (N := 5) rfl ?_); refine box_event ?hg (N := 5) ?hd (cs := #[.int .u32 a2_0, .int .i32 a2_1, .int .i32 a2_2, .int .i32 a2_3, .int .i32 a2_4, .int .i32 a2_5, .int .i32 a2_6, .int .i32 a2_7, .int .i32 a2_8, .int .i32 a2_9]) (t := 44) ?hr ?_; (case hd => rfl); (case hg => rfl); (case hr => first | (go_simp; done) | (go_simp; rfl)); intro b152 hg w6 hbox hb; have n0_ := aM (bB (by (with_reducible repeat first | apply bN | apply bD | apply bA); exact BK150.out) hb); have n1_ := aM (bB (by (with_reducible repeat first | apply bN | apply bD | apply bA); exact BK151.out) hb); have n2_ := aM (lT (by repeat (first | (with_reducible first | exact HB.out | apply lA | apply lN | apply lD | refine lS ?_ GE150.out | refine lS ?_ GE151.out) | exact HB.out)) hb); have n3_ := aM (hbox); have n4_ := aM ((by rw [hg]; exact (lZ (by repeat (first | (with_reducible first | exact HB.out | apply lA | apply lN | apply lD | refine lS ?_ GE150.out | refine lS ?_ GE151.out) | exact HB.out))) : w.heap.size ≤ b152)); have n5_ := aM ((by rw [hg]; exact (lZ (by repeat (first | (with_reducible first | exact HB.out | apply lA | apply lN | apply lD | refine lS ?_ GE150.out | refine lS ?_ GE151.out) | exact HB.out))) : w.heap.size ≤ b152)); have n6_ := aM ((by rw [hg]; exact Nat.ne_of_lt (bL (g := b150) (by (with_reducible repeat first | apply bN | apply bD | apply bA); exact BK150.out)) : b150 ≠ b152)); have n7_ := aM ((by rw [hg]; exact Nat.ne_of_gt (bL (g := b150) (by (with_reducible repeat first | apply bN | apply bD | apply bA); exact BK150.out)) : b152 ≠ b150)); have n8_ := aM ((by rw [hg]; exact Nat.ne_of_lt (bL (g := b151) (by (with_reducible repeat first | apply bN | apply bD | apply bA); exact BK151.out)) : b151 ≠ b152)); have n9_ := aM ((by rw [hg]; exact Nat.ne_of_gt (bL (g := b151) (by (with_reducible repeat first | apply bN | apply bD | apply bA); exact BK151.out)) : b152 ≠ b151)); clear BK150; clear BK151; clear HB; have BK150 := n0_; have BK151 := n1_; have HB := n2_; have BK152 := n3_; have GW152 := n4_; have GE152 := n5_; have N2_ := n6_; have N3_ := n7_; have N4_ := n8_; have N5_ := n9_; clear n0_ n1_ n2_ n3_ n4_ n5_ n6_ n7_ n8_ n9_; clear hb hbox hg; have hnb7 := N3_.out; have hnc7 := N2_.out; have hnb8 := N5_.out; have hnc8 := N4_.out; have hcz9_0 : w6.cell? ⟨b152, 0, none⟩ = some (.int .u32 a2_0) := (bC BK152.out 0).trans rfl; have hcz9_1 : w6.cell? ⟨b152, 1, none⟩ = some (.int .i32 a2_1) := (bC BK152.out 1).trans rfl; have hcz9_2 : w6.cell? ⟨b152, 2, none⟩ = some (.int .i32 a2_2) := (bC BK152.out 2).trans rfl; have hcz9_3 : w6.cell? ⟨b152, 3, none⟩ = some (.int .i32 a2_3) := (bC BK152.out 3).trans rfl; have hcz9_4 : w6.cell? ⟨b152, 4, none⟩ = some (.int .i32 a2_4) := (bC BK152.out 4).trans rfl; have hcz9_5 : w6.cell? ⟨b152, 5, none⟩ = some (.int .i32 a2_5) := (bC BK152.out 5).trans rfl; have hcz9_6 : w6.cell? ⟨b152, 6, none⟩ = some (.int .i32 a2_6) := (bC BK152.out 6).trans rfl; have hcz9_7 : w6.cell? ⟨b152, 7, none⟩ = some (.int .i32 a2_7) := (bC BK152.out 7).trans rfl; have hcz9_8 : w6.cell? ⟨b152, 8, none⟩ = some (.int .i32 a2_8) := (bC BK152.out 8).trans rfl; have hcz9_9 : w6.cell? ⟨b152, 9, none⟩ = some (.int .i32 a2_9) := (bC BK152.out 9).trans rfl; have hfz9_0 := bF BK152.out 0; have hfz9_1 := bF BK152.out 1; have hfz9_2 := bF BK152.out 2; have hfz9_3 := bF BK152.out 3; have hfz9_4 := bF BK152.out 4; have hfz9_5 := bF BK152.out 5; have hfz9_6 := bF BK152.out 6; have hfz9_7 := bF BK152.out 7; have hfz9_8 := bF BK152.out 8; have hfz9_9 := bF BK152.out 9; have hnb10 := N1_.out; have hnc10 := N0_.out; have hcz11_0 : w6.cell? ⟨b151, 0, none⟩ = some (.int .u32 a1_0) := (bC BK151.out 0).trans rfl; have hcz11_1 : w6.cell? ⟨b151, 1, none⟩ = some (.int .i32 a1_1) := (bC BK151.out 1).trans rfl; have hcz11_2 : w6.cell? ⟨b151, 2, none⟩ = some (.int .i32 a1_2) := (bC BK151.out 2).trans rfl; have hcz11_3 : w6.cell? ⟨b151, 3, none⟩ = some (.int .i32 a1_3) := (bC BK151.out 3).trans rfl; have hcz11_4 : w6.cell? ⟨b151, 4, none⟩ = some (.int .i32 a1_4) := (bC BK151.out 4).trans rfl; have hcz11_5 : w6.cell? ⟨b151, 5, none⟩ = some (.int .i32 a1_5) := (bC BK151.out 5).trans rfl; have hcz11_6 : w6.cell? ⟨b151, 6, none⟩ = some (.int .i32 a1_6) := (bC BK151.out 6).trans rfl; have hcz11_7 : w6.cell? ⟨b151, 7, none⟩ = some (.int .i32 a1_7) := (bC BK151.out 7).trans rfl; have hcz11_8 : w6.cell? ⟨b151, 8, none⟩ = some (.int .i32 a1_8) := (bC BK151.out 8).trans rfl; have hcz11_9 : w6.cell? ⟨b151, 9, none⟩ = some (.int .i32 a1_9) := (bC BK151.out 9).trans rfl; have hfz11_0 := bF BK151.out 0; have hfz11_1 := bF BK151.out 1; have hfz11_2 := bF BK151.out 2; have hfz11_3 := bF BK151.out 3; have hfz11_4 := bF BK151.out 4; have hfz11_5 := bF BK151.out 5; have hfz11_6 := bF BK151.out 6; have hfz11_7 := bF BK151.out 7; have hfz11_8 := bF BK151.out 8; have hfz11_9 := bF BK151.out 9; have hcz12_0 : w6.cell? ⟨b150, 0, none⟩ = some (.int .u32 a0_0) := (bC BK150.out 0).trans rfl; have hcz12_1 : w6.cell? ⟨b150, 1, none⟩ = some (.int .u32 a0_1) := (bC BK150.out 1).trans rfl; have hcz12_2 : w6.cell? ⟨b150, 2, none⟩ = some (.int .i32 a0_2) := (bC BK150.out 2).trans rfl; have hcz12_3 : w6.cell? ⟨b150, 3, none⟩ = some (.int .i32 a0_3) := (bC BK150.out 3).trans rfl; have hcz12_4 : w6.cell? ⟨b150, 4, none⟩ = some (.int .i32 a0_4) := (bC BK150.out 4).trans rfl; have hfz12_0 := bF BK150.out 0; have hfz12_1 := bF BK150.out 1; have hfz12_2 := bF BK150.out 2; have hfz12_3 := bF BK150.out 3; have hfz12_4 := bF BK150.out 4))
 repeat (go_quiet (first | ((with_reducible refine gate_dst (N := 3) rfl ?_); refine box_event ?hg (N := 3) ?hd (cs := #[.int .u32 a0_0, .int .u32 a0_1, .int .i32 a0_2, .int .i32 a0_3, .int .i32 a0_4]) (t := 41) ?hr ?_; (case hd => rfl); (case hg => rfl); (case hr => first | (go_simp; done) | (go_simp; rfl)); intro b150 hg w4 hbox hb; have n0_ := aM (lT (by repeat (first | (with_reducible first | exact HB.out | apply lA | apply lN | apply lD) | exact HB.out)) hb); have n1_ := aM (hbox); have n2_ := aM ((by rw [hg]; exact (lZ (by repeat (first | (with_reducible first | exact HB.out | apply lA | apply lN | apply lD) | exact HB.out))) : w.heap.size ≤ b150)); have n3_ := aM ((by rw [hg]; exact (lZ (by repeat (first | (with_reducible first | exact HB.out | apply lA | apply lN | apply lD) | exact HB.out))) : w.heap.size ≤ b150)); clear HB; have HB := n0_; have BK150 := n1_; have GW150 := n2_; have GE150 := n3_; clear n0_ n1_ n2_ n3_; clear hb hbox hg) | ((with_reducible refine gate_dst (N := 4) rfl ?_); refine box_event ?hg (N := 4) ?hd (cs := #[.int .u32 a1_0, .int .i32 a1_1, .int .i32 a1_2, .int .i32 a1_3, .int .i32 a1_4, .int .i32 a1_5, .int .i32 a1_6, .int .i32 a1_7, .int .i32 a1_8, .int .i32 a1_9]) (t := 44) ?hr ?_; (case hd => rfl); (case hg => rfl); (case hr => first | (go_simp; done) | (go_simp; rfl)); intro b151 hg w5 hbox hb; have n0_ := aM (bB (by (with_reducible repeat first | apply bN | apply bD | apply bA); exact BK150.out) hb); have n1_ := aM (lT (by repeat (first | (with_reducible first | exact HB.out | apply lA | apply lN | apply lD | refine lS ?_ GE150.out) | exact HB.out)) hb); have n2_ := aM (hbox); have n3_ := aM ((by rw [hg]; exact (lZ (by repeat (first | (with_reducible first | exact HB.out | apply lA | apply lN | apply lD | refine lS ?_ GE150.out) | exact HB.out))) : w.heap.size ≤ b151)); have n4_ := aM ((by rw [hg]; exact (lZ (by repeat (first | (with_reducible first | exact HB.out | apply lA | apply lN | apply lD | refine lS ?_ GE150.out) | exact HB.out))) : w.heap.size ≤ b151)); have n5_ := aM ((by rw [hg]; exact Nat.ne_of_lt (bL (g := b150) (by (with_reducible repeat first | apply bN | apply bD | apply bA); exact BK150.out)) : b150 ≠ b151)); have n6_ := aM ((by rw [hg]; exact Nat.ne_of_gt (bL (g := b150) (by (with_reducible repeat first | apply bN | apply bD | apply bA); exact BK150.out)) : b151 ≠ b150)); clear BK150; clear HB; have BK150 := n0_; have HB := n1_; have BK151 := n2_; have GW151 := n3_; have GE151 := n4_; have N0_ := n5_; have N1_ := n6_; clear n0_ n1_ n2_ n3_ n4_ n5_ n6_; clear hb hbox hg) | ((with_reducible refine gate_dst (N := 5) rfl ?_); refine box_event ?hg (N := 5) ?hd (cs := #[.int .u32 a2_0, .int .i32 a2_1, .int .i32 a2_2, .int .i32 a2_3, .int .i32 a2_4, .int .i32 a2_5, .int .i32 a2_6, .int .i32 a2_7, .int .i32 a2_8, .int .i32 a2_9]) (t := 44) ?hr ?_; (case hd => rfl); (case hg => rfl); (case hr => first | (go_simp; done) | (go_simp; rfl)); intro b152 hg w6 hbox hb; have n0_ := aM (bB (by (with_reducible repeat first | apply bN | apply bD | apply bA); exact BK150.out) hb); have n1_ := aM (bB (by (with_reducible repeat first | apply bN | apply bD | apply bA); exact BK151.out) hb); have n2_ := aM (lT (by repeat (first | (with_reducible first | exact HB.out | apply lA | apply lN | apply lD | refine lS ?_ GE150.out | refine lS ?_ GE151.out) | exact HB.out)) hb); have n3_ := aM (hbox); have n4_ := aM ((by rw [hg]; exact (lZ (by repeat (first | (with_reducible first | exact HB.out | apply lA | apply lN | apply lD | refine lS ?_ GE150.out | refine lS ?_ GE151.out) | exact HB.out))) : w.heap.size ≤ b152)); have n5_ := aM ((by rw [hg]; exact (lZ (by repeat (first | (with_reducible first | exact HB.out | apply lA | apply lN | apply lD | refine lS ?_ GE150.out | refine lS ?_ GE151.out) | exact HB.out))) : w.heap.size ≤ b152)); have n6_ := aM ((by rw [hg]; exact Nat.ne_of_lt (bL (g := b150) (by (with_reducible repeat first | apply bN | apply bD | apply bA); exact BK150.out)) : b150 ≠ b152)); have n7_ := aM ((by rw [hg]; exact Nat.ne_of_gt (bL (g := b150) (by (with_reducible repeat first | apply bN | apply bD | apply bA); exact BK150.out)) : b152 ≠ b150)); have n8_ := aM ((by rw [hg]; exact Nat.ne_of_lt (bL (g := b151) (by (with_reducible repeat first | apply bN | apply bD | apply bA); exact BK151.out)) : b151 ≠ b152)); have n9_ := aM ((by rw [hg]; exact Nat.ne_of_gt (bL (g := b151) (by (with_reducible repeat first | apply bN | apply bD | apply bA); exact BK151.out)) : b152 ≠ b151)); clear BK150; clear BK151; clear HB; have BK150 := n0_; have BK151 := n1_; have HB := n2_; have BK152 := n3_; have GW152 := n4_; have GE152 := n5_; have N2_ := n6_; have N3_ := n7_; have N4_ := n8_; have N5_ := n9_; clear n0_ n1_ n2_ n3_ n4_ n5_ n6_ n7_ n8_ n9_; clear hb hbox hg; have hnb7 := N3_.out; have hnc7 := N2_.out; have hnb8 := N5_.out; have hnc8 := N4_.out; have hcz9_0 : w6.cell? ⟨b152, 0, none⟩ = some (.int .u32 a2_0) := (bC BK152.out 0).trans rfl; have hcz9_1 : w6.cell? ⟨b152, 1, none⟩ = some (.int .i32 a2_1) := (bC BK152.out 1).trans rfl; have hcz9_2 : w6.cell? ⟨b152, 2, none⟩ = some (.int .i32 a2_2) := (bC BK152.out 2).trans rfl; have hcz9_3 : w6.cell? ⟨b152, 3, none⟩ = some (.int .i32 a2_3) := (bC BK152.out 3).trans rfl; have hcz9_4 : w6.cell? ⟨b152, 4, none⟩ = some (.int .i32 a2_4) := (bC BK152.out 4).trans rfl; have hcz9_5 : w6.cell? ⟨b152, 5, none⟩ = some (.int .i32 a2_5) := (bC BK152.out 5).trans rfl; have hcz9_6 : w6.cell? ⟨b152, 6, none⟩ = some (.int .i32 a2_6) := (bC BK152.out 6).trans rfl; have hcz9_7 : w6.cell? ⟨b152, 7, none⟩ = some (.int .i32 a2_7) := (bC BK152.out 7).trans rfl; have hcz9_8 : w6.cell? ⟨b152, 8, none⟩ = some (.int .i32 a2_8) := (bC BK152.out 8).trans rfl; have hcz9_9 : w6.cell? ⟨b152, 9, none⟩ = some (.int .i32 a2_9) := (bC BK152.out 9).trans rfl; have hfz9_0 := bF BK152.out 0; have hfz9_1 := bF BK152.out 1; have hfz9_2 := bF BK152.out 2; have hfz9_3 := bF BK152.out 3; have hfz9_4 := bF BK152.out 4; have hfz9_5 := bF BK152.out 5; have hfz9_6 := bF BK152.out 6; have hfz9_7 := bF BK152.out 7; have hfz9_8 := bF BK152.out 8; have hfz9_9 := bF BK152.out 9; have hnb10 := N1_.out; have hnc10 := N0_.out; have hcz11_0 : w6.cell? ⟨b151, 0, none⟩ = some (.int .u32 a1_0) := (bC BK151.out 0).trans rfl; have hcz11_1 : w6.cell? ⟨b151, 1, none⟩ = some (.int .i32 a1_1) := (bC BK151.out 1).trans rfl; have hcz11_2 : w6.cell? ⟨b151, 2, none⟩ = some (.int .i32 a1_2) := (bC BK151.out 2).trans rfl; have hcz11_3 : w6.cell? ⟨b151, 3, none⟩ = some (.int .i32 a1_3) := (bC BK151.out 3).trans rfl; have hcz11_4 : w6.cell? ⟨b151, 4, none⟩ = some (.int .i32 a1_4) := (bC BK151.out 4).trans rfl; have hcz11_5 : w6.cell? ⟨b151, 5, none⟩ = some (.int .i32 a1_5) := (bC BK151.out 5).trans rfl; have hcz11_6 : w6.cell? ⟨b151, 6, none⟩ = some (.int .i32 a1_6) := (bC BK151.out 6).trans rfl; have hcz11_7 : w6.cell? ⟨b151, 7, none⟩ = some (.int .i32 a1_7) := (bC BK151.out 7).trans rfl; have hcz11_8 : w6.cell? ⟨b151, 8, none⟩ = some (.int .i32 a1_8) := (bC BK151.out 8).trans rfl; have hcz11_9 : w6.cell? ⟨b151, 9, none⟩ = some (.int .i32 a1_9) := (bC BK151.out 9).trans rfl; have hfz11_0 := bF BK151.out 0; have hfz11_1 := bF BK151.out 1; have hfz11_2 := bF BK151.out 2; have hfz11_3 := bF BK151.out 3; have hfz11_4 := bF BK151.out 4; have hfz11_5 := bF BK151.out 5; have hfz11_6 := bF BK151.out 6; have hfz11_7 := bF BK151.out 7; have hfz11_8 := bF BK151.out 8; have hfz11_9 := bF BK151.out 9; have hcz12_0 : w6.cell? ⟨b150, 0, none⟩ = some (.int .u32 a0_0) := (bC BK150.out 0).trans rfl; have hcz12_1 : w6.cell? ⟨b150, 1, none⟩ = some (.int .u32 a0_1) := (bC BK150.out 1).trans rfl; have hcz12_2 : w6.cell? ⟨b150, 2, none⟩ = some (.int .i32 a0_2) := (bC BK150.out 2).trans rfl; have hcz12_3 : w6.cell? ⟨b150, 3, none⟩ = some (.int .i32 a0_3) := (bC BK150.out 3).trans rfl; have hcz12_4 : w6.cell? ⟨b150, 4, none⟩ = some (.int .i32 a0_4) := (bC BK150.out 4).trans rfl; have hfz12_0 := bF BK150.out 0; have hfz12_1 := bF BK150.out 1; have hfz12_2 := bF BK150.out 2; have hfz12_3 := bF BK150.out 3; have hfz12_4 := bF BK150.out 4)); try go_wp2_with (first | ((with_reducible refine gate_dst (N := 3) rfl ?_); refine box_event ?hg (N := 3) ?hd (cs := #[.int .u32 a0_0, .int .u32 a0_1, .int .i32 a0_2, .int .i32 a0_3, .int .i32 a0_4]) (t := 41) ?hr ?_; (case hd => rfl); (case hg => rfl); (case hr => first | (go_simp; done) | (go_simp; rfl)); intro b150 hg w4 hbox hb; have n0_ := aM (lT (by repeat (first | (with_reducible first | exact HB.out | apply lA | apply lN | apply lD) | exact HB.out)) hb); have n1_ := aM (hbox); have n2_ := aM ((by rw [hg]; exact (lZ (by repeat (first | (with_reducible first | exact HB.out | apply lA | apply lN | apply lD) | exact HB.out))) : w.heap.size ≤ b150)); have n3_ := aM ((by rw [hg]; exact (lZ (by repeat (first | (with_reducible first | exact HB.out | apply lA | apply lN | apply lD) | exact HB.out))) : w.heap.size ≤ b150)); clear HB; have HB := n0_; have BK150 := n1_; have GW150 := n2_; have GE150 := n3_; clear n0_ n1_ n2_ n3_; clear hb hbox hg) | ((with_reducible refine gate_dst (N := 4) rfl ?_); refine box_event ?hg (N := 4) ?hd (cs := #[.int .u32 a1_0, .int .i32 a1_1, .int .i32 a1_2, .int .i32 a1_3, .int .i32 a1_4, .int .i32 a1_5, .int .i32 a1_6, .int .i32 a1_7, .int .i32 a1_8, .int .i32 a1_9]) (t := 44) ?hr ?_; (case hd => rfl); (case hg => rfl); (case hr => first | (go_simp; done) | (go_simp; rfl)); intro b151 hg w5 hbox hb; have n0_ := aM (bB (by (with_reducible repeat first | apply bN | apply bD | apply bA); exact BK150.out) hb); have n1_ := aM (lT (by repeat (first | (with_reducible first | exact HB.out | apply lA | apply lN | apply lD | refine lS ?_ GE150.out) | exact HB.out)) hb); have n2_ := aM (hbox); have n3_ := aM ((by rw [hg]; exact (lZ (by repeat (first | (with_reducible first | exact HB.out | apply lA | apply lN | apply lD | refine lS ?_ GE150.out) | exact HB.out))) : w.heap.size ≤ b151)); have n4_ := aM ((by rw [hg]; exact (lZ (by repeat (first | (with_reducible first | exact HB.out | apply lA | apply lN | apply lD | refine lS ?_ GE150.out) | exact HB.out))) : w.heap.size ≤ b151)); have n5_ := aM ((by rw [hg]; exact Nat.ne_of_lt (bL (g := b150) (by (with_reducible repeat first | apply bN | apply bD | apply bA); exact BK150.out)) : b150 ≠ b151)); have n6_ := aM ((by rw [hg]; exact Nat.ne_of_gt (bL (g := b150) (by (with_reducible repeat first | apply bN | apply bD | apply bA); exact BK150.out)) : b151 ≠ b150)); clear BK150; clear HB; have BK150 := n0_; have HB := n1_; have BK151 := n2_; have GW151 := n3_; have GE151 := n4_; have N0_ := n5_; have N1_ := n6_; clear n0_ n1_ n2_ n3_ n4_ n5_ n6_; clear hb hbox hg) | ((with_reducible refine gate_dst (N := 5) rfl ?_); refine box_event ?hg (N := 5) ?hd (cs := #[.int .u32 a2_0, .int .i32 a2_1, .int .i32 a2_2, .int .i32 a2_3, .int .i32 a2_4, .int .i32 a2_5, .int .i32 a2_6, .int .i32 a2_7, .int .i32 a2_8, .int .i32 a2_9]) (t := 44) ?hr ?_; (case hd => rfl); (case hg => rfl); (case hr => first | (go_simp; done) | (go_simp; rfl)); intro b152 hg w6 hbox hb; have n0_ := aM (bB (by (with_reducible repeat first | apply bN | apply bD | apply bA); exact BK150.out) hb); have n1_ := aM (bB (by (with_reducible repeat first | apply bN | apply bD | apply bA); exact BK151.out) hb); have n2_ := aM (lT (by repeat (first | (with_reducible first | exact HB.out | apply lA | apply lN | apply lD | refine lS ?_ GE150.out | refine lS ?_ GE151.out) | exact HB.out)) hb); have n3_ := aM (hbox); have n4_ := aM ((by rw [hg]; exact (lZ (by repeat (first | (with_reducible first | exact HB.out | apply lA | apply lN | apply lD | refine lS ?_ GE150.out | refine lS ?_ GE151.out) | exact HB.out))) : w.heap.size ≤ b152)); have n5_ := aM ((by rw [hg]; exact (lZ (by repeat (first | (with_reducible first | exact HB.out | apply lA | apply lN | apply lD | refine lS ?_ GE150.out | refine lS ?_ GE151.out) | exact HB.out))) : w.heap.size ≤ b152)); have n6_ := aM ((by rw [hg]; exact Nat.ne_of_lt (bL (g := b150) (by (with_reducible repeat first | apply bN | apply bD | apply bA); exact BK150.out)) : b150 ≠ b152)); have n7_ := aM ((by rw [hg]; exact Nat.ne_of_gt (bL (g := b150) (by (with_reducible repeat first | apply bN | apply bD | apply bA); exact BK150.out)) : b152 ≠ b150)); have n8_ := aM ((by rw [hg]; exact Nat.ne_of_lt (bL (g := b151) (by (with_reducible repeat first | apply bN | apply bD | apply bA); exact BK151.out)) : b151 ≠ b152)); have n9_ := aM ((by rw [hg]; exact Nat.ne_of_gt (bL (g := b151) (by (with_reducible repeat first | apply bN | apply bD | apply bA); exact BK151.out)) : b152 ≠ b151)); clear BK150; clear BK151; clear HB; have BK150 := n0_; have BK151 := n1_; have HB := n2_; have BK152 := n3_; have GW152 := n4_; have GE152 := n5_; have N2_ := n6_; have N3_ := n7_; have N4_ := n8_; have N5_ := n9_; clear n0_ n1_ n2_ n3_ n4_ n5_ n6_ n7_ n8_ n9_; clear hb hbox hg; have hnb7 := N3_.out; have hnc7 := N2_.out; have hnb8 := N5_.out; have hnc8 := N4_.out; have hcz9_0 : w6.cell? ⟨b152, 0, none⟩ = some (.int .u32 a2_0) := (bC BK152.out 0).trans rfl; have hcz9_1 : w6.cell? ⟨b152, 1, none⟩ = some (.int .i32 a2_1) := (bC BK152.out 1).trans rfl; have hcz9_2 : w6.cell? ⟨b152, 2, none⟩ = some (.int .i32 a2_2) := (bC BK152.out 2).trans rfl; have hcz9_3 : w6.cell? ⟨b152, 3, none⟩ = some (.int .i32 a2_3) := (bC BK152.out 3).trans rfl; have hcz9_4 : w6.cell? ⟨b152, 4, none⟩ = some (.int .i32 a2_4) := (bC BK152.out 4).trans rfl; have hcz9_5 : w6.cell? ⟨b152, 5, none⟩ = some (.int .i32 a2_5) := (bC BK152.out 5).trans rfl; have hcz9_6 : w6.cell? ⟨b152, 6, none⟩ = some (.int .i32 a2_6) := (bC BK152.out 6).trans rfl; have hcz9_7 : w6.cell? ⟨b152, 7, none⟩ = some (.int .i32 a2_7) := (bC BK152.out 7).trans rfl; have hcz9_8 : w6.cell? ⟨b152, 8, none⟩ = some (.int .i32 a2_8) := (bC BK152.out 8).trans rfl; have hcz9_9 : w6.cell? ⟨b152, 9, none⟩ = some (.int .i32 a2_9) := (bC BK152.out 9).trans rfl; have hfz9_0 := bF BK152.out 0; have hfz9_1 := bF BK152.out 1; have hfz9_2 := bF BK152.out 2; have hfz9_3 := bF BK152.out 3; have hfz9_4 := bF BK152.out 4; have hfz9_5 := bF BK152.out 5; have hfz9_6 := bF BK152.out 6; have hfz9_7 := bF BK152.out 7; have hfz9_8 := bF BK152.out 8; have hfz9_9 := bF BK152.out 9; have hnb10 := N1_.out; have hnc10 := N0_.out; have hcz11_0 : w6.cell? ⟨b151, 0, none⟩ = some (.int .u32 a1_0) := (bC BK151.out 0).trans rfl; have hcz11_1 : w6.cell? ⟨b151, 1, none⟩ = some (.int .i32 a1_1) := (bC BK151.out 1).trans rfl; have hcz11_2 : w6.cell? ⟨b151, 2, none⟩ = some (.int .i32 a1_2) := (bC BK151.out 2).trans rfl; have hcz11_3 : w6.cell? ⟨b151, 3, none⟩ = some (.int .i32 a1_3) := (bC BK151.out 3).trans rfl; have hcz11_4 : w6.cell? ⟨b151, 4, none⟩ = some (.int .i32 a1_4) := (bC BK151.out 4).trans rfl; have hcz11_5 : w6.cell? ⟨b151, 5, none⟩ = some (.int .i32 a1_5) := (bC BK151.out 5).trans rfl; have hcz11_6 : w6.cell? ⟨b151, 6, none⟩ = some (.int .i32 a1_6) := (bC BK151.out 6).trans rfl; have hcz11_7 : w6.cell? ⟨b151, 7, none⟩ = some (.int .i32 a1_7) := (bC BK151.out 7).trans rfl; have hcz11_8 : w6.cell? ⟨b151, 8, none⟩ = some (.int .i32 a1_8) := (bC BK151.out 8).trans rfl; have hcz11_9 : w6.cell? ⟨b151, 9, none⟩ = some (.int .i32 a1_9) := (bC BK151.out 9).trans rfl; have hfz11_0 := bF BK151.out 0; have hfz11_1 := bF BK151.out 1; have hfz11_2 := bF BK151.out 2; have hfz11_3 := bF BK151.out 3; have hfz11_4 := bF BK151.out 4; have hfz11_5 := bF BK151.out 5; have hfz11_6 := bF BK151.out 6; have hfz11_7 := bF BK151.out 7; have hfz11_8 := bF BK151.out 8; have hfz11_9 := bF BK151.out 9; have hcz12_0 : w6.cell? ⟨b150, 0, none⟩ = some (.int .u32 a0_0) := (bC BK150.out 0).trans rfl; have hcz12_1 : w6.cell? ⟨b150, 1, none⟩ = some (.int .u32 a0_1) := (bC BK150.out 1).trans rfl; have hcz12_2 : w6.cell? ⟨b150, 2, none⟩ = some (.int .i32 a0_2) := (bC BK150.out 2).trans rfl; have hcz12_3 : w6.cell? ⟨b150, 3, none⟩ = some (.int .i32 a0_3) := (bC BK150.out 3).trans rfl; have hcz12_4 : w6.cell? ⟨b150, 4, none⟩ = some (.int .i32 a0_4) := (bC BK150.out 4).trans rfl; have hfz12_0 := bF BK150.out 0; have hfz12_1 := bF BK150.out 1; have hfz12_2 := bF BK150.out 2; have hfz12_3 := bF BK150.out 3; have hfz12_4 := bF BK150.out 4)))
 go_ret
 exact ⟨by first | rfl | (simp [errW_none, errW_some] <;> rfl) | (simp [*, errW_none, errW_some] <;> rfl), by repeat (first | (with_reducible first | exact HB.out | apply lA | apply lN | apply lD | refine lS ?_ GE150.out | refine lS ?_ GE151.out | refine lS ?_ GE152.out) | exact HB.out)⟩

/-! ### impulse_Bounce: function 40 -/
def impulse_Bounce.f (a0_0 : Int) (a0_1 : Int) (a0_2 : Int) (a0_3 : Int) (a0_4 : Int) (a0_5 : Int) (a0_6 : Int) (a0_7 : Int) (a0_8 : Int) (a0_9 : Int) (a1_0 : Int) (a1_1 : Int) (a1_2 : Int) (a1_3 : Int) (a1_4 : Int) (a1_5 : Int) (a1_6 : Int) (a1_7 : Int) (a1_8 : Int) (a1_9 : Int) : Option (Int) := some (mx a0_5 a1_5)
set_option maxHeartbeats 8000000 in
set_option maxRecDepth 100000 in
theorem impulse_Bounce.calls (a0_0 : Int) (a0_1 : Int) (a0_2 : Int) (a0_3 : Int) (a0_4 : Int) (a0_5 : Int) (a0_6 : Int) (a0_7 : Int) (a0_8 : Int) (a0_9 : Int) (a1_0 : Int) (a1_1 : Int) (a1_2 : Int) (a1_3 : Int) (a1_4 : Int) (a1_5 : Int) (a1_6 : Int) (a1_7 : Int) (a1_8 : Int) (a1_9 : Int) (r : Int) (w : World) (h : impulse_Bounce.f a0_0 a0_1 a0_2 a0_3 a0_4 a0_5 a0_6 a0_7 a0_8 a0_9 a1_0 a1_1 a1_2 a1_3 a1_4 a1_5 a1_6 a1_7 a1_8 a1_9 = some r) :
  Calls Try.prog 40 #[.agg #[.int .u32 a0_0, .int .i32 a0_1, .int .i32 a0_2, .int .i32 a0_3, .int .i32 a0_4, .int .i32 a0_5, .int .i32 a0_6, .int .i32 a0_7, .int .i32 a0_8, .int .i32 a0_9], .agg #[.int .u32 a1_0, .int .i32 a1_1, .int .i32 a1_2, .int .i32 a1_3, .int .i32 a1_4, .int .i32 a1_5, .int .i32 a1_6, .int .i32 a1_7, .int .i32 a1_8, .int .i32 a1_9]] w fun e w' => e = .returned (.int .i32 r) ∧ Below w.heap.size w w' := by
 have hu44 := Try.underlying44
 have HB := aM (Below.refl w.heap.size w)
 have H : (some (mx a0_5 a1_5)) = some r := h
 clear h
 obtain ⟨ji3, hji3⟩ : ∃ j_ : Int, (mx a0_5 a1_5) = j_ := ⟨_, rfl⟩
 replace H : (some ji3) = some r := by first | (rw [hji3] at H; exact H) | (simp only [hji3] at H ⊢; exact H)
 have hji3_ : (if a0_5 < a1_5 then a1_5 else a0_5) = ji3 := hji3
 obtain rfl := Option.some.inj H
 go_enter Try.func40, Try.ntmps40
 go_wp2_with (first | ((with_reducible refine gate_dst (N := 2) rfl ?_); refine box_event ?hg (N := 2) ?hd (cs := #[.int .u32 a0_0, .int .i32 a0_1, .int .i32 a0_2, .int .i32 a0_3, .int .i32 a0_4, .int .i32 a0_5, .int .i32 a0_6, .int .i32 a0_7, .int .i32 a0_8, .int .i32 a0_9]) (t := 44) ?hr ?_; (case hd => rfl); (case hg => rfl); (case hr => first | (go_simp; done) | (go_simp; rfl)); intro b155 hg w4 hbox hb; have n0_ := aM (lT (by repeat (first | (with_reducible first | exact HB.out | apply lA | apply lN | apply lD) | exact HB.out)) hb); have n1_ := aM (hbox); have n2_ := aM ((by rw [hg]; exact (lZ (by repeat (first | (with_reducible first | exact HB.out | apply lA | apply lN | apply lD) | exact HB.out))) : w.heap.size ≤ b155)); have n3_ := aM ((by rw [hg]; exact (lZ (by repeat (first | (with_reducible first | exact HB.out | apply lA | apply lN | apply lD) | exact HB.out))) : w.heap.size ≤ b155)); clear HB; have HB := n0_; have BK155 := n1_; have GW155 := n2_; have GE155 := n3_; clear n0_ n1_ n2_ n3_; clear hb hbox hg) | ((with_reducible refine gate_dst (N := 3) rfl ?_); refine box_event ?hg (N := 3) ?hd (cs := #[.int .u32 a1_0, .int .i32 a1_1, .int .i32 a1_2, .int .i32 a1_3, .int .i32 a1_4, .int .i32 a1_5, .int .i32 a1_6, .int .i32 a1_7, .int .i32 a1_8, .int .i32 a1_9]) (t := 44) ?hr ?_; (case hd => rfl); (case hg => rfl); (case hr => first | (go_simp; done) | (go_simp; rfl)); intro b156 hg w5 hbox hb; have n0_ := aM (bB (by (with_reducible repeat first | apply bN | apply bD | apply bA); exact BK155.out) hb); have n1_ := aM (lT (by repeat (first | (with_reducible first | exact HB.out | apply lA | apply lN | apply lD | refine lS ?_ GE155.out) | exact HB.out)) hb); have n2_ := aM (hbox); have n3_ := aM ((by rw [hg]; exact (lZ (by repeat (first | (with_reducible first | exact HB.out | apply lA | apply lN | apply lD | refine lS ?_ GE155.out) | exact HB.out))) : w.heap.size ≤ b156)); have n4_ := aM ((by rw [hg]; exact (lZ (by repeat (first | (with_reducible first | exact HB.out | apply lA | apply lN | apply lD | refine lS ?_ GE155.out) | exact HB.out))) : w.heap.size ≤ b156)); have n5_ := aM ((by rw [hg]; exact Nat.ne_of_lt (bL (g := b155) (by (with_reducible repeat first | apply bN | apply bD | apply bA); exact BK155.out)) : b155 ≠ b156)); have n6_ := aM ((by rw [hg]; exact Nat.ne_of_gt (bL (g := b155) (by (with_reducible repeat first | apply bN | apply bD | apply bA); exact BK155.out)) : b156 ≠ b155)); clear BK155; clear HB; have BK155 := n0_; have HB := n1_; have BK156 := n2_; have GW156 := n3_; have GE156 := n4_; have N6_ := n5_; have N7_ := n6_; clear n0_ n1_ n2_ n3_ n4_ n5_ n6_; clear hb hbox hg; have hnb6 := N6_.out; have hnc6 := N7_.out; have hcz7_0 : w5.cell? ⟨b155, 0, none⟩ = some (.int .u32 a0_0) := (bC BK155.out 0).trans rfl; have hcz7_1 : w5.cell? ⟨b155, 1, none⟩ = some (.int .i32 a0_1) := (bC BK155.out 1).trans rfl; have hcz7_2 : w5.cell? ⟨b155, 2, none⟩ = some (.int .i32 a0_2) := (bC BK155.out 2).trans rfl; have hcz7_3 : w5.cell? ⟨b155, 3, none⟩ = some (.int .i32 a0_3) := (bC BK155.out 3).trans rfl; have hcz7_4 : w5.cell? ⟨b155, 4, none⟩ = some (.int .i32 a0_4) := (bC BK155.out 4).trans rfl; have hcz7_5 : w5.cell? ⟨b155, 5, none⟩ = some (.int .i32 a0_5) := (bC BK155.out 5).trans rfl; have hcz7_6 : w5.cell? ⟨b155, 6, none⟩ = some (.int .i32 a0_6) := (bC BK155.out 6).trans rfl; have hcz7_7 : w5.cell? ⟨b155, 7, none⟩ = some (.int .i32 a0_7) := (bC BK155.out 7).trans rfl; have hcz7_8 : w5.cell? ⟨b155, 8, none⟩ = some (.int .i32 a0_8) := (bC BK155.out 8).trans rfl; have hcz7_9 : w5.cell? ⟨b155, 9, none⟩ = some (.int .i32 a0_9) := (bC BK155.out 9).trans rfl; have hfz7_0 := bF BK155.out 0; have hfz7_1 := bF BK155.out 1; have hfz7_2 := bF BK155.out 2; have hfz7_3 := bF BK155.out 3; have hfz7_4 := bF BK155.out 4; have hfz7_5 := bF BK155.out 5; have hfz7_6 := bF BK155.out 6; have hfz7_7 := bF BK155.out 7; have hfz7_8 := bF BK155.out 8; have hfz7_9 := bF BK155.out 9; have hcz8_0 : w5.cell? ⟨b156, 0, none⟩ = some (.int .u32 a1_0) := (bC BK156.out 0).trans rfl; have hcz8_1 : w5.cell? ⟨b156, 1, none⟩ = some (.int .i32 a1_1) := (bC BK156.out 1).trans rfl; have hcz8_2 : w5.cell? ⟨b156, 2, none⟩ = some (.int .i32 a1_2) := (bC BK156.out 2).trans rfl; have hcz8_3 : w5.cell? ⟨b156, 3, none⟩ = some (.int .i32 a1_3) := (bC BK156.out 3).trans rfl; have hcz8_4 : w5.cell? ⟨b156, 4, none⟩ = some (.int .i32 a1_4) := (bC BK156.out 4).trans rfl; have hcz8_5 : w5.cell? ⟨b156, 5, none⟩ = some (.int .i32 a1_5) := (bC BK156.out 5).trans rfl; have hcz8_6 : w5.cell? ⟨b156, 6, none⟩ = some (.int .i32 a1_6) := (bC BK156.out 6).trans rfl; have hcz8_7 : w5.cell? ⟨b156, 7, none⟩ = some (.int .i32 a1_7) := (bC BK156.out 7).trans rfl; have hcz8_8 : w5.cell? ⟨b156, 8, none⟩ = some (.int .i32 a1_8) := (bC BK156.out 8).trans rfl; have hcz8_9 : w5.cell? ⟨b156, 9, none⟩ = some (.int .i32 a1_9) := (bC BK156.out 9).trans rfl; have hfz8_0 := bF BK156.out 0; have hfz8_1 := bF BK156.out 1; have hfz8_2 := bF BK156.out 2; have hfz8_3 := bF BK156.out 3; have hfz8_4 := bF BK156.out 4; have hfz8_5 := bF BK156.out 5; have hfz8_6 := bF BK156.out 6; have hfz8_7 := bF BK156.out 7; have hfz8_8 := bF BK156.out 8; have hfz8_9 := bF BK156.out 9))
 go_ret
 exact ⟨by first | rfl | (simp [errW_none, errW_some] <;> rfl) | (simp only [← hji3]; first | rfl | (simp [errW_none, errW_some] <;> rfl)) | (simp [*, errW_none, errW_some] <;> rfl), by repeat (first | (with_reducible first | exact HB.out | apply lA | apply lN | apply lD | refine lS ?_ GE155.out | refine lS ?_ GE156.out) | exact HB.out)⟩

/-! ### impulse_Strength: function 29 -/
def impulse_Strength.j0 : Nat → Int → Int → Bool → Int → Int → Int → Int → Int → Int → Int → Int → Int → Int → Int → Int → Int → Int → Int → Int → Int → Int → Int → Int → Option (Int)
 | 0, _, _, _, _, _, _, _, _, _, _, _, _, _, _, _, _, _, _, _, _, _, _, _ => none
 | k + 1, x7, x8, x27, x159000, x159001, x159002, x159003, x159004, x159005, x159006, x159007, x159008, x159009, x160000, x160001, x160002, x160003, x160004, x160005, x160006, x160007, x160008, x160009 => if x27 = true then (some 0) else ((impulse_Bounce.f x159000 x159001 x159002 x159003 x159004 x159005 x159006 x159007 x159008 x159009 x160000 x160001 x160002 x160003 x160004 x160005 x160006 x160007 x160008 x160009).bind fun t161 => ((wide_MulDiv.f (wrap64 (-x7)) (wrap64 (65536 + (wrap64 (t161)))) x8).bind fun bt162 => (some bt162.1)))
def impulse_Strength.f (k : Nat) (a0_0 : Int) (a0_1 : Int) (a0_2 : Int) (a0_3 : Int) (a0_4 : Int) (a1_0 : Int) (a1_1 : Int) (a1_2 : Int) (a1_3 : Int) (a1_4 : Int) (a1_5 : Int) (a1_6 : Int) (a1_7 : Int) (a1_8 : Int) (a1_9 : Int) (a2_0 : Int) (a2_1 : Int) (a2_2 : Int) (a2_3 : Int) (a2_4 : Int) (a2_5 : Int) (a2_6 : Int) (a2_7 : Int) (a2_8 : Int) (a2_9 : Int) : Option (Int) := (impulse_Approach.f a0_0 a0_1 a0_2 a0_3 a0_4 a1_0 a1_1 a1_2 a1_3 a1_4 a1_5 a1_6 a1_7 a1_8 a1_9 a2_0 a2_1 a2_2 a2_3 a2_4 a2_5 a2_6 a2_7 a2_8 a2_9).bind fun t160 => (if t160 ≥ 0 then (impulse_Strength.j0 k t160 (wrap64 ((wrap64 (a1_4)) + (wrap64 (a2_4)))) true a1_0 a1_1 a1_2 a1_3 a1_4 a1_5 a1_6 a1_7 a1_8 a1_9 a2_0 a2_1 a2_2 a2_3 a2_4 a2_5 a2_6 a2_7 a2_8 a2_9) else (impulse_Strength.j0 k t160 (wrap64 ((wrap64 (a1_4)) + (wrap64 (a2_4)))) ((wrap64 ((wrap64 (a1_4)) + (wrap64 (a2_4)))) == 0) a1_0 a1_1 a1_2 a1_3 a1_4 a1_5 a1_6 a1_7 a1_8 a1_9 a2_0 a2_1 a2_2 a2_3 a2_4 a2_5 a2_6 a2_7 a2_8 a2_9))
theorem impulse_Strength.mono_l : ∀ k, (∀ y0 y1 y2 y3 y4 y5 y6 y7 y8 y9 y10 y11 y12 y13 y14 y15 y16 y17 y18 y19 y20 y21 y22, LeO (impulse_Strength.j0 k y0 y1 y2 y3 y4 y5 y6 y7 y8 y9 y10 y11 y12 y13 y14 y15 y16 y17 y18 y19 y20 y21 y22) (impulse_Strength.j0 (k + 1) y0 y1 y2 y3 y4 y5 y6 y7 y8 y9 y10 y11 y12 y13 y14 y15 y16 y17 y18 y19 y20 y21 y22))
 | 0 => fun _ _ _ _ _ _ _ _ _ _ _ _ _ _ _ _ _ _ _ _ _ _ _ r h => by simp [impulse_Strength.j0] at h
 | k + 1 => by
  have ih0 := impulse_Strength.mono_l k
  ·intro y0 y1 y2 y3 y4 y5 y6 y7 y8 y9 y10 y11 y12 y13 y14 y15 y16 y17 y18 y19 y20 y21 y22
   unfold impulse_Strength.j0
   repeat' first
   | (with_reducible exact ih0 _ _ _ _ _ _ _ _ _ _ _ _ _ _ _ _ _ _ _ _ _ _ _)
   | (with_reducible exact LeO.refl _)
   | (with_reducible exact LeO.none _)
   | (with_reducible refine LeO.ite ?_ ?_)
   | (with_reducible refine LeO.bind ?_ (fun _ => ?_))
   | exact ih0 _ _ _ _ _ _ _ _ _ _ _ _ _ _ _ _ _ _ _ _ _ _ _
   | exact LeO.none _
   | refine LeO.ite ?_ ?_
   | refine LeO.bind ?_ (fun _ => ?_)
theorem impulse_Strength.mono : ∀ a0 a1 a2 a3 a4 a5 a6 a7 a8 a9 a10 a11 a12 a13 a14 a15 a16 a17 a18 a19 a20 a21 a22 a23 a24 k, LeO (impulse_Strength.f k a0 a1 a2 a3 a4 a5 a6 a7 a8 a9 a10 a11 a12 a13 a14 a15 a16 a17 a18 a19 a20 a21 a22 a23 a24) (impulse_Strength.f (k + 1) a0 a1 a2 a3 a4 a5 a6 a7 a8 a9 a10 a11 a12 a13 a14 a15 a16 a17 a18 a19 a20 a21 a22 a23 a24) := by
 intro a0 a1 a2 a3 a4 a5 a6 a7 a8 a9 a10 a11 a12 a13 a14 a15 a16 a17 a18 a19 a20 a21 a22 a23 a24 k
 have ih0 := impulse_Strength.mono_l k
 unfold impulse_Strength.f
 repeat' first
   | (with_reducible exact ih0 _ _ _ _ _ _ _ _ _ _ _ _ _ _ _ _ _ _ _ _ _ _ _)
   | (with_reducible exact LeO.refl _)
   | (with_reducible exact LeO.none _)
   | (with_reducible refine LeO.ite ?_ ?_)
   | (with_reducible refine LeO.bind ?_ (fun _ => ?_))
   | exact ih0 _ _ _ _ _ _ _ _ _ _ _ _ _ _ _ _ _ _ _ _ _ _ _
   | exact LeO.none _
   | refine LeO.ite ?_ ?_
   | refine LeO.bind ?_ (fun _ => ?_)
set_option maxHeartbeats 8000000 in
set_option maxRecDepth 100000 in
theorem impulse_Strength.calls (k : Nat) (a0_0 : Int) (a0_1 : Int) (a0_2 : Int) (a0_3 : Int) (a0_4 : Int) (a1_0 : Int) (a1_1 : Int) (a1_2 : Int) (a1_3 : Int) (a1_4 : Int) (a1_5 : Int) (a1_6 : Int) (a1_7 : Int) (a1_8 : Int) (a1_9 : Int) (a2_0 : Int) (a2_1 : Int) (a2_2 : Int) (a2_3 : Int) (a2_4 : Int) (a2_5 : Int) (a2_6 : Int) (a2_7 : Int) (a2_8 : Int) (a2_9 : Int) (r : Int) (w : World) (h : impulse_Strength.f k a0_0 a0_1 a0_2 a0_3 a0_4 a1_0 a1_1 a1_2 a1_3 a1_4 a1_5 a1_6 a1_7 a1_8 a1_9 a2_0 a2_1 a2_2 a2_3 a2_4 a2_5 a2_6 a2_7 a2_8 a2_9 = some r) :
  Calls Try.prog 29 #[.agg #[.int .u32 a0_0, .int .u32 a0_1, .int .i32 a0_2, .int .i32 a0_3, .int .i32 a0_4], .agg #[.int .u32 a1_0, .int .i32 a1_1, .int .i32 a1_2, .int .i32 a1_3, .int .i32 a1_4, .int .i32 a1_5, .int .i32 a1_6, .int .i32 a1_7, .int .i32 a1_8, .int .i32 a1_9], .agg #[.int .u32 a2_0, .int .i32 a2_1, .int .i32 a2_2, .int .i32 a2_3, .int .i32 a2_4, .int .i32 a2_5, .int .i32 a2_6, .int .i32 a2_7, .int .i32 a2_8, .int .i32 a2_9]] w fun e w' => e = .returned (.int .i64 r) ∧ Below w.heap.size w w' := by
 have hu41 := Try.underlying41
 have hu44 := Try.underlying44
 have HB := aM (Below.refl w.heap.size w)
 have H : ((impulse_Approach.f a0_0 a0_1 a0_2 a0_3 a0_4 a1_0 a1_1 a1_2 a1_3 a1_4 a1_5 a1_6 a1_7 a1_8 a1_9 a2_0 a2_1 a2_2 a2_3 a2_4 a2_5 a2_6 a2_7 a2_8 a2_9).bind fun t160 => (if t160 ≥ 0 then (impulse_Strength.j0 k t160 (wrap64 ((wrap64 (a1_4)) + (wrap64 (a2_4)))) true a1_0 a1_1 a1_2 a1_3 a1_4 a1_5 a1_6 a1_7 a1_8 a1_9 a2_0 a2_1 a2_2 a2_3 a2_4 a2_5 a2_6 a2_7 a2_8 a2_9) else (impulse_Strength.j0 k t160 (wrap64 ((wrap64 (a1_4)) + (wrap64 (a2_4)))) ((wrap64 ((wrap64 (a1_4)) + (wrap64 (a2_4)))) == 0) a1_0 a1_1 a1_2 a1_3 a1_4 a1_5 a1_6 a1_7 a1_8 a1_9 a2_0 a2_1 a2_2 a2_3 a2_4 a2_5 a2_6 a2_7 a2_8 a2_9))) = some r := h
 clear h
 replace H := Option.bind_eq_some_iff.mp H
 obtain ⟨t160, A40, H⟩ := H
 try dsimp only at H
 have A4 := aM A40
 clear A40
 have HC5 := aM H
 clear H
 go_enter Try.func29, Try.ntmps29
 go_upto_region 3 with (first | ((with_reducible refine gate_dst (N := 3) rfl ?_); refine box_event ?hg (N := 3) ?hd (cs := #[.int .u32 a0_0, .int .u32 a0_1, .int .i32 a0_2, .int .i32 a0_3, .int .i32 a0_4]) (t := 41) ?hr ?_; (case hd => rfl); (case hg => rfl); (case hr => first | (go_simp; done) | (go_simp; rfl)); intro b157 hg w6 hbox hb; have n0_ := aM (lT (by repeat (first | (with_reducible first | exact HB.out | apply lA | apply lN | apply lD) | exact HB.out)) hb); have n1_ := aM (hbox); have n2_ := aM ((by rw [hg]; exact (lZ (by repeat (first | (with_reducible first | exact HB.out | apply lA | apply lN | apply lD) | exact HB.out))) : w.heap.size ≤ b157)); have n3_ := aM ((by rw [hg]; exact (lZ (by repeat (first | (with_reducible first | exact HB.out | apply lA | apply lN | apply lD) | exact HB.out))) : w.heap.size ≤ b157)); clear HB; have HB := n0_; have BK157 := n1_; have GW157 := n2_; have GE157 := n3_; clear n0_ n1_ n2_ n3_; clear hb hbox hg) | ((with_reducible refine gate_dst (N := 4) rfl ?_); refine box_event ?hg (N := 4) ?hd (cs := #[.int .u32 a1_0, .int .i32 a1_1, .int .i32 a1_2, .int .i32 a1_3, .int .i32 a1_4, .int .i32 a1_5, .int .i32 a1_6, .int .i32 a1_7, .int .i32 a1_8, .int .i32 a1_9]) (t := 44) ?hr ?_; (case hd => rfl); (case hg => rfl); (case hr => first | (go_simp; done) | (go_simp; rfl)); intro b158 hg w7 hbox hb; have n0_ := aM (bB (by (with_reducible repeat first | apply bN | apply bD | apply bA); exact BK157.out) hb); have n1_ := aM (lT (by repeat (first | (with_reducible first | exact HB.out | apply lA | apply lN | apply lD | refine lS ?_ GE157.out) | exact HB.out)) hb); have n2_ := aM (hbox); have n3_ := aM ((by rw [hg]; exact (lZ (by repeat (first | (with_reducible first | exact HB.out | apply lA | apply lN | apply lD | refine lS ?_ GE157.out) | exact HB.out))) : w.heap.size ≤ b158)); have n4_ := aM ((by rw [hg]; exact (lZ (by repeat (first | (with_reducible first | exact HB.out | apply lA | apply lN | apply lD | refine lS ?_ GE157.out) | exact HB.out))) : w.heap.size ≤ b158)); have n5_ := aM ((by rw [hg]; exact Nat.ne_of_lt (bL (g := b157) (by (with_reducible repeat first | apply bN | apply bD | apply bA); exact BK157.out)) : b157 ≠ b158)); have n6_ := aM ((by rw [hg]; exact Nat.ne_of_gt (bL (g := b157) (by (with_reducible repeat first | apply bN | apply bD | apply bA); exact BK157.out)) : b158 ≠ b157)); clear BK157; clear HB; have BK157 := n0_; have HB := n1_; have BK158 := n2_; have GW158 := n3_; have GE158 := n4_; have N8_ := n5_; have N9_ := n6_; clear n0_ n1_ n2_ n3_ n4_ n5_ n6_; clear hb hbox hg) | ((with_reducible refine gate_dst (N := 5) rfl ?_); refine box_event ?hg (N := 5) ?hd (cs := #[.int .u32 a2_0, .int .i32 a2_1, .int .i32 a2_2, .int .i32 a2_3, .int .i32 a2_4, .int .i32 a2_5, .int .i32 a2_6, .int .i32 a2_7, .int .i32 a2_8, .int .i32 a2_9]) (t := 44) ?hr ?_; (case hd => rfl); (case hg => rfl); (case hr => first | (go_simp; done) | (go_simp; rfl)); intro b159 hg w8 hbox hb; have n0_ := aM (bB (by (with_reducible repeat first | apply bN | apply bD | apply bA); exact BK157.out) hb); have n1_ := aM (bB (by (with_reducible repeat first | apply bN | apply bD | apply bA); exact BK158.out) hb); have n2_ := aM (lT (by repeat (first | (with_reducible first | exact HB.out | apply lA | apply lN | apply lD | refine lS ?_ GE157.out | refine lS ?_ GE158.out) | exact HB.out)) hb); have n3_ := aM (hbox); have n4_ := aM ((by rw [hg]; exact (lZ (by repeat (first | (with_reducible first | exact HB.out | apply lA | apply lN | apply lD | refine lS ?_ GE157.out | refine lS ?_ GE158.out) | exact HB.out))) : w.heap.size ≤ b159)); have n5_ := aM ((by rw [hg]; exact (lZ (by repeat (first | (with_reducible first | exact HB.out | apply lA | apply lN | apply lD | refine lS ?_ GE157.out | refine lS ?_ GE158.out) | exact HB.out))) : w.heap.size ≤ b159)); have n6_ := aM ((by rw [hg]; exact Nat.ne_of_lt (bL (g := b157) (by (with_reducible repeat first | apply bN | apply bD | apply bA); exact BK157.out)) : b157 ≠ b159)); have n7_ := aM ((by rw [hg]; exact Nat.ne_of_gt (bL (g := b157) (by (with_reducible repeat first | apply bN | apply bD | apply bA); exact BK157.out)) : b159 ≠ b157)); have n8_ := aM ((by rw [hg]; exact Nat.ne_of_lt (bL (g := b158) (by (with_reducible repeat first | apply bN | apply bD | apply bA); exact BK158.out)) : b158 ≠ b159)); have n9_ := aM ((by rw [hg]; exact Nat.ne_of_gt (bL (g := b158) (by (with_reducible repeat first | apply bN | apply bD | apply bA); exact BK158.out)) : b159 ≠ b158)); clear BK157; clear BK158; clear HB; have BK157 := n0_; have BK158 := n1_; have HB := n2_; have BK159 := n3_; have GW159 := n4_; have GE159 := n5_; have N10_ := n6_; have N11_ := n7_; have N12_ := n8_; have N13_ := n9_; clear n0_ n1_ n2_ n3_ n4_ n5_ n6_ n7_ n8_ n9_; clear hb hbox hg; have hnb9 := N8_.out; have hnc9 := N9_.out; have hnb10 := N10_.out; have hnc10 := N11_.out; have hcz11_0 : w8.cell? ⟨b157, 0, none⟩ = some (.int .u32 a0_0) := (bC BK157.out 0).trans rfl; have hcz11_1 : w8.cell? ⟨b157, 1, none⟩ = some (.int .u32 a0_1) := (bC BK157.out 1).trans rfl; have hcz11_2 : w8.cell? ⟨b157, 2, none⟩ = some (.int .i32 a0_2) := (bC BK157.out 2).trans rfl; have hcz11_3 : w8.cell? ⟨b157, 3, none⟩ = some (.int .i32 a0_3) := (bC BK157.out 3).trans rfl; have hcz11_4 : w8.cell? ⟨b157, 4, none⟩ = some (.int .i32 a0_4) := (bC BK157.out 4).trans rfl; have hfz11_0 := bF BK157.out 0; have hfz11_1 := bF BK157.out 1; have hfz11_2 := bF BK157.out 2; have hfz11_3 := bF BK157.out 3; have hfz11_4 := bF BK157.out 4; have hnb12 := N12_.out; have hnc12 := N13_.out; have hcz13_0 : w8.cell? ⟨b158, 0, none⟩ = some (.int .u32 a1_0) := (bC BK158.out 0).trans rfl; have hcz13_1 : w8.cell? ⟨b158, 1, none⟩ = some (.int .i32 a1_1) := (bC BK158.out 1).trans rfl; have hcz13_2 : w8.cell? ⟨b158, 2, none⟩ = some (.int .i32 a1_2) := (bC BK158.out 2).trans rfl; have hcz13_3 : w8.cell? ⟨b158, 3, none⟩ = some (.int .i32 a1_3) := (bC BK158.out 3).trans rfl; have hcz13_4 : w8.cell? ⟨b158, 4, none⟩ = some (.int .i32 a1_4) := (bC BK158.out 4).trans rfl; have hcz13_5 : w8.cell? ⟨b158, 5, none⟩ = some (.int .i32 a1_5) := (bC BK158.out 5).trans rfl; have hcz13_6 : w8.cell? ⟨b158, 6, none⟩ = some (.int .i32 a1_6) := (bC BK158.out 6).trans rfl; have hcz13_7 : w8.cell? ⟨b158, 7, none⟩ = some (.int .i32 a1_7) := (bC BK158.out 7).trans rfl; have hcz13_8 : w8.cell? ⟨b158, 8, none⟩ = some (.int .i32 a1_8) := (bC BK158.out 8).trans rfl; have hcz13_9 : w8.cell? ⟨b158, 9, none⟩ = some (.int .i32 a1_9) := (bC BK158.out 9).trans rfl; have hfz13_0 := bF BK158.out 0; have hfz13_1 := bF BK158.out 1; have hfz13_2 := bF BK158.out 2; have hfz13_3 := bF BK158.out 3; have hfz13_4 := bF BK158.out 4; have hfz13_5 := bF BK158.out 5; have hfz13_6 := bF BK158.out 6; have hfz13_7 := bF BK158.out 7; have hfz13_8 := bF BK158.out 8; have hfz13_9 := bF BK158.out 9; have hcz14_0 : w8.cell? ⟨b159, 0, none⟩ = some (.int .u32 a2_0) := (bC BK159.out 0).trans rfl; have hcz14_1 : w8.cell? ⟨b159, 1, none⟩ = some (.int .i32 a2_1) := (bC BK159.out 1).trans rfl; have hcz14_2 : w8.cell? ⟨b159, 2, none⟩ = some (.int .i32 a2_2) := (bC BK159.out 2).trans rfl; have hcz14_3 : w8.cell? ⟨b159, 3, none⟩ = some (.int .i32 a2_3) := (bC BK159.out 3).trans rfl; have hcz14_4 : w8.cell? ⟨b159, 4, none⟩ = some (.int .i32 a2_4) := (bC BK159.out 4).trans rfl; have hcz14_5 : w8.cell? ⟨b159, 5, none⟩ = some (.int .i32 a2_5) := (bC BK159.out 5).trans rfl; have hcz14_6 : w8.cell? ⟨b159, 6, none⟩ = some (.int .i32 a2_6) := (bC BK159.out 6).trans rfl; have hcz14_7 : w8.cell? ⟨b159, 7, none⟩ = some (.int .i32 a2_7) := (bC BK159.out 7).trans rfl; have hcz14_8 : w8.cell? ⟨b159, 8, none⟩ = some (.int .i32 a2_8) := (bC BK159.out 8).trans rfl; have hcz14_9 : w8.cell? ⟨b159, 9, none⟩ = some (.int .i32 a2_9) := (bC BK159.out 9).trans rfl; have hfz14_0 := bF BK159.out 0; have hfz14_1 := bF BK159.out 1; have hfz14_2 := bF BK159.out 2; have hfz14_3 := bF BK159.out 3; have hfz14_4 := bF BK159.out 4; have hfz14_5 := bF BK159.out 5; have hfz14_6 := bF BK159.out 6; have hfz14_7 := bF BK159.out 7; have hfz14_8 := bF BK159.out 8; have hfz14_9 := bF BK159.out 9) | ((with_reducible refine gate_callee (f := 38) rfl ?_); refine goesL_ (some 14) rfl rfl Try.func38 (by kernel_rfl) rfl #[.agg #[.int .u32 a0_0, .int .u32 a0_1, .int .i32 a0_2, .int .i32 a0_3, .int .i32 a0_4], .agg #[.int .u32 a1_0, .int .i32 a1_1, .int .i32 a1_2, .int .i32 a1_3, .int .i32 a1_4, .int .i32 a1_5, .int .i32 a1_6, .int .i32 a1_7, .int .i32 a1_8, .int .i32 a1_9], .agg #[.int .u32 a2_0, .int .i32 a2_1, .int .i32 a2_2, .int .i32 a2_3, .int .i32 a2_4, .int .i32 a2_5, .int .i32 a2_6, .int .i32 a2_7, .int .i32 a2_8, .int .i32 a2_9]] rfl (by (try simp only [List.map_toArray, List.map_cons, List.map_nil]); first | done | rfl | (simp only [List.length_drop, List.length_take]; rfl)) ?_; (with_reducible refine (impulse_Approach.calls a0_0 a0_1 a0_2 a0_3 a0_4 a1_0 a1_1 a1_2 a1_3 a1_4 a1_5 a1_6 a1_7 a1_8 a1_9 a2_0 a2_1 a2_2 a2_3 a2_4 a2_5 a2_6 a2_7 a2_8 a2_9 t160 _ A4.out).mono ?_); rintro e w15 ⟨rfl, hb⟩; refine ⟨_, rfl, ?_⟩; have n_ := kB3 BK157 BK158 BK159 HB (by repeat first | exact lR _ _ | apply lN | apply lD | apply lA) hb; clear BK157 BK158 BK159 HB; obtain ⟨BK157, BK158, BK159, HB⟩ := n_; (try clear hb); (try clear hb2); (try clear hk); (try clear hi); have hcz16_0 : w15.cell? ⟨b158, 0, none⟩ = some (.int .u32 a1_0) := (bC BK158.out 0).trans rfl; have hcz16_1 : w15.cell? ⟨b158, 1, none⟩ = some (.int .i32 a1_1) := (bC BK158.out 1).trans rfl; have hcz16_2 : w15.cell? ⟨b158, 2, none⟩ = some (.int .i32 a1_2) := (bC BK158.out 2).trans rfl; have hcz16_3 : w15.cell? ⟨b158, 3, none⟩ = some (.int .i32 a1_3) := (bC BK158.out 3).trans rfl; have hcz16_4 : w15.cell? ⟨b158, 4, none⟩ = some (.int .i32 a1_4) := (bC BK158.out 4).trans rfl; have hcz16_5 : w15.cell? ⟨b158, 5, none⟩ = some (.int .i32 a1_5) := (bC BK158.out 5).trans rfl; have hcz16_6 : w15.cell? ⟨b158, 6, none⟩ = some (.int .i32 a1_6) := (bC BK158.out 6).trans rfl; have hcz16_7 : w15.cell? ⟨b158, 7, none⟩ = some (.int .i32 a1_7) := (bC BK158.out 7).trans rfl; have hcz16_8 : w15.cell? ⟨b158, 8, none⟩ = some (.int .i32 a1_8) := (bC BK158.out 8).trans rfl; have hcz16_9 : w15.cell? ⟨b158, 9, none⟩ = some (.int .i32 a1_9) := (bC BK158.out 9).trans rfl; have hfz16_0 := bF BK158.out 0; have hfz16_1 := bF BK158.out 1; have hfz16_2 := bF BK158.out 2; have hfz16_3 := bF BK158.out 3; have hfz16_4 := bF BK158.out 4; have hfz16_5 := bF BK158.out 5; have hfz16_6 := bF BK158.out 6; have hfz16_7 := bF BK158.out 7; have hfz16_8 := bF BK158.out 8; have hfz16_9 := bF BK158.out 9; have hcz17_0 : w15.cell? ⟨b159, 0, none⟩ = some (.int .u32 a2_0) := (bC BK159.out 0).trans rfl; have hcz17_1 : w15.cell? ⟨b159, 1, none⟩ = some (.int .i32 a2_1) := (bC BK159.out 1).trans rfl; have hcz17_2 : w15.cell? ⟨b159, 2, none⟩ = some (.int .i32 a2_2) := (bC BK159.out 2).trans rfl; have hcz17_3 : w15.cell? ⟨b159, 3, none⟩ = some (.int .i32 a2_3) := (bC BK159.out 3).trans rfl; have hcz17_4 : w15.cell? ⟨b159, 4, none⟩ = some (.int .i32 a2_4) := (bC BK159.out 4).trans rfl; have hcz17_5 : w15.cell? ⟨b159, 5, none⟩ = some (.int .i32 a2_5) := (bC BK159.out 5).trans rfl; have hcz17_6 : w15.cell? ⟨b159, 6, none⟩ = some (.int .i32 a2_6) := (bC BK159.out 6).trans rfl; have hcz17_7 : w15.cell? ⟨b159, 7, none⟩ = some (.int .i32 a2_7) := (bC BK159.out 7).trans rfl; have hcz17_8 : w15.cell? ⟨b159, 8, none⟩ = some (.int .i32 a2_8) := (bC BK159.out 8).trans rfl; have hcz17_9 : w15.cell? ⟨b159, 9, none⟩ = some (.int .i32 a2_9) := (bC BK159.out 9).trans rfl; have hfz17_0 := bF BK159.out 0; have hfz17_1 := bF BK159.out 1; have hfz17_2 := bF BK159.out 2; have hfz17_3 := bF BK159.out 3; have hfz17_4 := bF BK159.out 4; have hfz17_5 := bF BK159.out 5; have hfz17_6 := bF BK159.out 6; have hfz17_7 := bF BK159.out 7; have hfz17_8 := bF BK159.out 8; have hfz17_9 := bF BK159.out 9))
 (try simp only [Act.put, sA, sB, sC])
 go_cut [27] (fun v27 wc => ∃ (kq : Nat) (x27_4 : Bool), v27 = .bool x27_4 ∧ Aside0 (impulse_Strength.j0 kq t160 (wrap64 ((wrap64 (a1_4)) + (wrap64 (a2_4)))) x27_4 a1_0 a1_1 a1_2 a1_3 a1_4 a1_5 a1_6 a1_7 a1_8 a1_9 a2_0 a2_1 a2_2 a2_3 a2_4 a2_5 a2_6 a2_7 a2_8 a2_9 = some r) ∧ Aside0 (kq ≤ k) ∧ Aside0 (wc.heap[b157]? = some (.cells #[.int .u32 a0_0, .int .u32 a0_1, .int .i32 a0_2, .int .i32 a0_3, .int .i32 a0_4] 41 (0, 0))) ∧ Aside0 (wc.heap[b158]? = some (.cells #[.int .u32 a1_0, .int .i32 a1_1, .int .i32 a1_2, .int .i32 a1_3, .int .i32 a1_4, .int .i32 a1_5, .int .i32 a1_6, .int .i32 a1_7, .int .i32 a1_8, .int .i32 a1_9] 44 (0, 0))) ∧ Aside0 (wc.heap[b159]? = some (.cells #[.int .u32 a2_0, .int .i32 a2_1, .int .i32 a2_2, .int .i32 a2_3, .int .i32 a2_4, .int .i32 a2_5, .int .i32 a2_6, .int .i32 a2_7, .int .i32 a2_8, .int .i32 a2_9] 44 (0, 0))) ∧ Aside0 (Below w.heap.size w wc))
 case first =>
  have H := HC5.out
  clear HC5
  by_cases c18 : t160 ≥ 0
  ·rw [if_pos c18] at H
   have c18b0 : decide (0 ≤ t160) = true := decide_eq_true c18
   clear c18
   (first | rw [c18b0] | (simp only [i64_w, i32_w]; rw [c18b0]) | skip)
   have H' := aM H
   clear H
   go_wp2
   go_meet
   case rel => exact ⟨_, (true), (by first | rfl | (simp; done) | (simp [*]; done)), H', ⟨by first | omega | exact Nat.le_refl _⟩, ⟨by (with_reducible repeat first | apply bN | apply bD | apply bA); exact BK157.out⟩, ⟨by (with_reducible repeat first | apply bN | apply bD | apply bA); exact BK158.out⟩, ⟨by (with_reducible repeat first | apply bN | apply bD | apply bA); exact BK159.out⟩, ⟨by repeat (first | (with_reducible first | exact HB.out | apply lA | apply lN | apply lD) | exact HB.out)⟩⟩
  ·rw [if_neg c18] at H
   have c18b0 : decide (0 ≤ t160) = false := decide_eq_false c18
   clear c18
   (first | rw [c18b0] | (simp only [i64_w, i32_w]; rw [c18b0]) | skip)
   have H' := aM H
   clear H
   go_wp2
   go_meet
   case rel => exact ⟨_, (((wrap64 ((wrap64 (a1_4)) + (wrap64 (a2_4)))) == 0)), (by first | rfl | (simp; done) | (simp [*]; done)), H', ⟨by first | omega | exact Nat.le_refl _⟩, ⟨by (with_reducible repeat first | apply bN | apply bD | apply bA); exact BK157.out⟩, ⟨by (with_reducible repeat first | apply bN | apply bD | apply bA); exact BK158.out⟩, ⟨by (with_reducible repeat first | apply bN | apply bD | apply bA); exact BK159.out⟩, ⟨by repeat (first | (with_reducible first | exact HB.out | apply lA | apply lN | apply lD) | exact HB.out)⟩⟩
 case rest =>
  clear HC5
  try clear c1
  try clear c2
  try clear p2
  try clear c3
  try clear p6
  try clear c9
  try clear c10
  try clear c12
  try clear c18
  try clear c18b0
  try clear hcz11_0
  try clear hcz11_1
  try clear hcz11_2
  try clear hcz11_3
  try clear hcz11_4
  try clear hcz13_0
  try clear hcz13_1
  try clear hcz13_2
  try clear hcz13_3
  try clear hcz13_4
  try clear hcz13_5
  try clear hcz13_6
  try clear hcz13_7
  try clear hcz13_8
  try clear hcz13_9
  try clear hcz14_0
  try clear hcz14_1
  try clear hcz14_2
  try clear hcz14_3
  try clear hcz14_4
  try clear hcz14_5
  try clear hcz14_6
  try clear hcz14_7
  try clear hcz14_8
  try clear hcz14_9
  try clear hcz16_0
  try clear hcz16_1
  try clear hcz16_2
  try clear hcz16_3
  try clear hcz16_4
  try clear hcz16_5
  try clear hcz16_6
  try clear hcz16_7
  try clear hcz16_8
  try clear hcz16_9
  try clear hcz17_0
  try clear hcz17_1
  try clear hcz17_2
  try clear hcz17_3
  try clear hcz17_4
  try clear hcz17_5
  try clear hcz17_6
  try clear hcz17_7
  try clear hcz17_8
  try clear hcz17_9
  try clear hfz11_0
  try clear hfz11_1
  try clear hfz11_2
  try clear hfz11_3
  try clear hfz11_4
  try clear hfz13_0
  try clear hfz13_1
  try clear hfz13_2
  try clear hfz13_3
  try clear hfz13_4
  try clear hfz13_5
  try clear hfz13_6
  try clear hfz13_7
  try clear hfz13_8
  try clear hfz13_9
  try clear hfz14_0
  try clear hfz14_1
  try clear hfz14_2
  try clear hfz14_3
  try clear hfz14_4
  try clear hfz14_5
  try clear hfz14_6
  try clear hfz14_7
  try clear hfz14_8
  try clear hfz14_9
  try clear hfz16_0
  try clear hfz16_1
  try clear hfz16_2
  try clear hfz16_3
  try clear hfz16_4
  try clear hfz16_5
  try clear hfz16_6
  try clear hfz16_7
  try clear hfz16_8
  try clear hfz16_9
  try clear hfz17_0
  try clear hfz17_1
  try clear hfz17_2
  try clear hfz17_3
  try clear hfz17_4
  try clear hfz17_5
  try clear hfz17_6
  try clear hfz17_7
  try clear hfz17_8
  try clear hfz17_9
  obtain ⟨kq, x27_4, rfl, HA, HJ4, BK157, BK158, BK159, HB⟩ := hcut
  cases kq with
  | zero => exact absurd HA.out (by simp [impulse_Strength.j0])
  | succ kj4 =>
   have H := HA.out
   clear HA
   simp only [impulse_Strength.j0] at H
   by_cases c19 : x27_4 = true
   ·subst c19
    rw [if_pos rfl] at H
    obtain rfl := Option.some.inj H
    go_wp2
    go_ret
    exact ⟨by first | rfl | (simp [errW_none, errW_some] <;> rfl) | (simp [*, errW_none, errW_some] <;> rfl), by repeat (first | (with_reducible first | exact HB.out | apply lA | apply lN | apply lD) | exact HB.out)⟩
   ·replace c19 := Bool.eq_false_iff.mpr c19
    subst c19
    rw [if_neg (show ¬ (false = true) by decide)] at H
    replace H := Option.bind_eq_some_iff.mp H
    obtain ⟨t161, A200, H⟩ := H
    try dsimp only at H
    have A20 := aM A200
    clear A200
    replace H := Option.bind_eq_some_iff.mp H
    obtain ⟨⟨t162, t163⟩, A210, H⟩ := H
    try dsimp only at H
    have A21 := aM A210
    clear A210
    obtain rfl := Option.some.inj H
    have hcz24_0 : wc.cell? ⟨b158, 0, none⟩ = some (.int .u32 a1_0) := (bC BK158.out 0).trans rfl
    have hcz24_1 : wc.cell? ⟨b158, 1, none⟩ = some (.int .i32 a1_1) := (bC BK158.out 1).trans rfl
    have hcz24_2 : wc.cell? ⟨b158, 2, none⟩ = some (.int .i32 a1_2) := (bC BK158.out 2).trans rfl
    have hcz24_3 : wc.cell? ⟨b158, 3, none⟩ = some (.int .i32 a1_3) := (bC BK158.out 3).trans rfl
    have hcz24_4 : wc.cell? ⟨b158, 4, none⟩ = some (.int .i32 a1_4) := (bC BK158.out 4).trans rfl
    have hcz24_5 : wc.cell? ⟨b158, 5, none⟩ = some (.int .i32 a1_5) := (bC BK158.out 5).trans rfl
    have hcz24_6 : wc.cell? ⟨b158, 6, none⟩ = some (.int .i32 a1_6) := (bC BK158.out 6).trans rfl
    have hcz24_7 : wc.cell? ⟨b158, 7, none⟩ = some (.int .i32 a1_7) := (bC BK158.out 7).trans rfl
    have hcz24_8 : wc.cell? ⟨b158, 8, none⟩ = some (.int .i32 a1_8) := (bC BK158.out 8).trans rfl
    have hcz24_9 : wc.cell? ⟨b158, 9, none⟩ = some (.int .i32 a1_9) := (bC BK158.out 9).trans rfl
    have hcz26_0 : wc.cell? ⟨b159, 0, none⟩ = some (.int .u32 a2_0) := (bC BK159.out 0).trans rfl
    have hcz26_1 : wc.cell? ⟨b159, 1, none⟩ = some (.int .i32 a2_1) := (bC BK159.out 1).trans rfl
    have hcz26_2 : wc.cell? ⟨b159, 2, none⟩ = some (.int .i32 a2_2) := (bC BK159.out 2).trans rfl
    have hcz26_3 : wc.cell? ⟨b159, 3, none⟩ = some (.int .i32 a2_3) := (bC BK159.out 3).trans rfl
    have hcz26_4 : wc.cell? ⟨b159, 4, none⟩ = some (.int .i32 a2_4) := (bC BK159.out 4).trans rfl
    have hcz26_5 : wc.cell? ⟨b159, 5, none⟩ = some (.int .i32 a2_5) := (bC BK159.out 5).trans rfl
    have hcz26_6 : wc.cell? ⟨b159, 6, none⟩ = some (.int .i32 a2_6) := (bC BK159.out 6).trans rfl
    have hcz26_7 : wc.cell? ⟨b159, 7, none⟩ = some (.int .i32 a2_7) := (bC BK159.out 7).trans rfl
    have hcz26_8 : wc.cell? ⟨b159, 8, none⟩ = some (.int .i32 a2_8) := (bC BK159.out 8).trans rfl
    have hcz26_9 : wc.cell? ⟨b159, 9, none⟩ = some (.int .i32 a2_9) := (bC BK159.out 9).trans rfl
    go_wp2_with (first | ((with_reducible refine gate_callee (f := 40) rfl ?_); refine goesL_ (some 33) rfl rfl Try.func40 (by kernel_rfl) rfl #[.agg #[.int .u32 a1_0, .int .i32 a1_1, .int .i32 a1_2, .int .i32 a1_3, .int .i32 a1_4, .int .i32 a1_5, .int .i32 a1_6, .int .i32 a1_7, .int .i32 a1_8, .int .i32 a1_9], .agg #[.int .u32 a2_0, .int .i32 a2_1, .int .i32 a2_2, .int .i32 a2_3, .int .i32 a2_4, .int .i32 a2_5, .int .i32 a2_6, .int .i32 a2_7, .int .i32 a2_8, .int .i32 a2_9]] rfl (by (try simp only [List.map_toArray, List.map_cons, List.map_nil]); first | done | rfl | (simp only [List.length_drop, List.length_take]; rfl)) ?_; (with_reducible refine (impulse_Bounce.calls a1_0 a1_1 a1_2 a1_3 a1_4 a1_5 a1_6 a1_7 a1_8 a1_9 a2_0 a2_1 a2_2 a2_3 a2_4 a2_5 a2_6 a2_7 a2_8 a2_9 t161 _ A20.out).mono ?_); rintro e w27 ⟨rfl, hb⟩; refine ⟨_, rfl, ?_⟩; have n_ := kB3 BK157 BK158 BK159 HB (by repeat first | exact lR _ _ | apply lN | apply lD | apply lA) hb; clear BK157 BK158 BK159 HB; obtain ⟨BK157, BK158, BK159, HB⟩ := n_; (try clear hb); (try clear hb2); (try clear hk); (try clear hi)) | ((with_reducible refine gate_callee (f := 39) rfl ?_); refine goesL_ (some 37) rfl rfl Try.func39 (by kernel_rfl) rfl #[.int .i64 (wrap64 (-t160)), .int .i64 (wrap64 (65536 + (wrap64 (t161)))), .int .i64 (wrap64 ((wrap64 (a1_4)) + (wrap64 (a2_4))))] rfl (by (try simp only [List.map_toArray, List.map_cons, List.map_nil]); first | done | rfl | (simp only [List.length_drop, List.length_take]; rfl)) ?_; (with_reducible refine (wide_MulDiv.calls (wrap64 (-t160)) (wrap64 (65536 + (wrap64 (t161)))) (wrap64 ((wrap64 (a1_4)) + (wrap64 (a2_4)))) t162 t163 _ A21.out).mono ?_); rintro e w28 ⟨rfl, hb⟩; refine ⟨_, rfl, ?_⟩; have n_ := kB3 BK157 BK158 BK159 HB (by repeat first | exact lR _ _ | apply lN | apply lD | apply lA) hb; clear BK157 BK158 BK159 HB; obtain ⟨BK157, BK158, BK159, HB⟩ := n_; (try clear hb); (try clear hb2); (try clear hk); (try clear hi)))
    go_ret
    exact ⟨by first | rfl | (simp [errW_none, errW_some] <;> rfl) | (simp [*, errW_none, errW_some] <;> rfl), by repeat (first | (with_reducible first | exact HB.out | apply lA | apply lN | apply lD) | exact HB.out)⟩

/-! ### impulse_shifted: function 41 -/
def impulse_shifted.f (k : Nat) (a0 : Int) (a1 : Int) : Option (Int) := (wide_MulShift.f k a0 a1 16).bind fun bt166 => (some bt166.1)
theorem impulse_shifted.mono : ∀ a0 a1 k, LeO (impulse_shifted.f k a0 a1) (impulse_shifted.f (k + 1) a0 a1) := by
 intro a0 a1 k
 unfold impulse_shifted.f
 repeat' first
   | (with_reducible exact wide_MulShift.mono _ _ _ _)
   | (with_reducible exact LeO.refl _)
   | (with_reducible exact LeO.none _)
   | (with_reducible refine LeO.ite ?_ ?_)
   | (with_reducible refine LeO.bind ?_ (fun _ => ?_))
   | exact wide_MulShift.mono _ _ _ _
   | exact LeO.none _
   | refine LeO.ite ?_ ?_
   | refine LeO.bind ?_ (fun _ => ?_)
set_option maxHeartbeats 8000000 in
set_option maxRecDepth 100000 in
theorem impulse_shifted.calls (k : Nat) (a0 : Int) (a1 : Int) (r : Int) (w : World) (h : impulse_shifted.f k a0 a1 = some r) :
  Calls Try.prog 41 #[.int .i64 a0, .int .i64 a1] w fun e w' => e = .returned (.int .i64 r) ∧ Drawn0 w w' := by
 have H : ((wide_MulShift.f k a0 a1 16).bind fun bt166 => (some bt166.1)) = some r := h
 clear h
 replace H := Option.bind_eq_some_iff.mp H
 obtain ⟨⟨t166, t167⟩, A30, H⟩ := H
 try dsimp only at H
 have A3 := aM A30
 clear A30
 obtain rfl := Option.some.inj H
 go_enter Try.func41, Try.ntmps41
 go_wp2_with (first | ((with_reducible refine gate_callee (f := 53) rfl ?_); refine goesL_ (some 10) rfl rfl Try.func53 (by kernel_rfl) rfl #[.int .i64 a0, .int .i64 a1, .int .i64 16] rfl (by (try simp only [List.map_toArray, List.map_cons, List.map_nil]); first | done | rfl | (simp only [List.length_drop, List.length_take]; rfl)) ?_; (with_reducible refine (wide_MulShift.calls k a0 a1 16 t166 t167 _ A3.out).mono ?_); rintro e w' ⟨rfl, ⟨nd, rfl⟩⟩; refine ⟨_, rfl, ?_⟩))
 go_ret
 exact ⟨by first | rfl | (simp; done) | (simp [*]; done), by repeat (first | exact Drawn0.refl _ | apply Drawn0.step)⟩

/-! ### impulse_Change: function 30 (given) -/
-- IMPORT Derived.Test.YtcbdcgghccjdpaaMspec
-- IMPORT Derived.Test.YtcbdcgghccjdpaaMwide
-- IMPORT Derived.Deep.RegionHeld3
-- NEEDS billiard/impulse.shifted
/-- The floor of a product divided by 2^16, as the code reckons it. -/
def shS (a b : Int) : Int := (shiftS a b 16).1
theorem impulse_shifted.exact (a b : Int) (ha : -9223372036854775808 ≤ a ∧ a ≤ 9223372036854775807) (hb : -9223372036854775808 ≤ b ∧ b ≤ 9223372036854775807) : impulse_shifted.f 1 a b = some (shS a b) := by
 unfold impulse_shifted.f
 rw [wide_MulShift.is ha hb 0]
 rfl
def impulse_Change.f (j inv n0 n1 : Int) : Option (Int × Int) :=
 if i64B j = true ∧ i32B inv = true ∧ i32B n0 = true ∧ i32B n1 = true ∧ i64B (shS j inv) = true then some (shS (shS j inv) n0, shS (shS j inv) n1) else none
theorem impulse_along.same (k n r : Int) (hn : -2147483648 ≤ n ∧ n ≤ 2147483647) (hc : ∀ w, Calls Try.prog 41 #[.int .i64 k, .int .i64 n] w fun e w' => e = .returned (.int .i64 r) ∧ Drawn0 w w') (a : Addr) (w : World) (h : w.cell? a = some (.int .i64 k)) :
  Calls Try.prog 42 #[.int .i32 n, .pointer (some a)] w fun e w' => e = .returned (.int .i64 r) ∧ Drawn0 w w' := by
 have HC := Lib.hid hc
 have w2 : wrap64 n = n := w64_id (by omega) (by omega)
 clear hc hn
 go_enter Try.func42, Try.ntmps42
 go_wp2_with fail
 rw [w2]
 refine (HC.out _).mono ?_
 rintro e w1 ⟨rfl, hd⟩
 go_wp2_with fail
 go_ret
 exact ⟨rfl, hd⟩
theorem drawn_cell {w w' : World} (h : Drawn0 w w') (a : Addr) : w'.cell? a = w.cell? a := by obtain ⟨n, rfl⟩ := h; rfl
theorem impulse_Change.calls (j inv n0 n1 r1 r2 : Int) (w : World) (h : impulse_Change.f j inv n0 n1 = some (r1, r2)) :
  Calls Try.prog 30 #[.int .i64 j, .int .i32 inv, .agg #[.int .i32 n0, .int .i32 n1]] w fun e w' => e = .returned (.tuple #[.int .i64 r1, .int .i64 r2]) ∧ Below w.heap.size w w' := by
 unfold impulse_Change.f at h
 split at h
 ·rename_i c
  simp only [Option.some.injEq, Prod.mk.injEq] at h
  obtain ⟨rfl, rfl⟩ := h
  obtain ⟨c1, c2, c3, c4, c5⟩ := c
  rw [i64B_iff] at c1 c5
  rw [i32B_iff] at c2 c3 c4
  have HK := Lib.hid (fun w => impulse_shifted.calls _ _ _ _ w (impulse_shifted.exact j inv c1 (by omega)))
  obtain ⟨k, hk⟩ : ∃ k, shS j inv = k := ⟨_, rfl⟩
  rw [hk] at HK c5
  have HX := Lib.hid (fun a w => impulse_along.same k n0 _ c3 (fun w => impulse_shifted.calls _ _ _ _ w (impulse_shifted.exact k n0 c5 (by omega))) a w)
  have HY := Lib.hid (fun a w => impulse_along.same k n1 _ c4 (fun w => impulse_shifted.calls _ _ _ _ w (impulse_shifted.exact k n1 c5 (by omega))) a w)
  rw [hk]
  have w1 : wrap64 inv = inv := w64_id (by omega) (by omega)
  have w2 : wrap64 n0 = n0 := w64_id (by omega) (by omega)
  have w3 : wrap64 n1 = n1 := w64_id (by omega) (by omega)
  clear c1 c2 c3 c4 c5 hk
  go_enter Try.func30, Try.ntmps30
  go_wp2_with fail
  rw [w1]
  refine (HK.out _).mono ?_
  rintro e V ⟨rfl, hd⟩
  have c0 : V.cell? ⟨w.heap.size, 0, none⟩ = some (.int .i32 n0) := by rw [drawn_cell hd]; simp [go_sem]
  have c1 : V.cell? ⟨w.heap.size, 1, none⟩ = some (.int .i32 n1) := by rw [drawn_cell hd]; simp [go_sem]
  have hB : Below w.heap.size w V := by obtain ⟨n, rfl⟩ := hd; exact (lA (Below.refl _ _) _).trans ⟨rfl, rfl, rfl, Nat.le_refl _, fun _ _ => rfl⟩
  have HB := Lib.hid hB
  clear hd hB HK w1
  have hz : w.heap.size < V.heap.size := World.block_lt_of_cell? V ⟨w.heap.size, 0, none⟩ c0
  have b0 : (V.alloc (.cells #[.int .i64 k] 2)).cell? ⟨w.heap.size, 0, none⟩ = some (.int .i32 n0) := (((Below.refl V.heap.size V).alloc (Nat.le_refl _) _).cell (p := ⟨w.heap.size, 0, none⟩) hz).trans c0
  have b1 : (V.alloc (.cells #[.int .i64 k] 2)).cell? ⟨w.heap.size, 1, none⟩ = some (.int .i32 n1) := (((Below.refl V.heap.size V).alloc (Nat.le_refl _) _).cell (p := ⟨w.heap.size, 1, none⟩) hz).trans c1
  have bk : (V.alloc (.cells #[.int .i64 k] 2)).cell? ⟨V.heap.size, 0, none⟩ = some (.int .i64 k) := by simp [go_sem]
  have HB1 := Lib.hid (lA HB.out (.cells #[.int .i64 k] 2))
  go_wp2_with fail
  generalize V.alloc (.cells #[.int .i64 k] 2) = V1 at b0 b1 bk HB1 ⊢
  generalize V.heap.size = g at *
  clear c0 c1 HB hz w2 w3
  have BD := (Lib.hid (show (V1.drew.cell? ⟨w.heap.size, 0, none⟩ = some (.int .i32 n0) ∧ V1.drew.cell? ⟨w.heap.size, 1, none⟩ = some (.int .i32 n1)) ∧ V1.drew.cell? ⟨g, 0, none⟩ = some (.int .i64 k) from ⟨⟨b0, b1⟩, bk⟩))
  go_region_held3 (fun V => (V.cell? ⟨w.heap.size, 0, none⟩ = some (.int .i32 n0) ∧ V.cell? ⟨w.heap.size, 1, none⟩ = some (.int .i32 n1)) ∧ V.cell? ⟨g, 0, none⟩ = some (.int .i64 k))
   (first | exact ⟨⟨b0, b1⟩, bk⟩ | exact B2.out | exact B3.out)
   (first
   | (go_at_call_of 42 (Value.int .i32 n0); refine (HX.out _ _ BD.out.2).mono ?_; rintro e V2 ⟨rfl, hd2⟩; have B2 := Lib.hid (show (V2.cell? ⟨w.heap.size, 0, none⟩ = some (.int .i32 n0) ∧ V2.cell? ⟨w.heap.size, 1, none⟩ = some (.int .i32 n1)) ∧ V2.cell? ⟨g, 0, none⟩ = some (.int .i64 k) by rw [drawn_cell hd2, drawn_cell hd2, drawn_cell hd2]; exact BD.out); have D2 := Lib.hid (below_then HB1.out.drew HB1.out.drew.size hd2.below); clear hd2)
   | (go_at_call_of 42 (Value.int .i32 n1); refine (HY.out _ _ B2.out.2).mono ?_; rintro e V3 ⟨rfl, hd3⟩; have B3 := Lib.hid (show (V3.cell? ⟨w.heap.size, 0, none⟩ = some (.int .i32 n0) ∧ V3.cell? ⟨w.heap.size, 1, none⟩ = some (.int .i32 n1)) ∧ V3.cell? ⟨g, 0, none⟩ = some (.int .i64 k) by rw [drawn_cell hd3, drawn_cell hd3, drawn_cell hd3]; exact B2.out); have D3 := Lib.hid (below_then D2.out D2.out.size hd3.below); clear hd3))
  all_goals
   go_wp2_with fail
   clear BD B2 D2 b0 b1 bk HB1 HX HY
   go_ret2
   exact ⟨rfl, D3.out⟩
 ·cases h

end Go.Proofs.Ytcbdcgghccjdpaa.Q
