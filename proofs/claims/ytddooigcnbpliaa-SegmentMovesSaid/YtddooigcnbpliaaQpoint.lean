-- PRINTED by print.py (a twelfth state) out of the translation. Not trusted: Lean checks it.
import Derived.Test.YtddooigcnbpliaaQ0
import Derived.Test.YtddooigcnbpliaaMkeep
import Derived.Test.YtddooigcnbpliaaQvec
import Derived.Test.YtddooigcnbpliaaQwide
import Derived.Deep.RegionHeld3
import Derived.Deep.RegionWith
import Derived.Test.YtddooigcnbpliaaMfloor
import Derived.Test.YtddooigcnbpliaaMspec
namespace Go.Proofs.Ytddooigcnbpliaa.Q
open Go.RowKit.Below renaming refl → lR
open Go.RowKit Go.Proofs.YtddooigcnbpliaaW.PrintWords Go.Proofs.YtddooigcnbpliaaW.PrintLast Go.Proofs.YtddooigcnbpliaaW.PrintMore
open Go.Proofs.YtddooigcnbpliaaW.PrintWords renaming blk_drewN → bN, blk_drew → bD, blk_alloc → bA, blk_below → bB, blk_cell → bC, blk_frozen → bF, blk_lt → bL, below_alloc → lA, pw_below_drewN → lN, below_drew1 → lD, below_set → lS, below_step → lT, below_size → lZ, Aside0.mk → aM
open Bool renaming true → T, false → F
attribute [local go_sem] max2_int min2_int max_two min_two max_three min_three max_four min_four   -- for this text's walks alone
set_option linter.unusedVariables false
set_option linter.unusedSimpArgs false

/-! ### point_Param: function 29 -/
def point_Param.f (a0_0 : Int) (a0_1 : Int) (a1_0 : Int) (a1_1 : Int) (a2_0 : Int) (a2_1 : Int) : Option (Int × Int) := (vec_Diff.f a0_0 a0_1 a1_0 a1_1).bind fun bt108 => ((vec_Diff.f a0_0 a0_1 a2_0 a2_1).bind fun bt110 => (some (mx 0 (mn (wrap64 ((wrap64 (bt110.1 * bt108.1)) + (wrap64 (bt110.2 * bt108.2)))) (wrap64 ((wrap64 (bt108.1 * bt108.1)) + (wrap64 (bt108.2 * bt108.2))))), wrap64 ((wrap64 (bt108.1 * bt108.1)) + (wrap64 (bt108.2 * bt108.2))))))
set_option maxHeartbeats 8000000 in
set_option maxRecDepth 100000 in
theorem point_Param.calls (a0_0 : Int) (a0_1 : Int) (a1_0 : Int) (a1_1 : Int) (a2_0 : Int) (a2_1 : Int) (r1 : Int) (r2 : Int) (w : World) (h : point_Param.f a0_0 a0_1 a1_0 a1_1 a2_0 a2_1 = some (r1, r2)) :
  Calls Try.prog 29 #[.agg #[.int .i32 a0_0, .int .i32 a0_1], .agg #[.int .i32 a1_0, .int .i32 a1_1], .agg #[.int .i32 a2_0, .int .i32 a2_1]] w fun e w' => e = .returned (.tuple #[.int .i64 r1, .int .i64 r2]) ∧ Below w.heap.size w w' := by
 have hu23 := Try.underlying23
 have HB := aM (Below.refl w.heap.size w)
 have H : ((vec_Diff.f a0_0 a0_1 a1_0 a1_1).bind fun bt108 => ((vec_Diff.f a0_0 a0_1 a2_0 a2_1).bind fun bt110 => (some (mx 0 (mn (wrap64 ((wrap64 (bt110.1 * bt108.1)) + (wrap64 (bt110.2 * bt108.2)))) (wrap64 ((wrap64 (bt108.1 * bt108.1)) + (wrap64 (bt108.2 * bt108.2))))), wrap64 ((wrap64 (bt108.1 * bt108.1)) + (wrap64 (bt108.2 * bt108.2))))))) = some (r1, r2) := h
 clear h
 replace H := Option.bind_eq_some_iff.mp H
 obtain ⟨⟨t108, t109⟩, A40, H⟩ := H
 try dsimp only at H
 have A4 := aM A40
 clear A40
 replace H := Option.bind_eq_some_iff.mp H
 obtain ⟨⟨t110, t111⟩, A50, H⟩ := H
 try dsimp only at H
 have A5 := aM A50
 clear A50
 obtain ⟨ji6, hji6⟩ : ∃ j_ : Int, (mn (wrap64 ((wrap64 (t110 * t108)) + (wrap64 (t111 * t109)))) (wrap64 ((wrap64 (t108 * t108)) + (wrap64 (t109 * t109))))) = j_ := ⟨_, rfl⟩
 replace H : (some (mx 0 (ji6), wrap64 ((wrap64 (t108 * t108)) + (wrap64 (t109 * t109))))) = some (r1, r2) := by first | (rw [hji6] at H; exact H) | (simp only [hji6] at H ⊢; exact H)
 (try rw [hji6] at A4)
 (try rw [hji6] at A5)
 have hji6_ : (if (wrap64 ((wrap64 (t108 * t108)) + (wrap64 (t109 * t109)))) < (wrap64 ((wrap64 (t110 * t108)) + (wrap64 (t111 * t109)))) then (wrap64 ((wrap64 (t108 * t108)) + (wrap64 (t109 * t109)))) else (wrap64 ((wrap64 (t110 * t108)) + (wrap64 (t111 * t109))))) = ji6 := hji6
 obtain ⟨ji7, hji7⟩ : ∃ j_ : Int, (mx 0 (ji6)) = j_ := ⟨_, rfl⟩
 replace H : (some (ji7, wrap64 ((wrap64 (t108 * t108)) + (wrap64 (t109 * t109))))) = some (r1, r2) := by first | (rw [hji7] at H; exact H) | (simp only [hji7] at H ⊢; exact H)
 (try rw [hji7] at A4)
 (try rw [hji7] at A5)
 have hji7_ : (if 0 < (ji6) then (ji6) else 0) = ji7 := hji7
 simp only [Option.some.injEq, Prod.mk.injEq] at H
 obtain ⟨rfl, rfl⟩ := H
 go_enter Try.func29, Try.ntmps29
 go_wp2_with (first | ((with_reducible refine gate_dst (N := 3) rfl ?_); refine box_event ?hg (N := 3) ?hd (cs := #[.int .i32 a0_0, .int .i32 a0_1]) (t := 23) ?hr ?_; (case hd => rfl); (case hg => rfl); (case hr => first | (go_simp; done) | (go_simp; rfl)); intro b105 hg w8 hbox hb; have n0_ := aM (lT (by repeat (first | (with_reducible first | exact HB.out | apply lA | apply lN | apply lD) | exact HB.out)) hb); have n1_ := aM (hbox); have n2_ := aM ((by rw [hg]; exact (lZ (by repeat (first | (with_reducible first | exact HB.out | apply lA | apply lN | apply lD) | exact HB.out))) : w.heap.size ≤ b105)); have n3_ := aM ((by rw [hg]; exact (lZ (by repeat (first | (with_reducible first | exact HB.out | apply lA | apply lN | apply lD) | exact HB.out))) : w.heap.size ≤ b105)); clear HB; have HB := n0_; have BK105 := n1_; have GW105 := n2_; have GE105 := n3_; clear n0_ n1_ n2_ n3_; clear hb hbox hg) | ((with_reducible refine gate_dst (N := 4) rfl ?_); refine box_event ?hg (N := 4) ?hd (cs := #[.int .i32 a1_0, .int .i32 a1_1]) (t := 23) ?hr ?_; (case hd => rfl); (case hg => rfl); (case hr => first | (go_simp; done) | (go_simp; rfl)); intro b106 hg w9 hbox hb; have n0_ := aM (bB (by (with_reducible repeat first | apply bN | apply bD | apply bA); exact BK105.out) hb); have n1_ := aM (lT (by repeat (first | (with_reducible first | exact HB.out | apply lA | apply lN | apply lD | refine lS ?_ GE105.out) | exact HB.out)) hb); have n2_ := aM (hbox); have n3_ := aM ((by rw [hg]; exact (lZ (by repeat (first | (with_reducible first | exact HB.out | apply lA | apply lN | apply lD | refine lS ?_ GE105.out) | exact HB.out))) : w.heap.size ≤ b106)); have n4_ := aM ((by rw [hg]; exact (lZ (by repeat (first | (with_reducible first | exact HB.out | apply lA | apply lN | apply lD | refine lS ?_ GE105.out) | exact HB.out))) : w.heap.size ≤ b106)); have n5_ := aM ((by rw [hg]; exact Nat.ne_of_lt (bL (g := b105) (by (with_reducible repeat first | apply bN | apply bD | apply bA); exact BK105.out)) : b105 ≠ b106)); have n6_ := aM ((by rw [hg]; exact Nat.ne_of_gt (bL (g := b105) (by (with_reducible repeat first | apply bN | apply bD | apply bA); exact BK105.out)) : b106 ≠ b105)); clear BK105; clear HB; have BK105 := n0_; have HB := n1_; have BK106 := n2_; have GW106 := n3_; have GE106 := n4_; have N0_ := n5_; have N1_ := n6_; clear n0_ n1_ n2_ n3_ n4_ n5_ n6_; clear hb hbox hg) | ((with_reducible refine gate_dst (N := 5) rfl ?_); refine box_event ?hg (N := 5) ?hd (cs := #[.int .i32 a2_0, .int .i32 a2_1]) (t := 23) ?hr ?_; (case hd => rfl); (case hg => rfl); (case hr => first | (go_simp; done) | (go_simp; rfl)); intro b107 hg w10 hbox hb; have n0_ := aM (bB (by (with_reducible repeat first | apply bN | apply bD | apply bA); exact BK105.out) hb); have n1_ := aM (bB (by (with_reducible repeat first | apply bN | apply bD | apply bA); exact BK106.out) hb); have n2_ := aM (lT (by repeat (first | (with_reducible first | exact HB.out | apply lA | apply lN | apply lD | refine lS ?_ GE105.out | refine lS ?_ GE106.out) | exact HB.out)) hb); have n3_ := aM (hbox); have n4_ := aM ((by rw [hg]; exact (lZ (by repeat (first | (with_reducible first | exact HB.out | apply lA | apply lN | apply lD | refine lS ?_ GE105.out | refine lS ?_ GE106.out) | exact HB.out))) : w.heap.size ≤ b107)); have n5_ := aM ((by rw [hg]; exact (lZ (by repeat (first | (with_reducible first | exact HB.out | apply lA | apply lN | apply lD | refine lS ?_ GE105.out | refine lS ?_ GE106.out) | exact HB.out))) : w.heap.size ≤ b107)); have n6_ := aM ((by rw [hg]; exact Nat.ne_of_lt (bL (g := b105) (by (with_reducible repeat first | apply bN | apply bD | apply bA); exact BK105.out)) : b105 ≠ b107)); have n7_ := aM ((by rw [hg]; exact Nat.ne_of_gt (bL (g := b105) (by (with_reducible repeat first | apply bN | apply bD | apply bA); exact BK105.out)) : b107 ≠ b105)); have n8_ := aM ((by rw [hg]; exact Nat.ne_of_lt (bL (g := b106) (by (with_reducible repeat first | apply bN | apply bD | apply bA); exact BK106.out)) : b106 ≠ b107)); have n9_ := aM ((by rw [hg]; exact Nat.ne_of_gt (bL (g := b106) (by (with_reducible repeat first | apply bN | apply bD | apply bA); exact BK106.out)) : b107 ≠ b106)); clear BK105; clear BK106; clear HB; have BK105 := n0_; have BK106 := n1_; have HB := n2_; have BK107 := n3_; have GW107 := n4_; have GE107 := n5_; have N2_ := n6_; have N3_ := n7_; have N4_ := n8_; have N5_ := n9_; clear n0_ n1_ n2_ n3_ n4_ n5_ n6_ n7_ n8_ n9_; clear hb hbox hg; have hnb11 := N0_.out; have hnc11 := N1_.out; have hnb12 := N2_.out; have hnc12 := N3_.out; have hcz13_0 : w10.cell? ⟨b105, 0, none⟩ = some (.int .i32 a0_0) := (bC BK105.out 0).trans rfl; have hcz13_1 : w10.cell? ⟨b105, 1, none⟩ = some (.int .i32 a0_1) := (bC BK105.out 1).trans rfl; have hfz13_0 := bF BK105.out 0; have hfz13_1 := bF BK105.out 1; have hnb14 := N4_.out; have hnc14 := N5_.out; have hcz15_0 : w10.cell? ⟨b106, 0, none⟩ = some (.int .i32 a1_0) := (bC BK106.out 0).trans rfl; have hcz15_1 : w10.cell? ⟨b106, 1, none⟩ = some (.int .i32 a1_1) := (bC BK106.out 1).trans rfl; have hfz15_0 := bF BK106.out 0; have hfz15_1 := bF BK106.out 1) | ((with_reducible refine gate_callee (f := 23) rfl ?_); refine goesL_ (some 15) rfl rfl Try.func23 (by kernel_rfl) rfl #[.agg #[.int .i32 a0_0, .int .i32 a0_1], .agg #[.int .i32 a1_0, .int .i32 a1_1]] rfl (by (try simp only [List.map_toArray, List.map_cons, List.map_nil]); first | done | rfl | (simp only [List.length_drop, List.length_take]; rfl)) ?_; (with_reducible refine (vec_Diff.calls a0_0 a0_1 a1_0 a1_1 t108 t109 _ A4.out).mono ?_); rintro e w16 ⟨rfl, hb⟩; refine ⟨_, rfl, ?_⟩; have n_ := kB3 BK105 BK106 BK107 HB (by repeat first | exact lR _ _ | apply lN | apply lD | apply lA) hb; clear BK105 BK106 BK107 HB; obtain ⟨BK105, BK106, BK107, HB⟩ := n_; (try clear hb); (try clear hb2); (try clear hk); (try clear hi); have hcz17_0 : w16.cell? ⟨b105, 0, none⟩ = some (.int .i32 a0_0) := (bC BK105.out 0).trans rfl; have hcz17_1 : w16.cell? ⟨b105, 1, none⟩ = some (.int .i32 a0_1) := (bC BK105.out 1).trans rfl; have hfz17_0 := bF BK105.out 0; have hfz17_1 := bF BK105.out 1; have hcz18_0 : w16.cell? ⟨b107, 0, none⟩ = some (.int .i32 a2_0) := (bC BK107.out 0).trans rfl; have hcz18_1 : w16.cell? ⟨b107, 1, none⟩ = some (.int .i32 a2_1) := (bC BK107.out 1).trans rfl; have hfz18_0 := bF BK107.out 0; have hfz18_1 := bF BK107.out 1) | ((with_reducible refine gate_callee (f := 23) rfl ?_); refine goesL_ (some 21) rfl rfl Try.func23 (by kernel_rfl) rfl #[.agg #[.int .i32 a0_0, .int .i32 a0_1], .agg #[.int .i32 a2_0, .int .i32 a2_1]] rfl (by (try simp only [List.map_toArray, List.map_cons, List.map_nil]); first | done | rfl | (simp only [List.length_drop, List.length_take]; rfl)) ?_; (with_reducible refine (vec_Diff.calls a0_0 a0_1 a2_0 a2_1 t110 t111 _ A5.out).mono ?_); rintro e w19 ⟨rfl, hb⟩; refine ⟨_, rfl, ?_⟩; have n_ := kB3 BK105 BK106 BK107 HB (by repeat first | exact lR _ _ | apply lN | apply lD | apply lA) hb; clear BK105 BK106 BK107 HB; obtain ⟨BK105, BK106, BK107, HB⟩ := n_; (try clear hb); (try clear hb2); (try clear hk); (try clear hi)))
 go_ret2
 exact ⟨by first | rfl | (simp [errW_none, errW_some] <;> rfl) | (simp only [← hji6, ← hji7]; first | rfl | (simp [errW_none, errW_some] <;> rfl)) | (simp [*, errW_none, errW_some] <;> rfl), by repeat (first | (with_reducible first | exact HB.out | apply lA | apply lN | apply lD | refine lS ?_ GE105.out | refine lS ?_ GE106.out | refine lS ?_ GE107.out) | exact HB.out)⟩

/-! ### point_Nearest: function 24 (given) -/
-- IMPORT Derived.Test.YtddooigcnbpliaaMspec
-- IMPORT Derived.Deep.RegionWith
-- IMPORT Derived.Deep.RegionHeld3
-- IMPORT Derived.Test.YtddooigcnbpliaaMfloor
-- NEEDS billiard/point.Param
-- NEEDS billiard/wide.MulDiv
-- NEEDS billiard/vec.Diff
def partS (f x n d : Int) : Int := wrap32 (f + wrap32 (mulDivS x n d).1)
def point_Nearest.f (a0_0 a0_1 a1_0 a1_1 a2_0 a2_1 : Int) : Option (Int × Int) := if i32B a0_0 = true ∧ i32B a0_1 = true ∧ i32B a1_0 = true ∧ i32B a1_1 = true then (point_Param.f a0_0 a0_1 a1_0 a1_1 a2_0 a2_1).bind fun r => (if r.2 = 0 then some (a0_0, a0_1) else if i64B r.1 = true ∧ i64B r.2 = true then some (partS a0_0 (a1_0 - a0_0) r.1 r.2, partS a0_1 (a1_1 - a0_1) r.1 r.2) else none) else none
theorem kept_cell {W w1 : World} {B : Nat} (hb : Below B W w1) : (∀ b o, b < B → w1.cell? ⟨b, o, none⟩ = W.cell? ⟨b, o, none⟩) ∧ (∀ b o, b < B → w1.frozen? ⟨b, o, none⟩ = W.frozen? ⟨b, o, none⟩) :=
 ⟨fun b o h => hb.cell (p := ⟨b, o, none⟩) h, fun b o h => hb.frozen (p := ⟨b, o, none⟩) h⟩
theorem vec_Diff.exact (a0 a1 b0 b1 : Int) (h0 : -2147483648 ≤ a0 ∧ a0 ≤ 2147483647) (h1 : -2147483648 ≤ a1 ∧ a1 ≤ 2147483647) (h2 : -2147483648 ≤ b0 ∧ b0 ≤ 2147483647) (h3 : -2147483648 ≤ b1 ∧ b1 ≤ 2147483647) (w : World) :
  Calls Try.prog 23 #[.agg #[.int .i32 a0, .int .i32 a1], .agg #[.int .i32 b0, .int .i32 b1]] w fun e w' => e = .returned (.tuple #[.int .i64 (b0 - a0), .int .i64 (b1 - a1)]) ∧ Below w.heap.size w w' := by
 refine vec_Diff.calls a0 a1 b0 b1 _ _ w ?_
 unfold vec_Diff.f
 rw [w64_id (n := a0) (by omega) (by omega), w64_id (n := a1) (by omega) (by omega), w64_id (n := b0) (by omega) (by omega), w64_id (n := b1) (by omega) (by omega), w64_id (by omega) (by omega), w64_id (by omega) (by omega)]
theorem wide_MulDiv.exact (a b c : Int) (ha : -9223372036854775808 ≤ a ∧ a ≤ 9223372036854775807) (hb : -9223372036854775808 ≤ b ∧ b ≤ 9223372036854775807) (hc : -9223372036854775808 ≤ c ∧ c ≤ 9223372036854775807) (w : World) :
  Calls Try.prog 31 #[.int .i64 a, .int .i64 b, .int .i64 c] w fun e w' => e = .returned (.tuple #[.int .i64 (mulDivS a b c).1, .int .i64 (mulDivS a b c).2]) ∧ Below w.heap.size w w' := by
 refine wide_MulDiv.calls a b c _ _ w ?_
 unfold wide_MulDiv.f
 rw [if_pos ⟨i64B_iff.mpr ha, i64B_iff.mpr hb, i64B_iff.mpr hc⟩]
theorem point_part.same (f x n d : Int) (hx : -9223372036854775808 ≤ x ∧ x ≤ 9223372036854775807) (hn : -9223372036854775808 ≤ n ∧ n ≤ 9223372036854775807) (hd : -9223372036854775808 ≤ d ∧ d ≤ 9223372036854775807) (a1 a2 : Addr) (w : World) (h1 : w.cell? a1 = some (.int .i64 n)) (h2 : w.cell? a2 = some (.int .i64 d)) :
  Calls Try.prog 30 #[.int .i32 f, .int .i64 x, .pointer (some a1), .pointer (some a2)] w fun e w' => e = .returned (.int .i32 (partS f x n d)) ∧ Below w.heap.size w w' := by
 have HM := Lib.hid (fun w => wide_MulDiv.exact x n d hx hn hd w)
 clear hx hn hd
 obtain ⟨k, hk⟩ : ∃ k, (mulDivS x n d).1 = k := ⟨_, rfl⟩
 obtain ⟨j, hj⟩ : ∃ k, (mulDivS x n d).2 = k := ⟨_, rfl⟩
 unfold partS
 rw [hk, hj] at HM
 rw [hk]
 clear hk hj
 go_enter Try.func30, Try.ntmps30
 go_wp2_with fail
 refine (HM.out _).mono ?_
 rintro e w1 ⟨rfl, hb1⟩
 go_wp2
 go_ret
 exact ⟨rfl, hb1⟩
/-- What is kept: the blocks of the arguments and of the result, and the two captured variables. -/
def Near (B k : Nat) (W0 W : World) (n d : Int) : Prop := Below B W0 W ∧ k + 2 ≤ W.heap.size ∧ B ≤ W.heap.size ∧ W.cell? ⟨k, 0, none⟩ = some (.int .i64 n) ∧ W.cell? ⟨k + 1, 0, none⟩ = some (.int .i64 d)
theorem Near.next {B k : Nat} {W0 W W' : World} {n d : Int} (h : Near B k W0 W n d) (hb : Below W.heap.size W W') : Near B k W0 W' n d := by
 obtain ⟨h1, h2, h3, h4, h5⟩ := h
 have hs := hb.size
 obtain ⟨hc, hf⟩ := kept_cell hb
 exact ⟨below_then h1 h3 hb, by omega, by omega, by rw [hc _ _ (by omega)]; exact h4, by rw [hc _ _ (by omega)]; exact h5⟩
theorem Near.drew {B k : Nat} {W0 W : World} {n d : Int} (h : Near B k W0 W n d) : Near B k W0 W.drew n d := ⟨lD h.1, h.2.1, h.2.2.1, h.2.2.2.1, h.2.2.2.2⟩
theorem Near.start (p0 p1 q0 q1 c0 c1 n d : Int) (w w1 : World) (hb : Below ((((w.alloc (.cells #[.int .i32 p0, .int .i32 p1] 23)).alloc (.cells #[.int .i32 q0, .int .i32 q1] 23)).alloc (.cells #[.int .i32 c0, .int .i32 c1] 23)).alloc (.cells #[.int .i32 0, .int .i32 0] 23)).heap.size ((((w.alloc (.cells #[.int .i32 p0, .int .i32 p1] 23)).alloc (.cells #[.int .i32 q0, .int .i32 q1] 23)).alloc (.cells #[.int .i32 c0, .int .i32 c1] 23)).alloc (.cells #[.int .i32 0, .int .i32 0] 23)) w1) :
  Near (w.heap.size + 4) w1.heap.size ((((w.alloc (.cells #[.int .i32 p0, .int .i32 p1] 23)).alloc (.cells #[.int .i32 q0, .int .i32 q1] 23)).alloc (.cells #[.int .i32 c0, .int .i32 c1] 23)).alloc (.cells #[.int .i32 0, .int .i32 0] 23)) ((w1.alloc (.cells #[.int .i64 n] 2)).alloc (.cells #[.int .i64 d] 2)) n d := by
 have h1 := hb.mono (show w.heap.size + 4 ≤ _ by simp)
 have h2 : w.heap.size + 4 ≤ w1.heap.size := by have := hb.size; simp at this; omega
 refine ⟨(h1.alloc h2 _).alloc (by simp; omega) _, by simp, by simp; omega, ?_, ?_⟩
 ·simp [go_sem]
 ·simp [go_sem]
theorem point_Nearest.zero (p0 p1 q0 q1 c0 c1 n : Int) (w : World) (hp : point_Param.f p0 p1 q0 q1 c0 c1 = some (n, 0)) :
  Calls Try.prog 24 #[.agg #[.int .i32 p0, .int .i32 p1], .agg #[.int .i32 q0, .int .i32 q1], .agg #[.int .i32 c0, .int .i32 c1]] w fun e w' => e = .returned (.agg #[.int .i32 p0, .int .i32 p1]) ∧ Below w.heap.size w w' := by
 have HP := Lib.hid (fun w => point_Param.calls p0 p1 q0 q1 c0 c1 n 0 w hp)
 clear hp
 have e1 : ((0 : Int) == 0) = true := rfl
 go_enter Try.func24, Try.ntmps24
 go_wp2_with fail
 refine (HP.out _).mono ?_
 rintro e w1 ⟨rfl, hb1⟩
 have HN1 := Near.start p0 p1 q0 q1 c0 c1 n 0 w w1 hb1
 obtain ⟨hc2, hf2⟩ := kept_cell HN1.1
 clear hb1
 go_wp2_with fail
 exact bodyPost_ret (v := .agg #[.int .i32 p0, .int .i32 p1]) (by simp [results, Try.results24, go_sem, hc2]) rfl ⟨rfl, lS (lS ((lA (lA (lA (lA (Below.refl _ _) _) _) _) _).trans (HN1.1.mono (by omega))) (by omega)) (by omega)⟩
theorem Near.args {p0 p1 q0 q1 c0 c1 n d : Int} {w W : World} {k : Nat} (h : Near (w.heap.size + 4) k ((((w.alloc (.cells #[.int .i32 p0, .int .i32 p1] 23)).alloc (.cells #[.int .i32 q0, .int .i32 q1] 23)).alloc (.cells #[.int .i32 c0, .int .i32 c1] 23)).alloc (.cells #[.int .i32 0, .int .i32 0] 23)) W n d) :
  W.cell? ⟨w.heap.size, 0, none⟩ = some (.int .i32 p0) ∧ W.cell? ⟨w.heap.size, 1, none⟩ = some (.int .i32 p1) := by
 obtain ⟨hc, hf⟩ := kept_cell h.1
 exact ⟨by rw [hc _ _ (by omega)]; simp [go_sem], by rw [hc _ _ (by omega)]; simp [go_sem]⟩
set_option maxHeartbeats 2000000 in
set_option maxRecDepth 100000 in
theorem point_Nearest.far (p0 p1 q0 q1 c0 c1 n d : Int) (w : World) (hp : point_Param.f p0 p1 q0 q1 c0 c1 = some (n, d)) (hd0 : d ≠ 0) (h0 : -2147483648 ≤ p0 ∧ p0 ≤ 2147483647) (h1 : -2147483648 ≤ p1 ∧ p1 ≤ 2147483647) (h2 : -2147483648 ≤ q0 ∧ q0 ≤ 2147483647) (h3 : -2147483648 ≤ q1 ∧ q1 ≤ 2147483647)
  (hn : -9223372036854775808 ≤ n ∧ n ≤ 9223372036854775807) (hd : -9223372036854775808 ≤ d ∧ d ≤ 9223372036854775807) :
  Calls Try.prog 24 #[.agg #[.int .i32 p0, .int .i32 p1], .agg #[.int .i32 q0, .int .i32 q1], .agg #[.int .i32 c0, .int .i32 c1]] w fun e w' => e = .returned (.agg #[.int .i32 (partS p0 (q0 - p0) n d), .int .i32 (partS p1 (q1 - p1) n d)]) ∧ Below w.heap.size w w' := by
 have HP := Lib.hid (fun w => point_Param.calls p0 p1 q0 q1 c0 c1 n d w hp)
 have HD := Lib.hid (fun w => vec_Diff.exact p0 p1 q0 q1 h0 h1 h2 h3 w)
 have HX := Lib.hid (fun a1 a2 w => point_part.same p0 (q0 - p0) n d (by omega) hn hd a1 a2 w)
 have HY := Lib.hid (fun a1 a2 w => point_part.same p1 (q1 - p1) n d (by omega) hn hd a1 a2 w)
 have e1 : (d == 0) = false := by simpa using hd0
 clear hp hd0 h0 h1 h2 h3 hn hd
 go_enter Try.func24, Try.ntmps24
 go_wp2_with fail
 refine (HP.out _).mono ?_
 rintro e w1 ⟨rfl, hb1⟩
 have HN1 := Near.start p0 p1 q0 q1 c0 c1 n d w w1 hb1
 obtain ⟨hc1, hf1⟩ := kept_cell HN1.1
 clear hb1
 go_wp2_with fail
 refine (HD.out _).mono ?_
 rintro e w2 ⟨rfl, hb2⟩
 have HN2 := HN1.next hb2
 clear hb2 hc1 hf1
 obtain ⟨a2, b2⟩ := HN2.args
 go_wp2_with fail
 go_region_held3 (fun W => W.cell? ⟨w.heap.size, 0, none⟩ = some (.int .i32 p0) ∧ W.cell? ⟨w.heap.size, 1, none⟩ = some (.int .i32 p1)) (first | exact ⟨a2, b2⟩ | exact ⟨a3, b3⟩ | exact ⟨a4, b4⟩ | exact ⟨(World.cell?_setCell_far _ _ _ _ (show w.heap.size + 1 + 1 + 1 ≠ w.heap.size by omega)).trans ((World.cell?_setCell_far _ _ _ _ (show w.heap.size + 1 + 1 + 1 ≠ w.heap.size by omega)).trans a4), (World.cell?_setCell_far _ _ _ _ (show w.heap.size + 1 + 1 + 1 ≠ w.heap.size by omega)).trans ((World.cell?_setCell_far _ _ _ _ (show w.heap.size + 1 + 1 + 1 ≠ w.heap.size by omega)).trans b4)⟩ | go_keep)
  (first
  | (go_at_call_of 30 (Value.int .i32 p0); refine (HX.out _ _ _ HN2.drew.2.2.2.1 HN2.drew.2.2.2.2).mono ?_; rintro e w3 ⟨rfl, hb3⟩; have HN3 := HN2.drew.next hb3; obtain ⟨a3, b3⟩ := HN3.args)
  | (go_at_call_of 30 (Value.int .i32 p1); refine (HY.out _ _ _ HN3.2.2.2.1 HN3.2.2.2.2).mono ?_; rintro e w4 ⟨rfl, hb4⟩; have HN4 := HN3.next hb4; obtain ⟨a4, b4⟩ := HN4.args; obtain ⟨hc4, hf4⟩ := kept_cell HN4.1))
 all_goals
  go_wp2_with fail
  exact bodyPost_ret (v := .agg #[.int .i32 (partS p0 (q0 - p0) n d), .int .i32 (partS p1 (q1 - p1) n d)]) (by simp [results, Try.results24, go_sem, hc4]) rfl ⟨rfl, lS (lS ((lA (lA (lA (lA (Below.refl _ _) _) _) _) _).trans (HN4.1.mono (by omega))) (by omega)) (by omega)⟩
theorem point_Nearest.calls (a0_0 a0_1 a1_0 a1_1 a2_0 a2_1 r1 r2 : Int) (w : World) (h : point_Nearest.f a0_0 a0_1 a1_0 a1_1 a2_0 a2_1 = some (r1, r2)) :
  Calls Try.prog 24 #[.agg #[.int .i32 a0_0, .int .i32 a0_1], .agg #[.int .i32 a1_0, .int .i32 a1_1], .agg #[.int .i32 a2_0, .int .i32 a2_1]] w fun e w' => e = .returned (.agg #[.int .i32 r1, .int .i32 r2]) ∧ Below w.heap.size w w' := by
 unfold point_Nearest.f at h
 split at h
 ·rename_i c
  obtain ⟨⟨n, d⟩, hp, h⟩ := Option.bind_eq_some_iff.mp h
  simp only at h
  split at h
  ·rename_i hd
   subst hd
   simp only [Option.some.injEq, Prod.mk.injEq] at h
   obtain ⟨rfl, rfl⟩ := h
   exact point_Nearest.zero _ _ _ _ _ _ n w hp
  ·rename_i hd
   split at h
   ·rename_i k
    simp only [Option.some.injEq, Prod.mk.injEq] at h
    obtain ⟨rfl, rfl⟩ := h
    exact point_Nearest.far _ _ _ _ _ _ n d w hp hd (i32B_iff.mp c.1) (i32B_iff.mp c.2.1) (i32B_iff.mp c.2.2.1) (i32B_iff.mp c.2.2.2) (i64B_iff.mp k.1) (i64B_iff.mp k.2)
   ·cases h
 ·cases h

end Go.Proofs.Ytddooigcnbpliaa.Q
