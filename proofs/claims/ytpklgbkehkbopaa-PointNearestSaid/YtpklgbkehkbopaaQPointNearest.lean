-- PRINTED by print.py (a twelfth state) out of the translation. Not trusted: Lean checks it.
import Derived.Test.YtpklgbkehkbopaaQ0
import Derived.Test.YtpklgbkehkbopaaQbilliardlaw12
import Derived.Test.YtpklgbkehkbopaaQbilliardref12
import Derived.Test.YtpklgbkehkbopaaQpoint
namespace Go.Proofs.Ytpklgbkehkbopaa.Q
open Go.RowKit Go.Proofs.YtpklgbkehkbopaaW.PrintWords Go.Proofs.YtpklgbkehkbopaaW.PrintLast Go.Proofs.YtpklgbkehkbopaaW.PrintMore
attribute [local go_sem] max2_int min2_int max_two min_two max_three min_three max_four min_four   -- for this text's walks alone
set_option linter.unusedVariables false
set_option linter.unusedSimpArgs false

/-! ### billiardlaw12_PointNearest: function 4 -/
mutual
def billiardlaw12_PointNearest.j0 : Nat → Bool → Int → Int → Int → Int → Int → Int → Option (Bool)
  | 0, _, _, _, _, _, _, _ => none
  | k + 1, x17, x186000, x186001, x187000, x187001, x188000, x188001 => if x17 = true then ((billiardlaw12_awake.f).bind fun t190 => (some t190)) else ((point_Nearest.f x186000 x186001 x187000 x187001 x188000 x188001).bind fun bt191 => (if bt191.1 < (mn x186000 x187000) then (billiardlaw12_PointNearest.j1 k true x186000 x186001 x187000 x187001 x188000 x188001 bt191.1 bt191.2) else (if bt191.1 > (mx x186000 x187000) then (billiardlaw12_PointNearest.j1 k true x186000 x186001 x187000 x187001 x188000 x188001 bt191.1 bt191.2) else (if bt191.2 < (mn x186001 x187001) then (billiardlaw12_PointNearest.j1 k true x186000 x186001 x187000 x187001 x188000 x188001 bt191.1 bt191.2) else (billiardlaw12_PointNearest.j1 k (decide (bt191.2 > (mx x186001 x187001))) x186000 x186001 x187000 x187001 x188000 x188001 bt191.1 bt191.2)))))
def billiardlaw12_PointNearest.j1 : Nat → Bool → Int → Int → Int → Int → Int → Int → Int → Int → Option (Bool)
  | 0, _, _, _, _, _, _, _, _, _ => none
  | k + 1, x60, x186000, x186001, x187000, x187001, x188000, x188001, x194000, x194001 => if x60 = true then (some false) else ((billiardlaw12_distance.f k x194000 x194001 x188000 x188001).bind fun t194 => ((billiardlaw12_distance.f k x186000 x186001 x188000 x188001).bind fun t195 => (if t194 ≤ (wrap64 (t195 + 2)) then ((billiardlaw12_distance.f k x187000 x187001 x188000 x188001).bind fun t196 => (some (decide (t194 ≤ (wrap64 (t196 + 2)))))) else (some false))))
end
def billiardlaw12_PointNearest.f (k : Nat) (a0_0 : Int) (a0_1 : Int) (a1_0 : Int) (a1_1 : Int) (a2_0 : Int) (a2_1 : Int) : Option (Bool) := (billiardlaw12_awake.f).bind fun t188 => (if t188 = true then ((billiardref12_Right.f a0_0 a0_1 a1_0 a1_1 a2_0 a2_1).bind fun t189 => (billiardlaw12_PointNearest.j0 k (!t189) a0_0 a0_1 a1_0 a1_1 a2_0 a2_1)) else (billiardlaw12_PointNearest.j0 k true a0_0 a0_1 a1_0 a1_1 a2_0 a2_1))
theorem billiardlaw12_PointNearest.mono_l : ∀ k, (∀ y0 y1 y2 y3 y4 y5 y6, LeO (billiardlaw12_PointNearest.j0 k y0 y1 y2 y3 y4 y5 y6) (billiardlaw12_PointNearest.j0 (k + 1) y0 y1 y2 y3 y4 y5 y6)) ∧ (∀ y0 y1 y2 y3 y4 y5 y6 y7 y8, LeO (billiardlaw12_PointNearest.j1 k y0 y1 y2 y3 y4 y5 y6 y7 y8) (billiardlaw12_PointNearest.j1 (k + 1) y0 y1 y2 y3 y4 y5 y6 y7 y8))
  | 0 => ⟨fun _ _ _ _ _ _ _ r h => by simp [billiardlaw12_PointNearest.j0] at h, fun _ _ _ _ _ _ _ _ _ r h => by simp [billiardlaw12_PointNearest.j1] at h⟩
  | k + 1 => by
    obtain ⟨ih0, ih1⟩ := billiardlaw12_PointNearest.mono_l k
    refine ⟨?_, ?_⟩
    · intro y0 y1 y2 y3 y4 y5 y6
      unfold billiardlaw12_PointNearest.j0
      repeat' first
      | (with_reducible exact ih0 _ _ _ _ _ _ _)
      | (with_reducible exact ih1 _ _ _ _ _ _ _ _ _)
      | (with_reducible exact billiardlaw12_distance.mono _ _ _ _ _)
      | (with_reducible exact LeO.refl _)
      | (with_reducible exact LeO.none _)
      | (with_reducible refine LeO.ite ?_ ?_)
      | (with_reducible refine LeO.bind ?_ (fun _ => ?_))
      | exact ih0 _ _ _ _ _ _ _
      | exact ih1 _ _ _ _ _ _ _ _ _
      | exact billiardlaw12_distance.mono _ _ _ _ _
      | exact LeO.none _
      | refine LeO.ite ?_ ?_
      | refine LeO.bind ?_ (fun _ => ?_)
    · intro y0 y1 y2 y3 y4 y5 y6 y7 y8
      unfold billiardlaw12_PointNearest.j1
      repeat' first
      | (with_reducible exact ih0 _ _ _ _ _ _ _)
      | (with_reducible exact ih1 _ _ _ _ _ _ _ _ _)
      | (with_reducible exact billiardlaw12_distance.mono _ _ _ _ _)
      | (with_reducible exact LeO.refl _)
      | (with_reducible exact LeO.none _)
      | (with_reducible refine LeO.ite ?_ ?_)
      | (with_reducible refine LeO.bind ?_ (fun _ => ?_))
      | exact ih0 _ _ _ _ _ _ _
      | exact ih1 _ _ _ _ _ _ _ _ _
      | exact billiardlaw12_distance.mono _ _ _ _ _
      | exact LeO.none _
      | refine LeO.ite ?_ ?_
      | refine LeO.bind ?_ (fun _ => ?_)
theorem billiardlaw12_PointNearest.mono : ∀ a0 a1 a2 a3 a4 a5 k, LeO (billiardlaw12_PointNearest.f k a0 a1 a2 a3 a4 a5) (billiardlaw12_PointNearest.f (k + 1) a0 a1 a2 a3 a4 a5) := by
  intro a0 a1 a2 a3 a4 a5 k
  obtain ⟨ih0, ih1⟩ := billiardlaw12_PointNearest.mono_l k
  unfold billiardlaw12_PointNearest.f
  repeat' first
      | (with_reducible exact ih0 _ _ _ _ _ _ _)
      | (with_reducible exact ih1 _ _ _ _ _ _ _ _ _)
      | (with_reducible exact billiardlaw12_distance.mono _ _ _ _ _)
      | (with_reducible exact LeO.refl _)
      | (with_reducible exact LeO.none _)
      | (with_reducible refine LeO.ite ?_ ?_)
      | (with_reducible refine LeO.bind ?_ (fun _ => ?_))
      | exact ih0 _ _ _ _ _ _ _
      | exact ih1 _ _ _ _ _ _ _ _ _
      | exact billiardlaw12_distance.mono _ _ _ _ _
      | exact LeO.none _
      | refine LeO.ite ?_ ?_
      | refine LeO.bind ?_ (fun _ => ?_)
set_option maxHeartbeats 8000000 in
set_option maxRecDepth 100000 in
theorem billiardlaw12_PointNearest.calls (k : Nat) (a0_0 : Int) (a0_1 : Int) (a1_0 : Int) (a1_1 : Int) (a2_0 : Int) (a2_1 : Int) (r : Bool) (w : World) (h : billiardlaw12_PointNearest.f k a0_0 a0_1 a1_0 a1_1 a2_0 a2_1 = some r) :
    Calls Try.prog 4 #[.agg #[.int .i32 a0_0, .int .i32 a0_1], .agg #[.int .i32 a1_0, .int .i32 a1_1], .agg #[.int .i32 a2_0, .int .i32 a2_1]] w fun e w' => e = .returned (.bool r) ∧ Below w.heap.size w w' := by
  have hu23 := Try.underlying23
  have HB := Aside0.mk (Below.refl w.heap.size w)
  have H : ((billiardlaw12_awake.f).bind fun t188 => (if t188 = true then ((billiardref12_Right.f a0_0 a0_1 a1_0 a1_1 a2_0 a2_1).bind fun t189 => (billiardlaw12_PointNearest.j0 k (!t189) a0_0 a0_1 a1_0 a1_1 a2_0 a2_1)) else (billiardlaw12_PointNearest.j0 k true a0_0 a0_1 a1_0 a1_1 a2_0 a2_1))) = some r := h
  clear h
  have HC4 := Aside0.mk H
  clear H
  go_enter Try.func4, Try.ntmps4
  go_upto_region 1 with (first | ((with_reducible refine gate_dst (N := 3) rfl ?_); (try (refine gate_guard (by rfl) ?_; dsimp only)); refine box_event ?hg (N := 3) ?hd (cs := #[.int .i32 a0_0, .int .i32 a0_1]) (t := 23) ?hr ?_; (case hd => rfl); (case hg => rfl); (case hr => first | (go_simp; done) | (go_simp; rfl)); intro gb185 hg w5 hbox hb; have n0_ := Aside0.mk (below_step (by repeat (first | (with_reducible first | exact HB.out | apply below_alloc | apply pw_below_drewN | apply below_drew1) | exact HB.out)) hb); have n1_ := Aside0.mk (hbox); have n2_ := Aside0.mk ((by rw [hg]; exact (below_size (by repeat (first | (with_reducible first | exact HB.out | apply below_alloc | apply pw_below_drewN | apply below_drew1) | exact HB.out))) : w.heap.size ≤ gb185)); have n3_ := Aside0.mk ((by rw [hg]; exact (below_size (by repeat (first | (with_reducible first | exact HB.out | apply below_alloc | apply pw_below_drewN | apply below_drew1) | exact HB.out))) : w.heap.size ≤ gb185)); clear HB; have HB := n0_; have BK185 := n1_; have GW185 := n2_; have GE185 := n3_; clear n0_ n1_ n2_ n3_; clear hb hbox hg) | ((with_reducible refine gate_dst (N := 4) rfl ?_); (try (refine gate_guard (by rfl) ?_; dsimp only)); refine box_event ?hg (N := 4) ?hd (cs := #[.int .i32 a1_0, .int .i32 a1_1]) (t := 23) ?hr ?_; (case hd => rfl); (case hg => rfl); (case hr => first | (go_simp; done) | (go_simp; rfl)); intro gb186 hg w6 hbox hb; have n0_ := Aside0.mk (blk_below (g := gb185) (o := .cells #[.int .i32 a0_0, .int .i32 a0_1] 23 (0, 0)) (by (with_reducible repeat (first | refine blk_drewN ?_ _ | refine blk_drew ?_ | refine blk_alloc ?_ _)); exact BK185.out) hb); have n1_ := Aside0.mk (below_step (by repeat (first | (with_reducible first | exact HB.out | apply below_alloc | apply pw_below_drewN | apply below_drew1 | refine below_set ?_ GE185.out) | exact HB.out)) hb); have n2_ := Aside0.mk (hbox); have n3_ := Aside0.mk ((by rw [hg]; exact (below_size (by repeat (first | (with_reducible first | exact HB.out | apply below_alloc | apply pw_below_drewN | apply below_drew1 | refine below_set ?_ GE185.out) | exact HB.out))) : w.heap.size ≤ gb186)); have n4_ := Aside0.mk ((by rw [hg]; exact (below_size (by repeat (first | (with_reducible first | exact HB.out | apply below_alloc | apply pw_below_drewN | apply below_drew1 | refine below_set ?_ GE185.out) | exact HB.out))) : w.heap.size ≤ gb186)); have n5_ := Aside0.mk ((by rw [hg]; exact Nat.ne_of_lt (blk_lt (g := gb185) (o := .cells #[.int .i32 a0_0, .int .i32 a0_1] 23 (0, 0)) (by (with_reducible repeat (first | refine blk_drewN ?_ _ | refine blk_drew ?_ | refine blk_alloc ?_ _)); exact BK185.out)) : gb185 ≠ gb186)); have n6_ := Aside0.mk ((by rw [hg]; exact Nat.ne_of_gt (blk_lt (g := gb185) (o := .cells #[.int .i32 a0_0, .int .i32 a0_1] 23 (0, 0)) (by (with_reducible repeat (first | refine blk_drewN ?_ _ | refine blk_drew ?_ | refine blk_alloc ?_ _)); exact BK185.out)) : gb186 ≠ gb185)); clear BK185; clear HB; have BK185 := n0_; have HB := n1_; have BK186 := n2_; have GW186 := n3_; have GE186 := n4_; have NB185_186 := n5_; have NB186_185 := n6_; clear n0_ n1_ n2_ n3_ n4_ n5_ n6_; clear hb hbox hg) | ((with_reducible refine gate_dst (N := 5) rfl ?_); (try (refine gate_guard (by rfl) ?_; dsimp only)); refine box_event ?hg (N := 5) ?hd (cs := #[.int .i32 a2_0, .int .i32 a2_1]) (t := 23) ?hr ?_; (case hd => rfl); (case hg => rfl); (case hr => first | (go_simp; done) | (go_simp; rfl)); intro gb187 hg w7 hbox hb; have n0_ := Aside0.mk (blk_below (g := gb185) (o := .cells #[.int .i32 a0_0, .int .i32 a0_1] 23 (0, 0)) (by (with_reducible repeat (first | refine blk_drewN ?_ _ | refine blk_drew ?_ | refine blk_alloc ?_ _)); exact BK185.out) hb); have n1_ := Aside0.mk (blk_below (g := gb186) (o := .cells #[.int .i32 a1_0, .int .i32 a1_1] 23 (0, 0)) (by (with_reducible repeat (first | refine blk_drewN ?_ _ | refine blk_drew ?_ | refine blk_alloc ?_ _)); exact BK186.out) hb); have n2_ := Aside0.mk (below_step (by repeat (first | (with_reducible first | exact HB.out | apply below_alloc | apply pw_below_drewN | apply below_drew1 | refine below_set ?_ GE185.out | refine below_set ?_ GE186.out) | exact HB.out)) hb); have n3_ := Aside0.mk (hbox); have n4_ := Aside0.mk ((by rw [hg]; exact (below_size (by repeat (first | (with_reducible first | exact HB.out | apply below_alloc | apply pw_below_drewN | apply below_drew1 | refine below_set ?_ GE185.out | refine below_set ?_ GE186.out) | exact HB.out))) : w.heap.size ≤ gb187)); have n5_ := Aside0.mk ((by rw [hg]; exact (below_size (by repeat (first | (with_reducible first | exact HB.out | apply below_alloc | apply pw_below_drewN | apply below_drew1 | refine below_set ?_ GE185.out | refine below_set ?_ GE186.out) | exact HB.out))) : w.heap.size ≤ gb187)); have n6_ := Aside0.mk ((by rw [hg]; exact Nat.ne_of_lt (blk_lt (g := gb185) (o := .cells #[.int .i32 a0_0, .int .i32 a0_1] 23 (0, 0)) (by (with_reducible repeat (first | refine blk_drewN ?_ _ | refine blk_drew ?_ | refine blk_alloc ?_ _)); exact BK185.out)) : gb185 ≠ gb187)); have n7_ := Aside0.mk ((by rw [hg]; exact Nat.ne_of_gt (blk_lt (g := gb185) (o := .cells #[.int .i32 a0_0, .int .i32 a0_1] 23 (0, 0)) (by (with_reducible repeat (first | refine blk_drewN ?_ _ | refine blk_drew ?_ | refine blk_alloc ?_ _)); exact BK185.out)) : gb187 ≠ gb185)); have n8_ := Aside0.mk ((by rw [hg]; exact Nat.ne_of_lt (blk_lt (g := gb186) (o := .cells #[.int .i32 a1_0, .int .i32 a1_1] 23 (0, 0)) (by (with_reducible repeat (first | refine blk_drewN ?_ _ | refine blk_drew ?_ | refine blk_alloc ?_ _)); exact BK186.out)) : gb186 ≠ gb187)); have n9_ := Aside0.mk ((by rw [hg]; exact Nat.ne_of_gt (blk_lt (g := gb186) (o := .cells #[.int .i32 a1_0, .int .i32 a1_1] 23 (0, 0)) (by (with_reducible repeat (first | refine blk_drewN ?_ _ | refine blk_drew ?_ | refine blk_alloc ?_ _)); exact BK186.out)) : gb187 ≠ gb186)); clear BK185; clear BK186; clear HB; have BK185 := n0_; have BK186 := n1_; have HB := n2_; have BK187 := n3_; have GW187 := n4_; have GE187 := n5_; have NB185_187 := n6_; have NB187_185 := n7_; have NB186_187 := n8_; have NB187_186 := n9_; clear n0_ n1_ n2_ n3_ n4_ n5_ n6_ n7_ n8_ n9_; clear hb hbox hg))
  (try simp only [Act.put, List.setIfInBounds_toArray, List.set_cons_zero, List.set_cons_succ])
  go_cut [17] (fun v17 wc => ∃ (kq : Nat) (x17_3 : Bool), v17 = .bool x17_3 ∧ Aside0 (billiardlaw12_PointNearest.j0 kq x17_3 a0_0 a0_1 a1_0 a1_1 a2_0 a2_1 = some r) ∧ Aside0 (kq ≤ k) ∧ Aside0 (wc.heap[gb185]? = some (.cells #[.int .i32 a0_0, .int .i32 a0_1] 23 (0, 0))) ∧ Aside0 (wc.heap[gb186]? = some (.cells #[.int .i32 a1_0, .int .i32 a1_1] 23 (0, 0))) ∧ Aside0 (wc.heap[gb187]? = some (.cells #[.int .i32 a2_0, .int .i32 a2_1] 23 (0, 0))) ∧ Aside0 (Below w.heap.size w wc))
  case first =>
    have H := HC4.out
    clear HC4
    replace H := Option.bind_eq_some_iff.mp H
    obtain ⟨t188, A80, H⟩ := H
    replace H : (if t188 = true then ((billiardref12_Right.f a0_0 a0_1 a1_0 a1_1 a2_0 a2_1).bind fun t189 => (billiardlaw12_PointNearest.j0 k (!t189) a0_0 a0_1 a1_0 a1_1 a2_0 a2_1)) else (billiardlaw12_PointNearest.j0 k true a0_0 a0_1 a1_0 a1_1 a2_0 a2_1)) = some r := H
    have A8 := Aside0.mk A80
    clear A80
    by_cases c9 : t188 = true
    · subst c9
      have H1 : ((billiardref12_Right.f a0_0 a0_1 a1_0 a1_1 a2_0 a2_1).bind fun t189 => (billiardlaw12_PointNearest.j0 k (!t189) a0_0 a0_1 a1_0 a1_1 a2_0 a2_1)) = some r := by rw [if_pos rfl] at H; exact H
      clear H
      have H := H1
      clear H1
      replace H := Option.bind_eq_some_iff.mp H
      obtain ⟨t189, A100, H⟩ := H
      replace H : (billiardlaw12_PointNearest.j0 k (!t189) a0_0 a0_1 a1_0 a1_1 a2_0 a2_1) = some r := H
      have A10 := Aside0.mk A100
      clear A100
      have H' := Aside0.mk H
      clear H
      go_wp2_with (first | ((with_reducible refine gate_callee (f := 8) rfl ?_); refine goesL_ (some 9) rfl rfl Try.func8 (by kernel_rfl) rfl #[] rfl (by (try simp only [List.map_toArray, List.map_cons, List.map_nil]); first | done | rfl | (simp only [List.length_drop, List.length_take]; rfl)) ?_; (with_reducible refine (billiardlaw12_awake.calls  true _ A8.out).mono ?_); rintro e w11 ⟨rfl, hb⟩; refine ⟨_, rfl, ?_⟩; have n0_ := Aside0.mk (blk_below (g := gb185) (o := .cells #[.int .i32 a0_0, .int .i32 a0_1] 23 (0, 0)) (by (with_reducible repeat (first | refine blk_drewN ?_ _ | refine blk_drew ?_ | refine blk_alloc ?_ _)); exact BK185.out) hb); have n1_ := Aside0.mk (blk_below (g := gb186) (o := .cells #[.int .i32 a1_0, .int .i32 a1_1] 23 (0, 0)) (by (with_reducible repeat (first | refine blk_drewN ?_ _ | refine blk_drew ?_ | refine blk_alloc ?_ _)); exact BK186.out) hb); have n2_ := Aside0.mk (blk_below (g := gb187) (o := .cells #[.int .i32 a2_0, .int .i32 a2_1] 23 (0, 0)) (by (with_reducible repeat (first | refine blk_drewN ?_ _ | refine blk_drew ?_ | refine blk_alloc ?_ _)); exact BK187.out) hb); have n3_ := Aside0.mk (below_step (by repeat (first | (with_reducible first | exact HB.out | apply below_alloc | apply pw_below_drewN | apply below_drew1 | refine below_set ?_ GE185.out | refine below_set ?_ GE186.out | refine below_set ?_ GE187.out) | exact HB.out)) hb); clear BK185; clear BK186; clear BK187; clear HB; have BK185 := n0_; have BK186 := n1_; have BK187 := n2_; have HB := n3_; clear n0_ n1_ n2_ n3_; (try clear hb); (try clear hb2); (try clear hk); (try clear hi); have hnb12 := NB185_186.out; have hnc12 := NB186_185.out; have hnb13 := NB185_187.out; have hnc13 := NB187_185.out; have hcz14_0 : w11.cell? ⟨gb185, 0, none⟩ = some (.int .i32 a0_0) := (blk_cell BK185.out 0).trans rfl; have hcz14_1 : w11.cell? ⟨gb185, 1, none⟩ = some (.int .i32 a0_1) := (blk_cell BK185.out 1).trans rfl; have hfz14_0 := blk_frozen BK185.out 0; have hfz14_1 := blk_frozen BK185.out 1; have hnb15 := NB186_187.out; have hnc15 := NB187_186.out; have hcz16_0 : w11.cell? ⟨gb186, 0, none⟩ = some (.int .i32 a1_0) := (blk_cell BK186.out 0).trans rfl; have hcz16_1 : w11.cell? ⟨gb186, 1, none⟩ = some (.int .i32 a1_1) := (blk_cell BK186.out 1).trans rfl; have hfz16_0 := blk_frozen BK186.out 0; have hfz16_1 := blk_frozen BK186.out 1; have hcz17_0 : w11.cell? ⟨gb187, 0, none⟩ = some (.int .i32 a2_0) := (blk_cell BK187.out 0).trans rfl; have hcz17_1 : w11.cell? ⟨gb187, 1, none⟩ = some (.int .i32 a2_1) := (blk_cell BK187.out 1).trans rfl; have hfz17_0 := blk_frozen BK187.out 0; have hfz17_1 := blk_frozen BK187.out 1) | (go_at_call 9; (with_reducible refine (billiardref12_Right.calls a0_0 a0_1 a1_0 a1_1 a2_0 a2_1 t189 _ A10.out).mono ?_); rintro e w18 ⟨rfl, hb⟩; have n0_ := Aside0.mk (blk_below (g := gb185) (o := .cells #[.int .i32 a0_0, .int .i32 a0_1] 23 (0, 0)) (by (with_reducible repeat (first | refine blk_drewN ?_ _ | refine blk_drew ?_ | refine blk_alloc ?_ _)); exact BK185.out) hb); have n1_ := Aside0.mk (blk_below (g := gb186) (o := .cells #[.int .i32 a1_0, .int .i32 a1_1] 23 (0, 0)) (by (with_reducible repeat (first | refine blk_drewN ?_ _ | refine blk_drew ?_ | refine blk_alloc ?_ _)); exact BK186.out) hb); have n2_ := Aside0.mk (blk_below (g := gb187) (o := .cells #[.int .i32 a2_0, .int .i32 a2_1] 23 (0, 0)) (by (with_reducible repeat (first | refine blk_drewN ?_ _ | refine blk_drew ?_ | refine blk_alloc ?_ _)); exact BK187.out) hb); have n3_ := Aside0.mk (below_step (by repeat (first | (with_reducible first | exact HB.out | apply below_alloc | apply pw_below_drewN | apply below_drew1 | refine below_set ?_ GE185.out | refine below_set ?_ GE186.out | refine below_set ?_ GE187.out) | exact HB.out)) hb); clear BK185; clear BK186; clear BK187; clear HB; have BK185 := n0_; have BK186 := n1_; have BK187 := n2_; have HB := n3_; clear n0_ n1_ n2_ n3_; (try clear hb); (try clear hb2); (try clear hk); (try clear hi)))
      go_meet
      case rel => exact ⟨_, (!t189), (by first | rfl | (simp; done) | (simp [*]; done)), H', ⟨by first | omega | exact Nat.le_refl _⟩, ⟨by (with_reducible repeat (first | refine blk_drewN ?_ _ | refine blk_drew ?_ | refine blk_alloc ?_ _)); exact BK185.out⟩, ⟨by (with_reducible repeat (first | refine blk_drewN ?_ _ | refine blk_drew ?_ | refine blk_alloc ?_ _)); exact BK186.out⟩, ⟨by (with_reducible repeat (first | refine blk_drewN ?_ _ | refine blk_drew ?_ | refine blk_alloc ?_ _)); exact BK187.out⟩, ⟨by repeat (first | (with_reducible first | exact HB.out | apply below_alloc | apply pw_below_drewN | apply below_drew1 | refine below_set ?_ GE185.out | refine below_set ?_ GE186.out | refine below_set ?_ GE187.out) | exact HB.out)⟩⟩
    · replace c9 := Bool.eq_false_iff.mpr c9
      subst c9
      have H1 : (billiardlaw12_PointNearest.j0 k true a0_0 a0_1 a1_0 a1_1 a2_0 a2_1) = some r := by rw [if_neg (show ¬ (false = true) by decide)] at H; exact H
      clear H
      have H := H1
      clear H1
      have H' := Aside0.mk H
      clear H
      go_wp2_with (first | ((with_reducible refine gate_callee (f := 8) rfl ?_); refine goesL_ (some 9) rfl rfl Try.func8 (by kernel_rfl) rfl #[] rfl (by (try simp only [List.map_toArray, List.map_cons, List.map_nil]); first | done | rfl | (simp only [List.length_drop, List.length_take]; rfl)) ?_; (with_reducible refine (billiardlaw12_awake.calls  false _ A8.out).mono ?_); rintro e w19 ⟨rfl, hb⟩; refine ⟨_, rfl, ?_⟩; have n0_ := Aside0.mk (blk_below (g := gb185) (o := .cells #[.int .i32 a0_0, .int .i32 a0_1] 23 (0, 0)) (by (with_reducible repeat (first | refine blk_drewN ?_ _ | refine blk_drew ?_ | refine blk_alloc ?_ _)); exact BK185.out) hb); have n1_ := Aside0.mk (blk_below (g := gb186) (o := .cells #[.int .i32 a1_0, .int .i32 a1_1] 23 (0, 0)) (by (with_reducible repeat (first | refine blk_drewN ?_ _ | refine blk_drew ?_ | refine blk_alloc ?_ _)); exact BK186.out) hb); have n2_ := Aside0.mk (blk_below (g := gb187) (o := .cells #[.int .i32 a2_0, .int .i32 a2_1] 23 (0, 0)) (by (with_reducible repeat (first | refine blk_drewN ?_ _ | refine blk_drew ?_ | refine blk_alloc ?_ _)); exact BK187.out) hb); have n3_ := Aside0.mk (below_step (by repeat (first | (with_reducible first | exact HB.out | apply below_alloc | apply pw_below_drewN | apply below_drew1 | refine below_set ?_ GE185.out | refine below_set ?_ GE186.out | refine below_set ?_ GE187.out) | exact HB.out)) hb); clear BK185; clear BK186; clear BK187; clear HB; have BK185 := n0_; have BK186 := n1_; have BK187 := n2_; have HB := n3_; clear n0_ n1_ n2_ n3_; (try clear hb); (try clear hb2); (try clear hk); (try clear hi)))
      go_meet
      case rel => exact ⟨_, (true), (by first | rfl | (simp; done) | (simp [*]; done)), H', ⟨by first | omega | exact Nat.le_refl _⟩, ⟨by (with_reducible repeat (first | refine blk_drewN ?_ _ | refine blk_drew ?_ | refine blk_alloc ?_ _)); exact BK185.out⟩, ⟨by (with_reducible repeat (first | refine blk_drewN ?_ _ | refine blk_drew ?_ | refine blk_alloc ?_ _)); exact BK186.out⟩, ⟨by (with_reducible repeat (first | refine blk_drewN ?_ _ | refine blk_drew ?_ | refine blk_alloc ?_ _)); exact BK187.out⟩, ⟨by repeat (first | (with_reducible first | exact HB.out | apply below_alloc | apply pw_below_drewN | apply below_drew1 | refine below_set ?_ GE185.out | refine below_set ?_ GE186.out | refine below_set ?_ GE187.out) | exact HB.out)⟩⟩
  case rest =>
    clear HC4
    try clear c1
    try clear p2
    try clear c4
    try clear c8
    try clear c9
    try clear c12
    try clear c13
    try clear c15
    try clear hcz14_0
    try clear hcz14_1
    try clear hcz16_0
    try clear hcz16_1
    try clear hcz17_0
    try clear hcz17_1
    try clear hfz14_0
    try clear hfz14_1
    try clear hfz16_0
    try clear hfz16_1
    try clear hfz17_0
    try clear hfz17_1
    obtain ⟨kq, x17_3, rfl, HA, HJ3, BK185, BK186, BK187, HB⟩ := hcut
    cases kq with
    | zero => exact absurd HA.out (by simp [billiardlaw12_PointNearest.j0])
    | succ kj3 =>
      have H := HA.out
      clear HA
      simp only [billiardlaw12_PointNearest.j0] at H
      by_cases c20 : x17_3 = true
      · subst c20
        have H1 : ((billiardlaw12_awake.f).bind fun t190 => (some t190)) = some r := by rw [if_pos rfl] at H; exact H
        clear H
        have H := H1
        clear H1
        replace H := Option.bind_eq_some_iff.mp H
        obtain ⟨t190, A210, H⟩ := H
        replace H : (some t190) = some r := H
        have A21 := Aside0.mk A210
        clear A210
        obtain rfl := Option.some.inj H
        go_wp2_with (first | ((with_reducible refine gate_callee (f := 8) rfl ?_); refine goesL_ (some 18) rfl rfl Try.func8 (by kernel_rfl) rfl #[] rfl (by (try simp only [List.map_toArray, List.map_cons, List.map_nil]); first | done | rfl | (simp only [List.length_drop, List.length_take]; rfl)) ?_; (with_reducible refine (billiardlaw12_awake.calls  t190 _ A21.out).mono ?_); rintro e w22 ⟨rfl, hb⟩; refine ⟨_, rfl, ?_⟩; have n0_ := Aside0.mk (blk_below (g := gb185) (o := .cells #[.int .i32 a0_0, .int .i32 a0_1] 23 (0, 0)) (by (with_reducible repeat (first | refine blk_drewN ?_ _ | refine blk_drew ?_ | refine blk_alloc ?_ _)); exact BK185.out) hb); have n1_ := Aside0.mk (blk_below (g := gb186) (o := .cells #[.int .i32 a1_0, .int .i32 a1_1] 23 (0, 0)) (by (with_reducible repeat (first | refine blk_drewN ?_ _ | refine blk_drew ?_ | refine blk_alloc ?_ _)); exact BK186.out) hb); have n2_ := Aside0.mk (blk_below (g := gb187) (o := .cells #[.int .i32 a2_0, .int .i32 a2_1] 23 (0, 0)) (by (with_reducible repeat (first | refine blk_drewN ?_ _ | refine blk_drew ?_ | refine blk_alloc ?_ _)); exact BK187.out) hb); have n3_ := Aside0.mk (below_step (by repeat (first | (with_reducible first | exact HB.out | apply below_alloc | apply pw_below_drewN | apply below_drew1 | refine below_set ?_ GE185.out | refine below_set ?_ GE186.out | refine below_set ?_ GE187.out) | exact HB.out)) hb); clear BK185; clear BK186; clear BK187; clear HB; have BK185 := n0_; have BK186 := n1_; have BK187 := n2_; have HB := n3_; clear n0_ n1_ n2_ n3_; (try clear hb); (try clear hb2); (try clear hk); (try clear hi)))
        go_ret
        exact ⟨by first | rfl | (simp [errW_none, errW_some] <;> rfl) | (simp [*, errW_none, errW_some] <;> rfl), by repeat (first | (with_reducible first | exact HB.out | apply below_alloc | apply pw_below_drewN | apply below_drew1 | refine below_set ?_ GE185.out | refine below_set ?_ GE186.out | refine below_set ?_ GE187.out) | exact HB.out)⟩
      · replace c20 := Bool.eq_false_iff.mpr c20
        subst c20
        have H1 : ((point_Nearest.f a0_0 a0_1 a1_0 a1_1 a2_0 a2_1).bind fun bt191 => (if bt191.1 < (mn a0_0 a1_0) then (billiardlaw12_PointNearest.j1 kj3 true a0_0 a0_1 a1_0 a1_1 a2_0 a2_1 bt191.1 bt191.2) else (if bt191.1 > (mx a0_0 a1_0) then (billiardlaw12_PointNearest.j1 kj3 true a0_0 a0_1 a1_0 a1_1 a2_0 a2_1 bt191.1 bt191.2) else (if bt191.2 < (mn a0_1 a1_1) then (billiardlaw12_PointNearest.j1 kj3 true a0_0 a0_1 a1_0 a1_1 a2_0 a2_1 bt191.1 bt191.2) else (billiardlaw12_PointNearest.j1 kj3 (decide (bt191.2 > (mx a0_1 a1_1))) a0_0 a0_1 a1_0 a1_1 a2_0 a2_1 bt191.1 bt191.2))))) = some r := by rw [if_neg (show ¬ (false = true) by decide)] at H; exact H
        clear H
        have H := H1
        clear H1
        replace H := Option.bind_eq_some_iff.mp H
        obtain ⟨⟨t191, t192⟩, A230, H⟩ := H
        replace H : (if t191 < (mn a0_0 a1_0) then (billiardlaw12_PointNearest.j1 kj3 true a0_0 a0_1 a1_0 a1_1 a2_0 a2_1 t191 t192) else (if t191 > (mx a0_0 a1_0) then (billiardlaw12_PointNearest.j1 kj3 true a0_0 a0_1 a1_0 a1_1 a2_0 a2_1 t191 t192) else (if t192 < (mn a0_1 a1_1) then (billiardlaw12_PointNearest.j1 kj3 true a0_0 a0_1 a1_0 a1_1 a2_0 a2_1 t191 t192) else (billiardlaw12_PointNearest.j1 kj3 (decide (t192 > (mx a0_1 a1_1))) a0_0 a0_1 a1_0 a1_1 a2_0 a2_1 t191 t192)))) = some r := H
        have A23 := Aside0.mk A230
        clear A230
        have HC24 := Aside0.mk H
        clear H
        have hnb25 := NB185_186.out
        have hnc25 := NB186_185.out
        have hnb26 := NB185_187.out
        have hnc26 := NB187_185.out
        have hcz27_0 : wc.cell? ⟨gb185, 0, none⟩ = some (.int .i32 a0_0) := (blk_cell BK185.out 0).trans rfl
        have hcz27_1 : wc.cell? ⟨gb185, 1, none⟩ = some (.int .i32 a0_1) := (blk_cell BK185.out 1).trans rfl
        have hfz27_0 := blk_frozen BK185.out 0
        have hfz27_1 := blk_frozen BK185.out 1
        have hnb28 := NB186_187.out
        have hnc28 := NB187_186.out
        have hcz29_0 : wc.cell? ⟨gb186, 0, none⟩ = some (.int .i32 a1_0) := (blk_cell BK186.out 0).trans rfl
        have hcz29_1 : wc.cell? ⟨gb186, 1, none⟩ = some (.int .i32 a1_1) := (blk_cell BK186.out 1).trans rfl
        have hfz29_0 := blk_frozen BK186.out 0
        have hfz29_1 := blk_frozen BK186.out 1
        have hcz30_0 : wc.cell? ⟨gb187, 0, none⟩ = some (.int .i32 a2_0) := (blk_cell BK187.out 0).trans rfl
        have hcz30_1 : wc.cell? ⟨gb187, 1, none⟩ = some (.int .i32 a2_1) := (blk_cell BK187.out 1).trans rfl
        have hfz30_0 := blk_frozen BK187.out 0
        have hfz30_1 := blk_frozen BK187.out 1
        go_upto_region 4 with (first | ((with_reducible refine gate_callee (f := 13) rfl ?_); refine goesL_ (some 22) rfl rfl Try.func13 (by kernel_rfl) rfl #[.agg #[.int .i32 a0_0, .int .i32 a0_1], .agg #[.int .i32 a1_0, .int .i32 a1_1], .agg #[.int .i32 a2_0, .int .i32 a2_1]] rfl (by (try simp only [List.map_toArray, List.map_cons, List.map_nil]); first | done | rfl | (simp only [List.length_drop, List.length_take]; rfl)) ?_; (with_reducible refine (point_Nearest.calls a0_0 a0_1 a1_0 a1_1 a2_0 a2_1 t191 t192 _ A23.out).mono ?_); rintro e w31 ⟨rfl, hb⟩; refine ⟨_, rfl, ?_⟩; have n0_ := Aside0.mk (blk_below (g := gb185) (o := .cells #[.int .i32 a0_0, .int .i32 a0_1] 23 (0, 0)) (by (with_reducible repeat (first | refine blk_drewN ?_ _ | refine blk_drew ?_ | refine blk_alloc ?_ _)); exact BK185.out) hb); have n1_ := Aside0.mk (blk_below (g := gb186) (o := .cells #[.int .i32 a1_0, .int .i32 a1_1] 23 (0, 0)) (by (with_reducible repeat (first | refine blk_drewN ?_ _ | refine blk_drew ?_ | refine blk_alloc ?_ _)); exact BK186.out) hb); have n2_ := Aside0.mk (blk_below (g := gb187) (o := .cells #[.int .i32 a2_0, .int .i32 a2_1] 23 (0, 0)) (by (with_reducible repeat (first | refine blk_drewN ?_ _ | refine blk_drew ?_ | refine blk_alloc ?_ _)); exact BK187.out) hb); have n3_ := Aside0.mk (below_step (by repeat (first | (with_reducible first | exact HB.out | apply below_alloc | apply pw_below_drewN | apply below_drew1 | refine below_set ?_ GE185.out | refine below_set ?_ GE186.out | refine below_set ?_ GE187.out) | exact HB.out)) hb); clear BK185; clear BK186; clear BK187; clear HB; have BK185 := n0_; have BK186 := n1_; have BK187 := n2_; have HB := n3_; clear n0_ n1_ n2_ n3_; (try clear hb); (try clear hb2); (try clear hk); (try clear hi)) | ((with_reducible refine gate_dst (N := 7) rfl ?_); (try (refine gate_guard (by rfl) ?_; dsimp only)); refine box_event ?hg (N := 7) ?hd (cs := #[.int .i32 0, .int .i32 0]) (t := 23) ?hr ?_; (case hd => rfl); (case hg => rfl); (case hr => first | (go_simp; done) | (go_simp; rfl)); intro gb193 hg w32 hbox hb; have n0_ := Aside0.mk (blk_below (g := gb185) (o := .cells #[.int .i32 a0_0, .int .i32 a0_1] 23 (0, 0)) (by (with_reducible repeat (first | refine blk_drewN ?_ _ | refine blk_drew ?_ | refine blk_alloc ?_ _)); exact BK185.out) hb); have n1_ := Aside0.mk (blk_below (g := gb186) (o := .cells #[.int .i32 a1_0, .int .i32 a1_1] 23 (0, 0)) (by (with_reducible repeat (first | refine blk_drewN ?_ _ | refine blk_drew ?_ | refine blk_alloc ?_ _)); exact BK186.out) hb); have n2_ := Aside0.mk (blk_below (g := gb187) (o := .cells #[.int .i32 a2_0, .int .i32 a2_1] 23 (0, 0)) (by (with_reducible repeat (first | refine blk_drewN ?_ _ | refine blk_drew ?_ | refine blk_alloc ?_ _)); exact BK187.out) hb); have n3_ := Aside0.mk (below_step (by repeat (first | (with_reducible first | exact HB.out | apply below_alloc | apply pw_below_drewN | apply below_drew1 | refine below_set ?_ GE185.out | refine below_set ?_ GE186.out | refine below_set ?_ GE187.out) | exact HB.out)) hb); have n4_ := Aside0.mk (hbox); have n5_ := Aside0.mk ((by rw [hg]; exact (below_size (by repeat (first | (with_reducible first | exact HB.out | apply below_alloc | apply pw_below_drewN | apply below_drew1 | refine below_set ?_ GE185.out | refine below_set ?_ GE186.out | refine below_set ?_ GE187.out) | exact HB.out))) : w.heap.size ≤ gb193)); have n6_ := Aside0.mk ((by rw [hg]; exact (below_size (by repeat (first | (with_reducible first | exact HB.out | apply below_alloc | apply pw_below_drewN | apply below_drew1 | refine below_set ?_ GE185.out | refine below_set ?_ GE186.out | refine below_set ?_ GE187.out) | exact HB.out))) : w.heap.size ≤ gb193)); have n7_ := Aside0.mk ((by rw [hg]; exact Nat.ne_of_lt (blk_lt (g := gb185) (o := .cells #[.int .i32 a0_0, .int .i32 a0_1] 23 (0, 0)) (by (with_reducible repeat (first | refine blk_drewN ?_ _ | refine blk_drew ?_ | refine blk_alloc ?_ _)); exact BK185.out)) : gb185 ≠ gb193)); have n8_ := Aside0.mk ((by rw [hg]; exact Nat.ne_of_gt (blk_lt (g := gb185) (o := .cells #[.int .i32 a0_0, .int .i32 a0_1] 23 (0, 0)) (by (with_reducible repeat (first | refine blk_drewN ?_ _ | refine blk_drew ?_ | refine blk_alloc ?_ _)); exact BK185.out)) : gb193 ≠ gb185)); have n9_ := Aside0.mk ((by rw [hg]; exact Nat.ne_of_lt (blk_lt (g := gb186) (o := .cells #[.int .i32 a1_0, .int .i32 a1_1] 23 (0, 0)) (by (with_reducible repeat (first | refine blk_drewN ?_ _ | refine blk_drew ?_ | refine blk_alloc ?_ _)); exact BK186.out)) : gb186 ≠ gb193)); have n10_ := Aside0.mk ((by rw [hg]; exact Nat.ne_of_gt (blk_lt (g := gb186) (o := .cells #[.int .i32 a1_0, .int .i32 a1_1] 23 (0, 0)) (by (with_reducible repeat (first | refine blk_drewN ?_ _ | refine blk_drew ?_ | refine blk_alloc ?_ _)); exact BK186.out)) : gb193 ≠ gb186)); have n11_ := Aside0.mk ((by rw [hg]; exact Nat.ne_of_lt (blk_lt (g := gb187) (o := .cells #[.int .i32 a2_0, .int .i32 a2_1] 23 (0, 0)) (by (with_reducible repeat (first | refine blk_drewN ?_ _ | refine blk_drew ?_ | refine blk_alloc ?_ _)); exact BK187.out)) : gb187 ≠ gb193)); have n12_ := Aside0.mk ((by rw [hg]; exact Nat.ne_of_gt (blk_lt (g := gb187) (o := .cells #[.int .i32 a2_0, .int .i32 a2_1] 23 (0, 0)) (by (with_reducible repeat (first | refine blk_drewN ?_ _ | refine blk_drew ?_ | refine blk_alloc ?_ _)); exact BK187.out)) : gb193 ≠ gb187)); clear BK185; clear BK186; clear BK187; clear HB; have BK185 := n0_; have BK186 := n1_; have BK187 := n2_; have HB := n3_; have BK193 := n4_; have GW193 := n5_; have GE193 := n6_; have NB185_193 := n7_; have NB193_185 := n8_; have NB186_193 := n9_; have NB193_186 := n10_; have NB187_193 := n11_; have NB193_187 := n12_; clear n0_ n1_ n2_ n3_ n4_ n5_ n6_ n7_ n8_ n9_ n10_ n11_ n12_; clear hb hbox hg; have hnb33 := NB193_185.out; have hnc33 := NB185_193.out; have hnb34 := NB193_186.out; have hnc34 := NB186_193.out; have hnb35 := NB193_187.out; have hnc35 := NB187_193.out; have hcz36_0 : w32.cell? ⟨gb193, 0, none⟩ = some (.int .i32 0) := (blk_cell BK193.out 0).trans rfl; have hcz36_1 : w32.cell? ⟨gb193, 1, none⟩ = some (.int .i32 0) := (blk_cell BK193.out 1).trans rfl; have hfz36_0 := blk_frozen BK193.out 0; have hfz36_1 := blk_frozen BK193.out 1))
        (try simp only [Act.put, List.setIfInBounds_toArray, List.set_cons_zero, List.set_cons_succ])
        go_cut [60] (fun v60 wc => ∃ (kq : Nat) (x60_23 : Bool), v60 = .bool x60_23 ∧ Aside0 (billiardlaw12_PointNearest.j1 kq x60_23 a0_0 a0_1 a1_0 a1_1 a2_0 a2_1 t191 t192 = some r) ∧ Aside0 (kq ≤ kj3) ∧ Aside0 (wc.heap[gb185]? = some (.cells #[.int .i32 a0_0, .int .i32 a0_1] 23 (0, 0))) ∧ Aside0 (wc.heap[gb186]? = some (.cells #[.int .i32 a1_0, .int .i32 a1_1] 23 (0, 0))) ∧ Aside0 (wc.heap[gb187]? = some (.cells #[.int .i32 a2_0, .int .i32 a2_1] 23 (0, 0))) ∧ Aside0 (wc.heap[gb193]? = some (.cells #[.int .i32 t191, .int .i32 t192] 23 (0, 0))) ∧ Aside0 (Below w.heap.size w wc))
        case first =>
          have H := HC24.out
          clear HC24
          obtain ⟨ji37, hji37⟩ : ∃ j_ : Int, (mn a0_0 a1_0) = j_ := ⟨_, rfl⟩
          replace H : (if t191 < (ji37) then (billiardlaw12_PointNearest.j1 kj3 true a0_0 a0_1 a1_0 a1_1 a2_0 a2_1 t191 t192) else (if t191 > (mx a0_0 a1_0) then (billiardlaw12_PointNearest.j1 kj3 true a0_0 a0_1 a1_0 a1_1 a2_0 a2_1 t191 t192) else (if t192 < (mn a0_1 a1_1) then (billiardlaw12_PointNearest.j1 kj3 true a0_0 a0_1 a1_0 a1_1 a2_0 a2_1 t191 t192) else (billiardlaw12_PointNearest.j1 kj3 (decide (t192 > (mx a0_1 a1_1))) a0_0 a0_1 a1_0 a1_1 a2_0 a2_1 t191 t192)))) = some r := by first | (rw [hji37] at H; exact H) | (simp only [hji37] at H ⊢; exact H)
          have hji37_ : (if a1_0 < a0_0 then a1_0 else a0_0) = ji37 := hji37
          by_cases c38 : t191 < (ji37)
          · rw [if_pos c38] at H
            have c38b0 : decide (t191 < (ji37)) = true := decide_eq_true c38
            clear c38
            (first | rw [c38b0] | (simp only [i64_w, i32_w]; rw [c38b0]) | skip)
            have H' := Aside0.mk H
            clear H
            have hnb39 := NB193_185.out
            have hnc39 := NB185_193.out
            have hnb40 := NB193_186.out
            have hnc40 := NB186_193.out
            have hnb41 := NB193_187.out
            have hnc41 := NB187_193.out
            have hcz42_0 : w32.cell? ⟨gb193, 0, none⟩ = some (.int .i32 0) := (blk_cell BK193.out 0).trans rfl
            have hcz42_1 : w32.cell? ⟨gb193, 1, none⟩ = some (.int .i32 0) := (blk_cell BK193.out 1).trans rfl
            have hfz42_0 := blk_frozen BK193.out 0
            have hfz42_1 := blk_frozen BK193.out 1
            have hnb43 := NB185_186.out
            have hnc43 := NB186_185.out
            have hnb44 := NB185_187.out
            have hnc44 := NB187_185.out
            have hcz45_0 : w32.cell? ⟨gb185, 0, none⟩ = some (.int .i32 a0_0) := (blk_cell BK185.out 0).trans rfl
            have hcz45_1 : w32.cell? ⟨gb185, 1, none⟩ = some (.int .i32 a0_1) := (blk_cell BK185.out 1).trans rfl
            have hfz45_0 := blk_frozen BK185.out 0
            have hfz45_1 := blk_frozen BK185.out 1
            have hnb46 := NB186_187.out
            have hnc46 := NB187_186.out
            have hcz47_0 : w32.cell? ⟨gb186, 0, none⟩ = some (.int .i32 a1_0) := (blk_cell BK186.out 0).trans rfl
            have hcz47_1 : w32.cell? ⟨gb186, 1, none⟩ = some (.int .i32 a1_1) := (blk_cell BK186.out 1).trans rfl
            have hfz47_0 := blk_frozen BK186.out 0
            have hfz47_1 := blk_frozen BK186.out 1
            go_wp2
            go_meet
            case rel => exact ⟨_, (true), (by first | rfl | (simp; done) | (simp [*]; done)), H', ⟨by have := HJ3.out; first | omega | exact Nat.le_refl _⟩, ⟨by (with_reducible repeat (first | refine blk_drewN ?_ _ | refine blk_drew ?_ | refine blk_alloc ?_ _)); refine blk_far ?_ NB185_193.out _; (with_reducible repeat (first | refine blk_drewN ?_ _ | refine blk_drew ?_ | refine blk_alloc ?_ _)); refine blk_far ?_ NB185_193.out _; (with_reducible repeat (first | refine blk_drewN ?_ _ | refine blk_drew ?_ | refine blk_alloc ?_ _)); exact BK185.out⟩, ⟨by (with_reducible repeat (first | refine blk_drewN ?_ _ | refine blk_drew ?_ | refine blk_alloc ?_ _)); refine blk_far ?_ NB186_193.out _; (with_reducible repeat (first | refine blk_drewN ?_ _ | refine blk_drew ?_ | refine blk_alloc ?_ _)); refine blk_far ?_ NB186_193.out _; (with_reducible repeat (first | refine blk_drewN ?_ _ | refine blk_drew ?_ | refine blk_alloc ?_ _)); exact BK186.out⟩, ⟨by (with_reducible repeat (first | refine blk_drewN ?_ _ | refine blk_drew ?_ | refine blk_alloc ?_ _)); refine blk_far ?_ NB187_193.out _; (with_reducible repeat (first | refine blk_drewN ?_ _ | refine blk_drew ?_ | refine blk_alloc ?_ _)); refine blk_far ?_ NB187_193.out _; (with_reducible repeat (first | refine blk_drewN ?_ _ | refine blk_drew ?_ | refine blk_alloc ?_ _)); exact BK187.out⟩, ⟨by (with_reducible repeat (first | refine blk_drewN ?_ _ | refine blk_drew ?_ | refine blk_alloc ?_ _)); refine blk_put (cs := #[.int .i32 t191, .int .i32 0]) ?_ 1 _ rfl; (with_reducible repeat (first | refine blk_drewN ?_ _ | refine blk_drew ?_ | refine blk_alloc ?_ _)); refine blk_put (cs := #[.int .i32 0, .int .i32 0]) ?_ 0 _ rfl; (with_reducible repeat (first | refine blk_drewN ?_ _ | refine blk_drew ?_ | refine blk_alloc ?_ _)); exact BK193.out⟩, ⟨by repeat (first | (with_reducible first | exact HB.out | apply below_alloc | apply pw_below_drewN | apply below_drew1 | refine below_set ?_ GE185.out | refine below_set ?_ GE186.out | refine below_set ?_ GE187.out | refine below_set ?_ GE193.out) | exact HB.out)⟩⟩
          · rw [if_neg c38] at H
            have c38b0 : decide (t191 < (ji37)) = false := decide_eq_false c38
            clear c38
            (first | rw [c38b0] | (simp only [i64_w, i32_w]; rw [c38b0]) | skip)
            obtain ⟨ji48, hji48⟩ : ∃ j_ : Int, (mx a0_0 a1_0) = j_ := ⟨_, rfl⟩
            replace H : (if t191 > (ji48) then (billiardlaw12_PointNearest.j1 kj3 true a0_0 a0_1 a1_0 a1_1 a2_0 a2_1 t191 t192) else (if t192 < (mn a0_1 a1_1) then (billiardlaw12_PointNearest.j1 kj3 true a0_0 a0_1 a1_0 a1_1 a2_0 a2_1 t191 t192) else (billiardlaw12_PointNearest.j1 kj3 (decide (t192 > (mx a0_1 a1_1))) a0_0 a0_1 a1_0 a1_1 a2_0 a2_1 t191 t192))) = some r := by first | (rw [hji48] at H; exact H) | (simp only [hji48] at H ⊢; exact H)
            have hji48_ : (if a0_0 < a1_0 then a1_0 else a0_0) = ji48 := hji48
            by_cases c49 : t191 > (ji48)
            · rw [if_pos c49] at H
              have c49b0 : decide ((ji48) < t191) = true := decide_eq_true c49
              clear c49
              have H' := Aside0.mk H
              clear H
              have hnb50 := NB193_185.out
              have hnc50 := NB185_193.out
              have hnb51 := NB193_186.out
              have hnc51 := NB186_193.out
              have hnb52 := NB193_187.out
              have hnc52 := NB187_193.out
              have hcz53_0 : w32.cell? ⟨gb193, 0, none⟩ = some (.int .i32 0) := (blk_cell BK193.out 0).trans rfl
              have hcz53_1 : w32.cell? ⟨gb193, 1, none⟩ = some (.int .i32 0) := (blk_cell BK193.out 1).trans rfl
              have hfz53_0 := blk_frozen BK193.out 0
              have hfz53_1 := blk_frozen BK193.out 1
              have hnb54 := NB185_186.out
              have hnc54 := NB186_185.out
              have hnb55 := NB185_187.out
              have hnc55 := NB187_185.out
              have hcz56_0 : w32.cell? ⟨gb185, 0, none⟩ = some (.int .i32 a0_0) := (blk_cell BK185.out 0).trans rfl
              have hcz56_1 : w32.cell? ⟨gb185, 1, none⟩ = some (.int .i32 a0_1) := (blk_cell BK185.out 1).trans rfl
              have hfz56_0 := blk_frozen BK185.out 0
              have hfz56_1 := blk_frozen BK185.out 1
              have hnb57 := NB186_187.out
              have hnc57 := NB187_186.out
              have hcz58_0 : w32.cell? ⟨gb186, 0, none⟩ = some (.int .i32 a1_0) := (blk_cell BK186.out 0).trans rfl
              have hcz58_1 : w32.cell? ⟨gb186, 1, none⟩ = some (.int .i32 a1_1) := (blk_cell BK186.out 1).trans rfl
              have hfz58_0 := blk_frozen BK186.out 0
              have hfz58_1 := blk_frozen BK186.out 1
              go_wp2
              go_meet
              case rel => exact ⟨_, (true), (by first | rfl | (simp; done) | (simp [*]; done)), H', ⟨by have := HJ3.out; first | omega | exact Nat.le_refl _⟩, ⟨by (with_reducible repeat (first | refine blk_drewN ?_ _ | refine blk_drew ?_ | refine blk_alloc ?_ _)); refine blk_far ?_ NB185_193.out _; (with_reducible repeat (first | refine blk_drewN ?_ _ | refine blk_drew ?_ | refine blk_alloc ?_ _)); refine blk_far ?_ NB185_193.out _; (with_reducible repeat (first | refine blk_drewN ?_ _ | refine blk_drew ?_ | refine blk_alloc ?_ _)); exact BK185.out⟩, ⟨by (with_reducible repeat (first | refine blk_drewN ?_ _ | refine blk_drew ?_ | refine blk_alloc ?_ _)); refine blk_far ?_ NB186_193.out _; (with_reducible repeat (first | refine blk_drewN ?_ _ | refine blk_drew ?_ | refine blk_alloc ?_ _)); refine blk_far ?_ NB186_193.out _; (with_reducible repeat (first | refine blk_drewN ?_ _ | refine blk_drew ?_ | refine blk_alloc ?_ _)); exact BK186.out⟩, ⟨by (with_reducible repeat (first | refine blk_drewN ?_ _ | refine blk_drew ?_ | refine blk_alloc ?_ _)); refine blk_far ?_ NB187_193.out _; (with_reducible repeat (first | refine blk_drewN ?_ _ | refine blk_drew ?_ | refine blk_alloc ?_ _)); refine blk_far ?_ NB187_193.out _; (with_reducible repeat (first | refine blk_drewN ?_ _ | refine blk_drew ?_ | refine blk_alloc ?_ _)); exact BK187.out⟩, ⟨by (with_reducible repeat (first | refine blk_drewN ?_ _ | refine blk_drew ?_ | refine blk_alloc ?_ _)); refine blk_put (cs := #[.int .i32 t191, .int .i32 0]) ?_ 1 _ rfl; (with_reducible repeat (first | refine blk_drewN ?_ _ | refine blk_drew ?_ | refine blk_alloc ?_ _)); refine blk_put (cs := #[.int .i32 0, .int .i32 0]) ?_ 0 _ rfl; (with_reducible repeat (first | refine blk_drewN ?_ _ | refine blk_drew ?_ | refine blk_alloc ?_ _)); exact BK193.out⟩, ⟨by repeat (first | (with_reducible first | exact HB.out | apply below_alloc | apply pw_below_drewN | apply below_drew1 | refine below_set ?_ GE185.out | refine below_set ?_ GE186.out | refine below_set ?_ GE187.out | refine below_set ?_ GE193.out) | exact HB.out)⟩⟩
            · rw [if_neg c49] at H
              have c49b0 : decide ((ji48) < t191) = false := decide_eq_false c49
              clear c49
              obtain ⟨ji59, hji59⟩ : ∃ j_ : Int, (mn a0_1 a1_1) = j_ := ⟨_, rfl⟩
              replace H : (if t192 < (ji59) then (billiardlaw12_PointNearest.j1 kj3 true a0_0 a0_1 a1_0 a1_1 a2_0 a2_1 t191 t192) else (billiardlaw12_PointNearest.j1 kj3 (decide (t192 > (mx a0_1 a1_1))) a0_0 a0_1 a1_0 a1_1 a2_0 a2_1 t191 t192)) = some r := by first | (rw [hji59] at H; exact H) | (simp only [hji59] at H ⊢; exact H)
              have hji59_ : (if a1_1 < a0_1 then a1_1 else a0_1) = ji59 := hji59
              by_cases c60 : t192 < (ji59)
              · rw [if_pos c60] at H
                have c60b0 : decide (t192 < (ji59)) = true := decide_eq_true c60
                clear c60
                have H' := Aside0.mk H
                clear H
                have hnb61 := NB193_185.out
                have hnc61 := NB185_193.out
                have hnb62 := NB193_186.out
                have hnc62 := NB186_193.out
                have hnb63 := NB193_187.out
                have hnc63 := NB187_193.out
                have hcz64_0 : w32.cell? ⟨gb193, 0, none⟩ = some (.int .i32 0) := (blk_cell BK193.out 0).trans rfl
                have hcz64_1 : w32.cell? ⟨gb193, 1, none⟩ = some (.int .i32 0) := (blk_cell BK193.out 1).trans rfl
                have hfz64_0 := blk_frozen BK193.out 0
                have hfz64_1 := blk_frozen BK193.out 1
                have hnb65 := NB185_186.out
                have hnc65 := NB186_185.out
                have hnb66 := NB185_187.out
                have hnc66 := NB187_185.out
                have hcz67_0 : w32.cell? ⟨gb185, 0, none⟩ = some (.int .i32 a0_0) := (blk_cell BK185.out 0).trans rfl
                have hcz67_1 : w32.cell? ⟨gb185, 1, none⟩ = some (.int .i32 a0_1) := (blk_cell BK185.out 1).trans rfl
                have hfz67_0 := blk_frozen BK185.out 0
                have hfz67_1 := blk_frozen BK185.out 1
                have hnb68 := NB186_187.out
                have hnc68 := NB187_186.out
                have hcz69_0 : w32.cell? ⟨gb186, 0, none⟩ = some (.int .i32 a1_0) := (blk_cell BK186.out 0).trans rfl
                have hcz69_1 : w32.cell? ⟨gb186, 1, none⟩ = some (.int .i32 a1_1) := (blk_cell BK186.out 1).trans rfl
                have hfz69_0 := blk_frozen BK186.out 0
                have hfz69_1 := blk_frozen BK186.out 1
                go_wp2
                go_meet
                case rel => exact ⟨_, (true), (by first | rfl | (simp; done) | (simp [*]; done)), H', ⟨by have := HJ3.out; first | omega | exact Nat.le_refl _⟩, ⟨by (with_reducible repeat (first | refine blk_drewN ?_ _ | refine blk_drew ?_ | refine blk_alloc ?_ _)); refine blk_far ?_ NB185_193.out _; (with_reducible repeat (first | refine blk_drewN ?_ _ | refine blk_drew ?_ | refine blk_alloc ?_ _)); refine blk_far ?_ NB185_193.out _; (with_reducible repeat (first | refine blk_drewN ?_ _ | refine blk_drew ?_ | refine blk_alloc ?_ _)); exact BK185.out⟩, ⟨by (with_reducible repeat (first | refine blk_drewN ?_ _ | refine blk_drew ?_ | refine blk_alloc ?_ _)); refine blk_far ?_ NB186_193.out _; (with_reducible repeat (first | refine blk_drewN ?_ _ | refine blk_drew ?_ | refine blk_alloc ?_ _)); refine blk_far ?_ NB186_193.out _; (with_reducible repeat (first | refine blk_drewN ?_ _ | refine blk_drew ?_ | refine blk_alloc ?_ _)); exact BK186.out⟩, ⟨by (with_reducible repeat (first | refine blk_drewN ?_ _ | refine blk_drew ?_ | refine blk_alloc ?_ _)); refine blk_far ?_ NB187_193.out _; (with_reducible repeat (first | refine blk_drewN ?_ _ | refine blk_drew ?_ | refine blk_alloc ?_ _)); refine blk_far ?_ NB187_193.out _; (with_reducible repeat (first | refine blk_drewN ?_ _ | refine blk_drew ?_ | refine blk_alloc ?_ _)); exact BK187.out⟩, ⟨by (with_reducible repeat (first | refine blk_drewN ?_ _ | refine blk_drew ?_ | refine blk_alloc ?_ _)); refine blk_put (cs := #[.int .i32 t191, .int .i32 0]) ?_ 1 _ rfl; (with_reducible repeat (first | refine blk_drewN ?_ _ | refine blk_drew ?_ | refine blk_alloc ?_ _)); refine blk_put (cs := #[.int .i32 0, .int .i32 0]) ?_ 0 _ rfl; (with_reducible repeat (first | refine blk_drewN ?_ _ | refine blk_drew ?_ | refine blk_alloc ?_ _)); exact BK193.out⟩, ⟨by repeat (first | (with_reducible first | exact HB.out | apply below_alloc | apply pw_below_drewN | apply below_drew1 | refine below_set ?_ GE185.out | refine below_set ?_ GE186.out | refine below_set ?_ GE187.out | refine below_set ?_ GE193.out) | exact HB.out)⟩⟩
              · rw [if_neg c60] at H
                have c60b0 : decide (t192 < (ji59)) = false := decide_eq_false c60
                clear c60
                obtain ⟨ji70, hji70⟩ : ∃ j_ : Int, (mx a0_1 a1_1) = j_ := ⟨_, rfl⟩
                replace H : (billiardlaw12_PointNearest.j1 kj3 (decide (t192 > (ji70))) a0_0 a0_1 a1_0 a1_1 a2_0 a2_1 t191 t192) = some r := by first | (rw [hji70] at H; exact H) | (simp only [hji70] at H ⊢; exact H)
                have hji70_ : (if a0_1 < a1_1 then a1_1 else a0_1) = ji70 := hji70
                have H' := Aside0.mk H
                clear H
                have hnb71 := NB193_185.out
                have hnc71 := NB185_193.out
                have hnb72 := NB193_186.out
                have hnc72 := NB186_193.out
                have hnb73 := NB193_187.out
                have hnc73 := NB187_193.out
                have hcz74_0 : w32.cell? ⟨gb193, 0, none⟩ = some (.int .i32 0) := (blk_cell BK193.out 0).trans rfl
                have hcz74_1 : w32.cell? ⟨gb193, 1, none⟩ = some (.int .i32 0) := (blk_cell BK193.out 1).trans rfl
                have hfz74_0 := blk_frozen BK193.out 0
                have hfz74_1 := blk_frozen BK193.out 1
                have hnb75 := NB185_186.out
                have hnc75 := NB186_185.out
                have hnb76 := NB185_187.out
                have hnc76 := NB187_185.out
                have hcz77_0 : w32.cell? ⟨gb185, 0, none⟩ = some (.int .i32 a0_0) := (blk_cell BK185.out 0).trans rfl
                have hcz77_1 : w32.cell? ⟨gb185, 1, none⟩ = some (.int .i32 a0_1) := (blk_cell BK185.out 1).trans rfl
                have hfz77_0 := blk_frozen BK185.out 0
                have hfz77_1 := blk_frozen BK185.out 1
                have hnb78 := NB186_187.out
                have hnc78 := NB187_186.out
                have hcz79_0 : w32.cell? ⟨gb186, 0, none⟩ = some (.int .i32 a1_0) := (blk_cell BK186.out 0).trans rfl
                have hcz79_1 : w32.cell? ⟨gb186, 1, none⟩ = some (.int .i32 a1_1) := (blk_cell BK186.out 1).trans rfl
                have hfz79_0 := blk_frozen BK186.out 0
                have hfz79_1 := blk_frozen BK186.out 1
                go_wp2
                go_meet
                case rel => exact ⟨_, (decide (t192 > (ji70))), (by first | rfl | (simp; done) | (simp only [← hji70] <;> (first | rfl | simp)) | (simp [*]; done)), H', ⟨by have := HJ3.out; first | omega | exact Nat.le_refl _⟩, ⟨by (with_reducible repeat (first | refine blk_drewN ?_ _ | refine blk_drew ?_ | refine blk_alloc ?_ _)); refine blk_far ?_ NB185_193.out _; (with_reducible repeat (first | refine blk_drewN ?_ _ | refine blk_drew ?_ | refine blk_alloc ?_ _)); refine blk_far ?_ NB185_193.out _; (with_reducible repeat (first | refine blk_drewN ?_ _ | refine blk_drew ?_ | refine blk_alloc ?_ _)); exact BK185.out⟩, ⟨by (with_reducible repeat (first | refine blk_drewN ?_ _ | refine blk_drew ?_ | refine blk_alloc ?_ _)); refine blk_far ?_ NB186_193.out _; (with_reducible repeat (first | refine blk_drewN ?_ _ | refine blk_drew ?_ | refine blk_alloc ?_ _)); refine blk_far ?_ NB186_193.out _; (with_reducible repeat (first | refine blk_drewN ?_ _ | refine blk_drew ?_ | refine blk_alloc ?_ _)); exact BK186.out⟩, ⟨by (with_reducible repeat (first | refine blk_drewN ?_ _ | refine blk_drew ?_ | refine blk_alloc ?_ _)); refine blk_far ?_ NB187_193.out _; (with_reducible repeat (first | refine blk_drewN ?_ _ | refine blk_drew ?_ | refine blk_alloc ?_ _)); refine blk_far ?_ NB187_193.out _; (with_reducible repeat (first | refine blk_drewN ?_ _ | refine blk_drew ?_ | refine blk_alloc ?_ _)); exact BK187.out⟩, ⟨by (with_reducible repeat (first | refine blk_drewN ?_ _ | refine blk_drew ?_ | refine blk_alloc ?_ _)); refine blk_put (cs := #[.int .i32 t191, .int .i32 0]) ?_ 1 _ rfl; (with_reducible repeat (first | refine blk_drewN ?_ _ | refine blk_drew ?_ | refine blk_alloc ?_ _)); refine blk_put (cs := #[.int .i32 0, .int .i32 0]) ?_ 0 _ rfl; (with_reducible repeat (first | refine blk_drewN ?_ _ | refine blk_drew ?_ | refine blk_alloc ?_ _)); exact BK193.out⟩, ⟨by repeat (first | (with_reducible first | exact HB.out | apply below_alloc | apply pw_below_drewN | apply below_drew1 | refine below_set ?_ GE185.out | refine below_set ?_ GE186.out | refine below_set ?_ GE187.out | refine below_set ?_ GE193.out) | exact HB.out)⟩⟩
        case rest =>
          clear HC24
          try clear c1
          try clear c2
          try clear p2
          try clear c3
          try clear c4
          try clear c5
          try clear c6
          try clear c7
          try clear c8
          try clear c9
          try clear c12
          try clear c13
          try clear c15
          try clear c20
          try clear c25
          try clear c26
          try clear c28
          try clear c33
          try clear c34
          try clear c35
          try clear c38
          try clear c38b0
          try clear c39
          try clear c40
          try clear c41
          try clear c43
          try clear c44
          try clear c46
          try clear c49
          try clear c49b0
          try clear c50
          try clear c51
          try clear c52
          try clear c54
          try clear c55
          try clear c57
          try clear c60
          try clear c60b0
          try clear c61
          try clear c62
          try clear c63
          try clear c65
          try clear c66
          try clear c68
          try clear c71
          try clear c72
          try clear c73
          try clear c75
          try clear c76
          try clear c78
          try clear hcz14_0
          try clear hcz14_1
          try clear hcz16_0
          try clear hcz16_1
          try clear hcz17_0
          try clear hcz17_1
          try clear hcz27_0
          try clear hcz27_1
          try clear hcz29_0
          try clear hcz29_1
          try clear hcz30_0
          try clear hcz30_1
          try clear hcz36_0
          try clear hcz36_1
          try clear hcz42_0
          try clear hcz42_1
          try clear hcz45_0
          try clear hcz45_1
          try clear hcz47_0
          try clear hcz47_1
          try clear hcz53_0
          try clear hcz53_1
          try clear hcz56_0
          try clear hcz56_1
          try clear hcz58_0
          try clear hcz58_1
          try clear hcz64_0
          try clear hcz64_1
          try clear hcz67_0
          try clear hcz67_1
          try clear hcz69_0
          try clear hcz69_1
          try clear hcz74_0
          try clear hcz74_1
          try clear hcz77_0
          try clear hcz77_1
          try clear hcz79_0
          try clear hcz79_1
          try clear hfz14_0
          try clear hfz14_1
          try clear hfz16_0
          try clear hfz16_1
          try clear hfz17_0
          try clear hfz17_1
          try clear hfz27_0
          try clear hfz27_1
          try clear hfz29_0
          try clear hfz29_1
          try clear hfz30_0
          try clear hfz30_1
          try clear hfz36_0
          try clear hfz36_1
          try clear hfz42_0
          try clear hfz42_1
          try clear hfz45_0
          try clear hfz45_1
          try clear hfz47_0
          try clear hfz47_1
          try clear hfz53_0
          try clear hfz53_1
          try clear hfz56_0
          try clear hfz56_1
          try clear hfz58_0
          try clear hfz58_1
          try clear hfz64_0
          try clear hfz64_1
          try clear hfz67_0
          try clear hfz67_1
          try clear hfz69_0
          try clear hfz69_1
          try clear hfz74_0
          try clear hfz74_1
          try clear hfz77_0
          try clear hfz77_1
          try clear hfz79_0
          try clear hfz79_1
          try clear p2
          obtain ⟨kq, x60_23, rfl, HA, HJ23, BK185, BK186, BK187, BK193, HB⟩ := hcut
          cases kq with
          | zero => exact absurd HA.out (by simp [billiardlaw12_PointNearest.j1])
          | succ kj23 =>
            have H := HA.out
            clear HA
            simp only [billiardlaw12_PointNearest.j1] at H
            by_cases c80 : x60_23 = true
            · subst c80
              have H1 : (some false) = some r := by rw [if_pos rfl] at H; exact H
              clear H
              have H := H1
              clear H1
              obtain rfl := Option.some.inj H
              go_wp2
              go_ret
              exact ⟨by first | rfl | (simp [errW_none, errW_some] <;> rfl) | (simp [*, errW_none, errW_some] <;> rfl), by repeat (first | (with_reducible first | exact HB.out | apply below_alloc | apply pw_below_drewN | apply below_drew1 | refine below_set ?_ GE185.out | refine below_set ?_ GE186.out | refine below_set ?_ GE187.out | refine below_set ?_ GE193.out) | exact HB.out)⟩
            · replace c80 := Bool.eq_false_iff.mpr c80
              subst c80
              have H1 : ((billiardlaw12_distance.f kj23 t191 t192 a2_0 a2_1).bind fun t194 => ((billiardlaw12_distance.f kj23 a0_0 a0_1 a2_0 a2_1).bind fun t195 => (if t194 ≤ (wrap64 (t195 + 2)) then ((billiardlaw12_distance.f kj23 a1_0 a1_1 a2_0 a2_1).bind fun t196 => (some (decide (t194 ≤ (wrap64 (t196 + 2)))))) else (some false)))) = some r := by rw [if_neg (show ¬ (false = true) by decide)] at H; exact H
              clear H
              have H := H1
              clear H1
              replace H := Option.bind_eq_some_iff.mp H
              obtain ⟨t194, A810, H⟩ := H
              replace H : ((billiardlaw12_distance.f kj23 a0_0 a0_1 a2_0 a2_1).bind fun t195 => (if t194 ≤ (wrap64 (t195 + 2)) then ((billiardlaw12_distance.f kj23 a1_0 a1_1 a2_0 a2_1).bind fun t196 => (some (decide (t194 ≤ (wrap64 (t196 + 2)))))) else (some false))) = some r := H
              have A81 := Aside0.mk A810
              clear A810
              replace H := Option.bind_eq_some_iff.mp H
              obtain ⟨t195, A820, H⟩ := H
              replace H : (if t194 ≤ (wrap64 (t195 + 2)) then ((billiardlaw12_distance.f kj23 a1_0 a1_1 a2_0 a2_1).bind fun t196 => (some (decide (t194 ≤ (wrap64 (t196 + 2)))))) else (some false)) = some r := H
              have A82 := Aside0.mk A820
              clear A820
              by_cases c83 : t194 ≤ (wrap64 (t195 + 2))
              · rw [if_pos c83] at H
                have c83b0 : decide (t194 ≤ (wrap64 (t195 + 2))) = true := decide_eq_true c83
                clear c83
                replace H := Option.bind_eq_some_iff.mp H
                obtain ⟨t196, A840, H⟩ := H
                replace H : (some (decide (t194 ≤ (wrap64 (t196 + 2))))) = some r := H
                have A84 := Aside0.mk A840
                clear A840
                obtain rfl := Option.some.inj H
                have hnb85 := NB193_185.out
                have hnc85 := NB185_193.out
                have hnb86 := NB193_186.out
                have hnc86 := NB186_193.out
                have hnb87 := NB193_187.out
                have hnc87 := NB187_193.out
                have hcz88_0 : wc.cell? ⟨gb193, 0, none⟩ = some (.int .i32 t191) := (blk_cell BK193.out 0).trans rfl
                have hcz88_1 : wc.cell? ⟨gb193, 1, none⟩ = some (.int .i32 t192) := (blk_cell BK193.out 1).trans rfl
                have hfz88_0 := blk_frozen BK193.out 0
                have hfz88_1 := blk_frozen BK193.out 1
                have hnb89 := NB187_185.out
                have hnc89 := NB185_187.out
                have hnb90 := NB187_186.out
                have hnc90 := NB186_187.out
                have hcz91_0 : wc.cell? ⟨gb187, 0, none⟩ = some (.int .i32 a2_0) := (blk_cell BK187.out 0).trans rfl
                have hcz91_1 : wc.cell? ⟨gb187, 1, none⟩ = some (.int .i32 a2_1) := (blk_cell BK187.out 1).trans rfl
                have hfz91_0 := blk_frozen BK187.out 0
                have hfz91_1 := blk_frozen BK187.out 1
                go_wp2_with (first | ((with_reducible refine gate_callee (f := 17) rfl ?_); refine goesL_ (some 63) rfl rfl Try.func17 (by kernel_rfl) rfl #[.agg #[.int .i32 t191, .int .i32 t192], .agg #[.int .i32 a2_0, .int .i32 a2_1]] rfl (by (try simp only [List.map_toArray, List.map_cons, List.map_nil]); first | done | rfl | (simp only [List.length_drop, List.length_take]; rfl)) ?_; (with_reducible refine (billiardlaw12_distance.calls kj23 t191 t192 a2_0 a2_1 t194 _ A81.out).mono ?_); rintro e w92 ⟨rfl, hb⟩; refine ⟨_, rfl, ?_⟩; have n0_ := Aside0.mk (blk_below (g := gb185) (o := .cells #[.int .i32 a0_0, .int .i32 a0_1] 23 (0, 0)) (by (with_reducible repeat (first | refine blk_drewN ?_ _ | refine blk_drew ?_ | refine blk_alloc ?_ _)); exact BK185.out) hb); have n1_ := Aside0.mk (blk_below (g := gb186) (o := .cells #[.int .i32 a1_0, .int .i32 a1_1] 23 (0, 0)) (by (with_reducible repeat (first | refine blk_drewN ?_ _ | refine blk_drew ?_ | refine blk_alloc ?_ _)); exact BK186.out) hb); have n2_ := Aside0.mk (blk_below (g := gb187) (o := .cells #[.int .i32 a2_0, .int .i32 a2_1] 23 (0, 0)) (by (with_reducible repeat (first | refine blk_drewN ?_ _ | refine blk_drew ?_ | refine blk_alloc ?_ _)); exact BK187.out) hb); have n3_ := Aside0.mk (blk_below (g := gb193) (o := .cells #[.int .i32 t191, .int .i32 t192] 23 (0, 0)) (by (with_reducible repeat (first | refine blk_drewN ?_ _ | refine blk_drew ?_ | refine blk_alloc ?_ _)); exact BK193.out) hb); have n4_ := Aside0.mk (below_step (by repeat (first | (with_reducible first | exact HB.out | apply below_alloc | apply pw_below_drewN | apply below_drew1 | refine below_set ?_ GE185.out | refine below_set ?_ GE186.out | refine below_set ?_ GE187.out | refine below_set ?_ GE193.out) | exact HB.out)) hb); clear BK185; clear BK186; clear BK187; clear BK193; clear HB; have BK185 := n0_; have BK186 := n1_; have BK187 := n2_; have BK193 := n3_; have HB := n4_; clear n0_ n1_ n2_ n3_ n4_; (try clear hb); (try clear hb2); (try clear hk); (try clear hi); have hnb93 := NB185_186.out; have hnc93 := NB186_185.out; have hcz94_0 : w92.cell? ⟨gb185, 0, none⟩ = some (.int .i32 a0_0) := (blk_cell BK185.out 0).trans rfl; have hcz94_1 : w92.cell? ⟨gb185, 1, none⟩ = some (.int .i32 a0_1) := (blk_cell BK185.out 1).trans rfl; have hfz94_0 := blk_frozen BK185.out 0; have hfz94_1 := blk_frozen BK185.out 1; have hcz95_0 : w92.cell? ⟨gb187, 0, none⟩ = some (.int .i32 a2_0) := (blk_cell BK187.out 0).trans rfl; have hcz95_1 : w92.cell? ⟨gb187, 1, none⟩ = some (.int .i32 a2_1) := (blk_cell BK187.out 1).trans rfl; have hfz95_0 := blk_frozen BK187.out 0; have hfz95_1 := blk_frozen BK187.out 1) | ((with_reducible refine gate_callee (f := 17) rfl ?_); refine goesL_ (some 67) rfl rfl Try.func17 (by kernel_rfl) rfl #[.agg #[.int .i32 a0_0, .int .i32 a0_1], .agg #[.int .i32 a2_0, .int .i32 a2_1]] rfl (by (try simp only [List.map_toArray, List.map_cons, List.map_nil]); first | done | rfl | (simp only [List.length_drop, List.length_take]; rfl)) ?_; (with_reducible refine (billiardlaw12_distance.calls kj23 a0_0 a0_1 a2_0 a2_1 t195 _ A82.out).mono ?_); rintro e w96 ⟨rfl, hb⟩; refine ⟨_, rfl, ?_⟩; have n0_ := Aside0.mk (blk_below (g := gb185) (o := .cells #[.int .i32 a0_0, .int .i32 a0_1] 23 (0, 0)) (by (with_reducible repeat (first | refine blk_drewN ?_ _ | refine blk_drew ?_ | refine blk_alloc ?_ _)); exact BK185.out) hb); have n1_ := Aside0.mk (blk_below (g := gb186) (o := .cells #[.int .i32 a1_0, .int .i32 a1_1] 23 (0, 0)) (by (with_reducible repeat (first | refine blk_drewN ?_ _ | refine blk_drew ?_ | refine blk_alloc ?_ _)); exact BK186.out) hb); have n2_ := Aside0.mk (blk_below (g := gb187) (o := .cells #[.int .i32 a2_0, .int .i32 a2_1] 23 (0, 0)) (by (with_reducible repeat (first | refine blk_drewN ?_ _ | refine blk_drew ?_ | refine blk_alloc ?_ _)); exact BK187.out) hb); have n3_ := Aside0.mk (blk_below (g := gb193) (o := .cells #[.int .i32 t191, .int .i32 t192] 23 (0, 0)) (by (with_reducible repeat (first | refine blk_drewN ?_ _ | refine blk_drew ?_ | refine blk_alloc ?_ _)); exact BK193.out) hb); have n4_ := Aside0.mk (below_step (by repeat (first | (with_reducible first | exact HB.out | apply below_alloc | apply pw_below_drewN | apply below_drew1 | refine below_set ?_ GE185.out | refine below_set ?_ GE186.out | refine below_set ?_ GE187.out | refine below_set ?_ GE193.out) | exact HB.out)) hb); clear BK185; clear BK186; clear BK187; clear BK193; clear HB; have BK185 := n0_; have BK186 := n1_; have BK187 := n2_; have BK193 := n3_; have HB := n4_; clear n0_ n1_ n2_ n3_ n4_; (try clear hb); (try clear hb2); (try clear hk); (try clear hi); have hcz97_0 : w96.cell? ⟨gb186, 0, none⟩ = some (.int .i32 a1_0) := (blk_cell BK186.out 0).trans rfl; have hcz97_1 : w96.cell? ⟨gb186, 1, none⟩ = some (.int .i32 a1_1) := (blk_cell BK186.out 1).trans rfl; have hfz97_0 := blk_frozen BK186.out 0; have hfz97_1 := blk_frozen BK186.out 1; have hcz98_0 : w96.cell? ⟨gb187, 0, none⟩ = some (.int .i32 a2_0) := (blk_cell BK187.out 0).trans rfl; have hcz98_1 : w96.cell? ⟨gb187, 1, none⟩ = some (.int .i32 a2_1) := (blk_cell BK187.out 1).trans rfl; have hfz98_0 := blk_frozen BK187.out 0; have hfz98_1 := blk_frozen BK187.out 1) | (go_at_call 17; (with_reducible refine (billiardlaw12_distance.calls kj23 a1_0 a1_1 a2_0 a2_1 t196 _ A84.out).mono ?_); rintro e w99 ⟨rfl, hb⟩; have n0_ := Aside0.mk (blk_below (g := gb185) (o := .cells #[.int .i32 a0_0, .int .i32 a0_1] 23 (0, 0)) (by (with_reducible repeat (first | refine blk_drewN ?_ _ | refine blk_drew ?_ | refine blk_alloc ?_ _)); exact BK185.out) hb); have n1_ := Aside0.mk (blk_below (g := gb186) (o := .cells #[.int .i32 a1_0, .int .i32 a1_1] 23 (0, 0)) (by (with_reducible repeat (first | refine blk_drewN ?_ _ | refine blk_drew ?_ | refine blk_alloc ?_ _)); exact BK186.out) hb); have n2_ := Aside0.mk (blk_below (g := gb187) (o := .cells #[.int .i32 a2_0, .int .i32 a2_1] 23 (0, 0)) (by (with_reducible repeat (first | refine blk_drewN ?_ _ | refine blk_drew ?_ | refine blk_alloc ?_ _)); exact BK187.out) hb); have n3_ := Aside0.mk (blk_below (g := gb193) (o := .cells #[.int .i32 t191, .int .i32 t192] 23 (0, 0)) (by (with_reducible repeat (first | refine blk_drewN ?_ _ | refine blk_drew ?_ | refine blk_alloc ?_ _)); exact BK193.out) hb); have n4_ := Aside0.mk (below_step (by repeat (first | (with_reducible first | exact HB.out | apply below_alloc | apply pw_below_drewN | apply below_drew1 | refine below_set ?_ GE185.out | refine below_set ?_ GE186.out | refine below_set ?_ GE187.out | refine below_set ?_ GE193.out) | exact HB.out)) hb); clear BK185; clear BK186; clear BK187; clear BK193; clear HB; have BK185 := n0_; have BK186 := n1_; have BK187 := n2_; have BK193 := n3_; have HB := n4_; clear n0_ n1_ n2_ n3_ n4_; (try clear hb); (try clear hb2); (try clear hk); (try clear hi)))
                go_ret
                exact ⟨by first | rfl | (simp [errW_none, errW_some] <;> rfl) | (simp [*, errW_none, errW_some] <;> rfl), by repeat (first | (with_reducible first | exact HB.out | apply below_alloc | apply pw_below_drewN | apply below_drew1 | refine below_set ?_ GE185.out | refine below_set ?_ GE186.out | refine below_set ?_ GE187.out | refine below_set ?_ GE193.out) | exact HB.out)⟩
              · rw [if_neg c83] at H
                have c83b0 : decide (t194 ≤ (wrap64 (t195 + 2))) = false := decide_eq_false c83
                clear c83
                obtain rfl := Option.some.inj H
                have hnb100 := NB193_185.out
                have hnc100 := NB185_193.out
                have hnb101 := NB193_186.out
                have hnc101 := NB186_193.out
                have hnb102 := NB193_187.out
                have hnc102 := NB187_193.out
                have hcz103_0 : wc.cell? ⟨gb193, 0, none⟩ = some (.int .i32 t191) := (blk_cell BK193.out 0).trans rfl
                have hcz103_1 : wc.cell? ⟨gb193, 1, none⟩ = some (.int .i32 t192) := (blk_cell BK193.out 1).trans rfl
                have hfz103_0 := blk_frozen BK193.out 0
                have hfz103_1 := blk_frozen BK193.out 1
                have hnb104 := NB187_185.out
                have hnc104 := NB185_187.out
                have hnb105 := NB187_186.out
                have hnc105 := NB186_187.out
                have hcz106_0 : wc.cell? ⟨gb187, 0, none⟩ = some (.int .i32 a2_0) := (blk_cell BK187.out 0).trans rfl
                have hcz106_1 : wc.cell? ⟨gb187, 1, none⟩ = some (.int .i32 a2_1) := (blk_cell BK187.out 1).trans rfl
                have hfz106_0 := blk_frozen BK187.out 0
                have hfz106_1 := blk_frozen BK187.out 1
                go_wp2_with (first | ((with_reducible refine gate_callee (f := 17) rfl ?_); refine goesL_ (some 63) rfl rfl Try.func17 (by kernel_rfl) rfl #[.agg #[.int .i32 t191, .int .i32 t192], .agg #[.int .i32 a2_0, .int .i32 a2_1]] rfl (by (try simp only [List.map_toArray, List.map_cons, List.map_nil]); first | done | rfl | (simp only [List.length_drop, List.length_take]; rfl)) ?_; (with_reducible refine (billiardlaw12_distance.calls kj23 t191 t192 a2_0 a2_1 t194 _ A81.out).mono ?_); rintro e w107 ⟨rfl, hb⟩; refine ⟨_, rfl, ?_⟩; have n0_ := Aside0.mk (blk_below (g := gb185) (o := .cells #[.int .i32 a0_0, .int .i32 a0_1] 23 (0, 0)) (by (with_reducible repeat (first | refine blk_drewN ?_ _ | refine blk_drew ?_ | refine blk_alloc ?_ _)); exact BK185.out) hb); have n1_ := Aside0.mk (blk_below (g := gb186) (o := .cells #[.int .i32 a1_0, .int .i32 a1_1] 23 (0, 0)) (by (with_reducible repeat (first | refine blk_drewN ?_ _ | refine blk_drew ?_ | refine blk_alloc ?_ _)); exact BK186.out) hb); have n2_ := Aside0.mk (blk_below (g := gb187) (o := .cells #[.int .i32 a2_0, .int .i32 a2_1] 23 (0, 0)) (by (with_reducible repeat (first | refine blk_drewN ?_ _ | refine blk_drew ?_ | refine blk_alloc ?_ _)); exact BK187.out) hb); have n3_ := Aside0.mk (blk_below (g := gb193) (o := .cells #[.int .i32 t191, .int .i32 t192] 23 (0, 0)) (by (with_reducible repeat (first | refine blk_drewN ?_ _ | refine blk_drew ?_ | refine blk_alloc ?_ _)); exact BK193.out) hb); have n4_ := Aside0.mk (below_step (by repeat (first | (with_reducible first | exact HB.out | apply below_alloc | apply pw_below_drewN | apply below_drew1 | refine below_set ?_ GE185.out | refine below_set ?_ GE186.out | refine below_set ?_ GE187.out | refine below_set ?_ GE193.out) | exact HB.out)) hb); clear BK185; clear BK186; clear BK187; clear BK193; clear HB; have BK185 := n0_; have BK186 := n1_; have BK187 := n2_; have BK193 := n3_; have HB := n4_; clear n0_ n1_ n2_ n3_ n4_; (try clear hb); (try clear hb2); (try clear hk); (try clear hi); have hnb108 := NB185_186.out; have hnc108 := NB186_185.out; have hcz109_0 : w107.cell? ⟨gb185, 0, none⟩ = some (.int .i32 a0_0) := (blk_cell BK185.out 0).trans rfl; have hcz109_1 : w107.cell? ⟨gb185, 1, none⟩ = some (.int .i32 a0_1) := (blk_cell BK185.out 1).trans rfl; have hfz109_0 := blk_frozen BK185.out 0; have hfz109_1 := blk_frozen BK185.out 1; have hcz110_0 : w107.cell? ⟨gb187, 0, none⟩ = some (.int .i32 a2_0) := (blk_cell BK187.out 0).trans rfl; have hcz110_1 : w107.cell? ⟨gb187, 1, none⟩ = some (.int .i32 a2_1) := (blk_cell BK187.out 1).trans rfl; have hfz110_0 := blk_frozen BK187.out 0; have hfz110_1 := blk_frozen BK187.out 1) | ((with_reducible refine gate_callee (f := 17) rfl ?_); refine goesL_ (some 67) rfl rfl Try.func17 (by kernel_rfl) rfl #[.agg #[.int .i32 a0_0, .int .i32 a0_1], .agg #[.int .i32 a2_0, .int .i32 a2_1]] rfl (by (try simp only [List.map_toArray, List.map_cons, List.map_nil]); first | done | rfl | (simp only [List.length_drop, List.length_take]; rfl)) ?_; (with_reducible refine (billiardlaw12_distance.calls kj23 a0_0 a0_1 a2_0 a2_1 t195 _ A82.out).mono ?_); rintro e w111 ⟨rfl, hb⟩; refine ⟨_, rfl, ?_⟩; have n0_ := Aside0.mk (blk_below (g := gb185) (o := .cells #[.int .i32 a0_0, .int .i32 a0_1] 23 (0, 0)) (by (with_reducible repeat (first | refine blk_drewN ?_ _ | refine blk_drew ?_ | refine blk_alloc ?_ _)); exact BK185.out) hb); have n1_ := Aside0.mk (blk_below (g := gb186) (o := .cells #[.int .i32 a1_0, .int .i32 a1_1] 23 (0, 0)) (by (with_reducible repeat (first | refine blk_drewN ?_ _ | refine blk_drew ?_ | refine blk_alloc ?_ _)); exact BK186.out) hb); have n2_ := Aside0.mk (blk_below (g := gb187) (o := .cells #[.int .i32 a2_0, .int .i32 a2_1] 23 (0, 0)) (by (with_reducible repeat (first | refine blk_drewN ?_ _ | refine blk_drew ?_ | refine blk_alloc ?_ _)); exact BK187.out) hb); have n3_ := Aside0.mk (blk_below (g := gb193) (o := .cells #[.int .i32 t191, .int .i32 t192] 23 (0, 0)) (by (with_reducible repeat (first | refine blk_drewN ?_ _ | refine blk_drew ?_ | refine blk_alloc ?_ _)); exact BK193.out) hb); have n4_ := Aside0.mk (below_step (by repeat (first | (with_reducible first | exact HB.out | apply below_alloc | apply pw_below_drewN | apply below_drew1 | refine below_set ?_ GE185.out | refine below_set ?_ GE186.out | refine below_set ?_ GE187.out | refine below_set ?_ GE193.out) | exact HB.out)) hb); clear BK185; clear BK186; clear BK187; clear BK193; clear HB; have BK185 := n0_; have BK186 := n1_; have BK187 := n2_; have BK193 := n3_; have HB := n4_; clear n0_ n1_ n2_ n3_ n4_; (try clear hb); (try clear hb2); (try clear hk); (try clear hi)))
                go_ret
                exact ⟨by first | rfl | (simp [errW_none, errW_some] <;> rfl) | (simp [*, errW_none, errW_some] <;> rfl), by repeat (first | (with_reducible first | exact HB.out | apply below_alloc | apply pw_below_drewN | apply below_drew1 | refine below_set ?_ GE185.out | refine below_set ?_ GE186.out | refine below_set ?_ GE187.out | refine below_set ?_ GE193.out) | exact HB.out)⟩

/-- THE ONE PURE STATEMENT of billiardlaw12_PointNearest: yours. -/
def billiardlaw12_PointNearest.Pure : Prop := ∀ (a0_0 : Int) (a0_1 : Int) (a1_0 : Int) (a1_1 : Int) (a2_0 : Int) (a2_1 : Int), (Lit.int .i32 a0_0).wf = true → (Lit.int .i32 a0_1).wf = true → (Lit.int .i32 a1_0).wf = true → (Lit.int .i32 a1_1).wf = true → (Lit.int .i32 a2_0).wf = true → (Lit.int .i32 a2_1).wf = true → ∃ k, billiardlaw12_PointNearest.f k a0_0 a0_1 a1_0 a1_1 a2_0 a2_1 = some true
theorem billiardlaw12_PointNearest.walk (P : billiardlaw12_PointNearest.Pure) (a0_0 : Int) (a0_1 : Int) (a1_0 : Int) (a1_1 : Int) (a2_0 : Int) (a2_1 : Int) (w : World) (w0_0 : (Lit.int .i32 a0_0).wf = true) (w0_1 : (Lit.int .i32 a0_1).wf = true) (w1_0 : (Lit.int .i32 a1_0).wf = true) (w1_1 : (Lit.int .i32 a1_1).wf = true) (w2_0 : (Lit.int .i32 a2_0).wf = true) (w2_1 : (Lit.int .i32 a2_1).wf = true) :
    Calls Try.prog 4 #[.agg #[.int .i32 a0_0, .int .i32 a0_1], .agg #[.int .i32 a1_0, .int .i32 a1_1], .agg #[.int .i32 a2_0, .int .i32 a2_1]] w fun e w' => e = .returned (.bool true) ∧ Below w.heap.size w w' := by
  obtain ⟨k, h⟩ := P a0_0 a0_1 a1_0 a1_1 a2_0 a2_1 w0_0 w0_1 w1_0 w1_1 w2_0 w2_1
  refine (billiardlaw12_PointNearest.calls k a0_0 a0_1 a1_0 a1_1 a2_0 a2_1 true w h).mono ?_
  rintro e w' ⟨rfl, hd⟩
  exact ⟨rfl, hd⟩

end Go.Proofs.Ytpklgbkehkbopaa.Q
