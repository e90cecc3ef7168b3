-- PRINTED by print.py (a twelfth state) out of the translation. Not trusted: Lean checks it.
import Derived.Test.YticjhncpglcgnaaDoorQ0
import Derived.Test.YticjhncpglcgnaaDoorQbox
import Derived.Deep.RegionHeld3
import Derived.Deep.RegionWith
import Derived.Lib.Hide
import Derived.Test.YticjhncpglcgnaaDoorMglob
import Derived.Test.YticjhncpglcgnaaDoorMspec
namespace Go.Proofs.YticjhncpglcgnaaDoor.Q
open Go.RowKit Go.Proofs.YticjhncpglcgnaaDoorW.PrintWords Go.Proofs.YticjhncpglcgnaaDoorW.PrintLast Go.Proofs.YticjhncpglcgnaaDoorW.PrintMore
attribute [local go_sem] max2_int min2_int max_two min_two max_three min_three max_four min_four   -- for this text's walks alone
set_option linter.unusedVariables false
set_option linter.unusedSimpArgs false

/-! ### cell_Of: function 10 -/
def cell_Of.f (a0_0 : Int) (a0_1 : Int) : Option (Int × Int) := some (a0_0 / 4194304, a0_1 / 4194304)
set_option maxHeartbeats 8000000 in
set_option maxRecDepth 100000 in
theorem cell_Of.calls (a0_0 : Int) (a0_1 : Int) (r1 : Int) (r2 : Int) (w : World) (h : cell_Of.f a0_0 a0_1 = some (r1, r2)) :
    Calls Tryd.prog 10 #[.agg #[.int .i32 a0_0, .int .i32 a0_1]] w fun e w' => e = .returned (.agg #[.int .i32 r1, .int .i32 r2]) ∧ Below w.heap.size w w' := by
  have hu23 := Tryd.underlying23
  have hu29 := Tryd.underlying29
  have HB := Aside0.mk (Below.refl w.heap.size w)
  have H : (some (a0_0 / 4194304, a0_1 / 4194304)) = some (r1, r2) := h
  clear h
  simp only [Option.some.injEq, Prod.mk.injEq] at H
  obtain ⟨rfl, rfl⟩ := H
  go_enter Tryd.func10, Tryd.ntmps10
  go_wp2_with (first | ((with_reducible refine gate_dst (N := 1) rfl ?_); refine box_event ?hg (N := 1) ?hd (cs := #[.int .i32 a0_0, .int .i32 a0_1]) (t := 23) ?hr ?_; (case hd => rfl); (case hg => rfl); (case hr => first | (go_simp; done) | (go_simp; rfl)); intro gb101 hg w2 hbox hb; have n0_ := Aside0.mk (below_step (by repeat (first | (with_reducible first | exact HB.out | apply below_alloc | apply pw_below_drewN | apply below_drew1) | exact HB.out)) hb); have n1_ := Aside0.mk (hbox); have n2_ := Aside0.mk ((by rw [hg]; exact (below_size (by repeat (first | (with_reducible first | exact HB.out | apply below_alloc | apply pw_below_drewN | apply below_drew1) | exact HB.out))) : w.heap.size ≤ gb101)); have n3_ := Aside0.mk ((by rw [hg]; exact (below_size (by repeat (first | (with_reducible first | exact HB.out | apply below_alloc | apply pw_below_drewN | apply below_drew1) | exact HB.out))) : w.heap.size ≤ gb101)); clear HB; have HB := n0_; have BK101 := n1_; have GW101 := n2_; have GE101 := n3_; clear n0_ n1_ n2_ n3_; clear hb hbox hg) | ((with_reducible refine gate_dst (N := 2) rfl ?_); refine box_event ?hg (N := 2) ?hd (cs := #[.int .i32 0, .int .i32 0]) (t := 29) ?hr ?_; (case hd => rfl); (case hg => rfl); (case hr => first | (go_simp; done) | (go_simp; rfl)); intro gb102 hg w3 hbox hb; have n0_ := Aside0.mk (blk_below (g := gb101) (o := .cells #[.int .i32 a0_0, .int .i32 a0_1] 23 (0, 0)) (by (with_reducible repeat (first | refine blk_drewN ?_ _ | refine blk_drew ?_ | refine blk_alloc ?_ _)); exact BK101.out) hb); have n1_ := Aside0.mk (below_step (by repeat (first | (with_reducible first | exact HB.out | apply below_alloc | apply pw_below_drewN | apply below_drew1 | refine below_set ?_ GE101.out) | exact HB.out)) hb); have n2_ := Aside0.mk (hbox); have n3_ := Aside0.mk ((by rw [hg]; exact (below_size (by repeat (first | (with_reducible first | exact HB.out | apply below_alloc | apply pw_below_drewN | apply below_drew1 | refine below_set ?_ GE101.out) | exact HB.out))) : w.heap.size ≤ gb102)); have n4_ := Aside0.mk ((by rw [hg]; exact (below_size (by repeat (first | (with_reducible first | exact HB.out | apply below_alloc | apply pw_below_drewN | apply below_drew1 | refine below_set ?_ GE101.out) | exact HB.out))) : w.heap.size ≤ gb102)); have n5_ := Aside0.mk ((by rw [hg]; exact Nat.ne_of_lt (blk_lt (g := gb101) (o := .cells #[.int .i32 a0_0, .int .i32 a0_1] 23 (0, 0)) (by (with_reducible repeat (first | refine blk_drewN ?_ _ | refine blk_drew ?_ | refine blk_alloc ?_ _)); exact BK101.out)) : gb101 ≠ gb102)); have n6_ := Aside0.mk ((by rw [hg]; exact Nat.ne_of_gt (blk_lt (g := gb101) (o := .cells #[.int .i32 a0_0, .int .i32 a0_1] 23 (0, 0)) (by (with_reducible repeat (first | refine blk_drewN ?_ _ | refine blk_drew ?_ | refine blk_alloc ?_ _)); exact BK101.out)) : gb102 ≠ gb101)); clear BK101; clear HB; have BK101 := n0_; have HB := n1_; have BK102 := n2_; have GW102 := n3_; have GE102 := n4_; have NB101_102 := n5_; have NB102_101 := n6_; clear n0_ n1_ n2_ n3_ n4_ n5_ n6_; clear hb hbox hg; have hnb4 := NB101_102.out; have hnc4 := NB102_101.out; have hcz5_0 : w3.cell? ⟨gb101, 0, none⟩ = some (.int .i32 a0_0) := (blk_cell BK101.out 0).trans rfl; have hcz5_1 : w3.cell? ⟨gb101, 1, none⟩ = some (.int .i32 a0_1) := (blk_cell BK101.out 1).trans rfl; have hfz5_0 := blk_frozen BK101.out 0; have hfz5_1 := blk_frozen BK101.out 1; have hcz6_0 : w3.cell? ⟨gb102, 0, none⟩ = some (.int .i32 0) := (blk_cell BK102.out 0).trans rfl; have hcz6_1 : w3.cell? ⟨gb102, 1, none⟩ = some (.int .i32 0) := (blk_cell BK102.out 1).trans rfl; have hfz6_0 := blk_frozen BK102.out 0; have hfz6_1 := blk_frozen BK102.out 1))
  refine bodyPost_ret (results_cell_row rfl _ _ gb102 29 #[.int .i32 (a0_0 / 4194304), .int .i32 (a0_1 / 4194304)] (0, 0) _ rfl (by (with_reducible repeat (first | refine blk_drewN ?_ _ | refine blk_drew ?_ | refine blk_alloc ?_ _)); refine blk_put (cs := #[.int .i32 (a0_0 / 4194304), .int .i32 0]) ?_ 1 _ rfl; (with_reducible repeat (first | refine blk_drewN ?_ _ | refine blk_drew ?_ | refine blk_alloc ?_ _)); refine blk_put (cs := #[.int .i32 0, .int .i32 0]) ?_ 0 _ rfl; (with_reducible repeat (first | refine blk_drewN ?_ _ | refine blk_drew ?_ | refine blk_alloc ?_ _)); exact BK102.out) Tryd.underlying29 rfl (by kernel_rfl)) rfl ?_
  exact ⟨by first | rfl | (simp [errW_none, errW_some] <;> rfl) | (simp [*, errW_none, errW_some] <;> rfl), by repeat (first | (with_reducible first | exact HB.out | apply below_alloc | apply pw_below_drewN | apply below_drew1 | refine below_set ?_ GE101.out | refine below_set ?_ GE102.out) | exact HB.out)⟩

/-! ### cell_Bucket: function 11 (given) -/
-- GLOB F
-- IMPORT Derived.Test.YticjhncpglcgnaaDoorMglob
-- IMPORT Derived.Lib.Hide
def cell_Bucket.f (a0_0 a0_1 : Int) : Option Int := some (wrap64 (bits BinOp.and IntKind.u32 (bits BinOp.xor IntKind.u32 (a0_0 % 4294967296 * 73856093 % 4294967296) (a0_1 % 4294967296 * 19349663 % 4294967296)) 1023))
set_option maxHeartbeats 2000000 in
set_option maxRecDepth 100000 in
theorem cell_Bucket.calls (a0_0 a0_1 r : Int) (w : World) (h : cell_Bucket.f a0_0 a0_1 = some r) (HGF : GlobF w) :
    Calls Tryd.prog 11 #[.agg #[.int .i32 a0_0, .int .i32 a0_1]] w fun e w' => e = .returned (.int .i64 r) ∧ Below w.heap.size w w' := by
  unfold cell_Bucket.f at h
  obtain rfl := Option.some.inj h
  obtain ⟨g0, g1⟩ := (HGF.below (below_alloc (Below.refl w.heap.size w) (.cells #[.int .i32 a0_0, .int .i32 a0_1] 29))).cells
  go_enter Tryd.func11, Tryd.ntmps11
  go_wp2_with fail
  go_ret
  exact ⟨rfl, below_alloc (Below.refl _ _) _⟩

/-! ### cell_Span: function 13 (given) -/
-- IMPORT Derived.Test.YticjhncpglcgnaaDoorMspec
-- IMPORT Derived.Lib.Hide
-- IMPORT Derived.Deep.RegionHeld3
-- IMPORT Derived.Deep.RegionWith
-- NEEDS billiard/box.Empty
-- NEEDS billiard/cell.Of
def cell_Span.f (a0_0 a0_1 a0_2 a0_3 : Int) : Option (Int × Int × Int × Int × Bool) := (box_Empty.f a0_0 a0_1 a0_2 a0_3).bind fun t => if t = true then some (0, 0, 0, 0, false) else (cell_Of.f a0_0 a0_1).bind fun p => (cell_Of.f a0_2 a0_3).bind fun q => some (p.1, p.2, q.1, q.2, true)
/-- The argument lies in the first new block, the two results in the next ones. -/
structure SpanV (w W : World) (a0 a1 a2 a3 l0 l1 h0 h1 : Int) : Prop where
  hw : Below w.heap.size w W
  k0 : W.heap[w.heap.size]? = some (.cells #[.int .i32 a0, .int .i32 a1, .int .i32 a2, .int .i32 a3] 33 (0, 0))
  k1 : W.heap[w.heap.size + 1]? = some (.cells #[.int .i32 l0, .int .i32 l1] 29 (0, 0))
  k2 : W.heap[w.heap.size + 1 + 1]? = some (.cells #[.int .i32 h0, .int .i32 h1] 29 (0, 0))
theorem SpanV.start (w : World) (a0 a1 a2 a3 : Int) : SpanV w (((w.alloc (.cells #[.int .i32 a0, .int .i32 a1, .int .i32 a2, .int .i32 a3] 33)).alloc (.cells #[.int .i32 0, .int .i32 0] 29)).alloc (.cells #[.int .i32 0, .int .i32 0] 29)) a0 a1 a2 a3 0 0 0 0 := by
  refine ⟨below_alloc (below_alloc (below_alloc (Below.refl w.heap.size w) _) _) _, blk_alloc (blk_alloc (blk_new _ _) _) _, ?_, ?_⟩
  · have := blk_alloc (blk_new (w.alloc (.cells #[.int .i32 a0, .int .i32 a1, .int .i32 a2, .int .i32 a3] 33)) (.cells #[.int .i32 0, .int .i32 0] 29)) (.cells #[.int .i32 0, .int .i32 0] 29)
    simpa only [World.size_alloc] using this
  · have := blk_new ((w.alloc (.cells #[.int .i32 a0, .int .i32 a1, .int .i32 a2, .int .i32 a3] 33)).alloc (.cells #[.int .i32 0, .int .i32 0] 29)) (.cells #[.int .i32 0, .int .i32 0] 29)
    simpa only [World.size_alloc] using this
theorem SpanV.next {w W W' : World} {a0 a1 a2 a3 l0 l1 h0 h1 : Int} (h : SpanV w W a0 a1 a2 a3 l0 l1 h0 h1) (hb : Below W.heap.size W W') : SpanV w W' a0 a1 a2 a3 l0 l1 h0 h1 :=
  ⟨h.hw.trans (hb.mono h.hw.size), blk_below h.k0 hb, blk_below h.k1 hb, blk_below h.k2 hb⟩
theorem SpanV.drew {w W : World} {a0 a1 a2 a3 l0 l1 h0 h1 : Int} (h : SpanV w W a0 a1 a2 a3 l0 l1 h0 h1) : SpanV w W.drew a0 a1 a2 a3 l0 l1 h0 h1 := h.next (below_drew1 (Below.refl _ _))
theorem SpanV.low {w W : World} {a0 a1 a2 a3 l0 l1 h0 h1 : Int} (h : SpanV w W a0 a1 a2 a3 l0 l1 h0 h1) (x y : Int) : SpanV w ((W.setCell ⟨w.heap.size + 1, 0, none⟩ (.int .i32 x)).setCell ⟨w.heap.size + 1, 1, none⟩ (.int .i32 y)) a0 a1 a2 a3 x y h0 h1 :=
  ⟨below_set (below_set h.hw (by omega)) (by omega), blk_far (blk_far h.k0 (by simp <;> omega) _) (by simp <;> omega) _, blk_put (blk_put h.k1 0 _ rfl) 1 _ rfl, blk_far (blk_far h.k2 (by simp <;> omega) _) (by simp <;> omega) _⟩
theorem SpanV.high {w W : World} {a0 a1 a2 a3 l0 l1 h0 h1 : Int} (h : SpanV w W a0 a1 a2 a3 l0 l1 h0 h1) (x y : Int) : SpanV w ((W.setCell ⟨w.heap.size + 1 + 1, 0, none⟩ (.int .i32 x)).setCell ⟨w.heap.size + 1 + 1, 1, none⟩ (.int .i32 y)) a0 a1 a2 a3 l0 l1 x y :=
  ⟨below_set (below_set h.hw (by omega)) (by omega), blk_far (blk_far h.k0 (by simp <;> omega) _) (by simp <;> omega) _, blk_far (blk_far h.k1 (by simp <;> omega) _) (by simp <;> omega) _, blk_put (blk_put h.k2 0 _ rfl) 1 _ rfl⟩
theorem SpanV.arg {w W : World} {a0 a1 a2 a3 l0 l1 h0 h1 : Int} (h : SpanV w W a0 a1 a2 a3 l0 l1 h0 h1) :
    W.cell? ⟨w.heap.size, 0, none⟩ = some (.int .i32 a0) ∧ W.cell? ⟨w.heap.size, 1, none⟩ = some (.int .i32 a1) ∧ W.cell? ⟨w.heap.size, 2, none⟩ = some (.int .i32 a2) ∧ W.cell? ⟨w.heap.size, 3, none⟩ = some (.int .i32 a3) :=
  ⟨(blk_cell h.k0 0).trans rfl, (blk_cell h.k0 1).trans rfl, (blk_cell h.k0 2).trans rfl, (blk_cell h.k0 3).trans rfl⟩
theorem SpanV.arg4 {w W : World} {a0 a1 a2 a3 l0 l1 h0 h1 : Int} (h : SpanV w W a0 a1 a2 a3 l0 l1 h0 h1) :
    (W.cell? ⟨w.heap.size, 0, none⟩ = some (.int .i32 a0) ∧ W.cell? ⟨w.heap.size, 1, none⟩ = some (.int .i32 a1)) ∧ W.cell? ⟨w.heap.size, 2, none⟩ = some (.int .i32 a2) ∧ W.cell? ⟨w.heap.size, 3, none⟩ = some (.int .i32 a3) := ⟨⟨h.arg.1, h.arg.2.1⟩, h.arg.2.2⟩
theorem SpanV.res {w W : World} {a0 a1 a2 a3 l0 l1 h0 h1 : Int} (h : SpanV w W a0 a1 a2 a3 l0 l1 h0 h1) :
    (W.cell? ⟨w.heap.size + 1, 0, none⟩ = some (.int .i32 l0) ∧ W.cell? ⟨w.heap.size + 1, 1, none⟩ = some (.int .i32 l1) ∧ W.cell? ⟨w.heap.size + 1 + 1, 0, none⟩ = some (.int .i32 h0) ∧ W.cell? ⟨w.heap.size + 1 + 1, 1, none⟩ = some (.int .i32 h1)) ∧
    W.frozen? ⟨w.heap.size + 1, 0, none⟩ = false ∧ W.frozen? ⟨w.heap.size + 1, 1, none⟩ = false ∧ W.frozen? ⟨w.heap.size + 1 + 1, 0, none⟩ = false ∧ W.frozen? ⟨w.heap.size + 1 + 1, 1, none⟩ = false :=
  ⟨⟨(blk_cell h.k1 0).trans rfl, (blk_cell h.k1 1).trans rfl, (blk_cell h.k2 0).trans rfl, (blk_cell h.k2 1).trans rfl⟩, blk_frozen h.k1 0, blk_frozen h.k1 1, blk_frozen h.k2 0, blk_frozen h.k2 1⟩
set_option maxHeartbeats 16000000 in
set_option maxRecDepth 100000 in
theorem cell_Span.calls (a0_0 a0_1 a0_2 a0_3 r1 r2 r3 r4 : Int) (r5 : Bool) (w : World) (h : cell_Span.f a0_0 a0_1 a0_2 a0_3 = some (r1, r2, r3, r4, r5)) :
    Calls Tryd.prog 13 #[.agg #[.int .i32 a0_0, .int .i32 a0_1, .int .i32 a0_2, .int .i32 a0_3]] w fun e w' => e = .returned (.tuple #[.agg #[.int .i32 r1, .int .i32 r2], .agg #[.int .i32 r3, .int .i32 r4], .bool r5]) ∧ Below w.heap.size w w' := by
  unfold cell_Span.f at h
  obtain ⟨t, A, h⟩ := Option.bind_eq_some_iff.mp h
  have HE := Lib.hid (fun w => box_Empty.calls _ _ _ _ t w A)
  have N0 := Lib.hid (SpanV.start w a0_0 a0_1 a0_2 a0_3)
  have H := Lib.hid h
  clear A h
  go_enter Tryd.func13, Tryd.ntmps13
  go_wp2_with fail
  refine (HE.out _).mono ?_
  rintro e w1 ⟨rfl, hb⟩
  have N1 := Lib.hid (N0.out.next hb)
  clear hb N0
  cases t
  · have h := H.out
    simp only [Bool.false_eq_true, ↓reduceIte] at h
    obtain ⟨⟨p, p'⟩, B, h⟩ := Option.bind_eq_some_iff.mp h
    obtain ⟨⟨q, q'⟩, C, h⟩ := Option.bind_eq_some_iff.mp h
    simp only [Option.some.injEq, Prod.mk.injEq] at h
    obtain ⟨rfl, rfl, rfl, rfl, rfl⟩ := h
    have HP := Lib.hid (fun w => cell_Of.calls a0_0 a0_1 p p' w B)
    have HQ := Lib.hid (fun w => cell_Of.calls a0_2 a0_3 q q' w C)
    clear H B C
    obtain ⟨a1, a2, a3, a4⟩ := N1.out.arg
    obtain ⟨⟨e0, e1, e2, e3⟩, f0, f1, f2, f3⟩ := N1.out.res
    go_wp2_with fail
    go_region_held3 (fun W => (W.cell? ⟨w.heap.size, 0, none⟩ = some (.int .i32 a0_0) ∧ W.cell? ⟨w.heap.size, 1, none⟩ = some (.int .i32 a0_1)) ∧ W.cell? ⟨w.heap.size, 2, none⟩ = some (.int .i32 a0_2) ∧ W.cell? ⟨w.heap.size, 3, none⟩ = some (.int .i32 a0_3)) (first | (with_reducible exact ⟨⟨a1, a2⟩, a3, a4⟩) | (with_reducible exact ⟨⟨b1, b2⟩, b3, b4⟩) | (with_reducible exact ⟨⟨c1, c2⟩, c3, c4⟩) | (with_reducible exact L4) | (with_reducible exact M4) | go_keep)
      (first
      | (go_at_call_of 10 (Value.agg #[Value.int .i32 a0_0, Value.int .i32 a0_1]); refine (HP.out _).mono ?_; rintro e w2 ⟨rfl, hb2⟩; have N2 := Lib.hid (N1.out.drew.next hb2); obtain ⟨b1, b2, b3, b4⟩ := N2.out.arg; obtain ⟨⟨e10, e11, e12, e13⟩, f10, f11, f12, f13⟩ := N2.out.res)
      | (go_at_call_of 10 (Value.agg #[Value.int .i32 a0_2, Value.int .i32 a0_3]); refine (HQ.out _).mono ?_; rintro e w3 ⟨rfl, hb3⟩; have N3 := Lib.hid (N2.out.next hb3); obtain ⟨c1, c2, c3, c4⟩ := N3.out.arg; obtain ⟨⟨e20, e21, e22, e23⟩, f20, f21, f22, f23⟩ := N3.out.res; have L4 := (N3.out.low p p').arg4; have M4 := ((N3.out.low p p').high q q').arg4))
    all_goals
      go_wp2_with fail
      obtain ⟨⟨r0, r1, r2, r3⟩, _⟩ := ((N3.out.low p p').high q q').res
      exact bodyPost_ret (v := .tuple #[.agg #[.int .i32 p, .int .i32 p'], .agg #[.int .i32 q, .int .i32 q'], .bool true]) (by simp [results, Tryd.results13, go_sem, r0, r1, r2, r3]) rfl ⟨rfl, ((N3.out.low p p').high q q').hw⟩
  · have h := H.out
    simp only [↓reduceIte, Option.some.injEq, Prod.mk.injEq] at h
    obtain ⟨rfl, rfl, rfl, rfl, rfl⟩ := h
    clear H
    obtain ⟨⟨e0, e1, e2, e3⟩, f0, f1, f2, f3⟩ := N1.out.res
    go_wp2_with fail
    go_region
    have N2 := Lib.hid ((N1.out.low 0 0).high 0 0).drew
    obtain ⟨⟨r0, r1, r2, r3⟩, _⟩ := N2.out.res
    go_wp2_with fail
    exact bodyPost_ret (v := .tuple #[.agg #[.int .i32 0, .int .i32 0], .agg #[.int .i32 0, .int .i32 0], .bool false]) (by simp [results, Tryd.results13, go_sem, r0, r1, r2, r3]) rfl ⟨rfl, N2.out.hw⟩

/-! ### cell_Bounds: function 24 -/
def cell_Bounds.f (a0_0 : Int) (a0_1 : Int) : Option (Int × Int × Int × Int) := some (wrap32 (a0_0 * 4194304), wrap32 (a0_1 * 4194304), wrap32 ((wrap32 (a0_0 * 4194304)) + 4194303), wrap32 ((wrap32 (a0_1 * 4194304)) + 4194303))
set_option maxHeartbeats 8000000 in
set_option maxRecDepth 100000 in
theorem cell_Bounds.calls (a0_0 : Int) (a0_1 : Int) (r1 : Int) (r2 : Int) (r3 : Int) (r4 : Int) (w : World) (h : cell_Bounds.f a0_0 a0_1 = some (r1, r2, r3, r4)) :
    Calls Tryd.prog 24 #[.agg #[.int .i32 a0_0, .int .i32 a0_1]] w fun e w' => e = .returned (.agg #[.int .i32 r1, .int .i32 r2, .int .i32 r3, .int .i32 r4]) ∧ Below w.heap.size w w' := by
  have hu29 := Tryd.underlying29
  have hu33 := Tryd.underlying33
  have HB := Aside0.mk (Below.refl w.heap.size w)
  have H : (some (wrap32 (a0_0 * 4194304), wrap32 (a0_1 * 4194304), wrap32 ((wrap32 (a0_0 * 4194304)) + 4194303), wrap32 ((wrap32 (a0_1 * 4194304)) + 4194303))) = some (r1, r2, r3, r4) := h
  clear h
  simp only [Option.some.injEq, Prod.mk.injEq] at H
  obtain ⟨rfl, rfl, rfl, rfl⟩ := H
  go_enter Tryd.func24, Tryd.ntmps24
  go_wp2_with (first | ((with_reducible refine gate_dst (N := 1) rfl ?_); refine box_event ?hg (N := 1) ?hd (cs := #[.int .i32 a0_0, .int .i32 a0_1]) (t := 29) ?hr ?_; (case hd => rfl); (case hg => rfl); (case hr => first | (go_simp; done) | (go_simp; rfl)); intro gb250 hg w2 hbox hb; have n0_ := Aside0.mk (below_step (by repeat (first | (with_reducible first | exact HB.out | apply below_alloc | apply pw_below_drewN | apply below_drew1) | exact HB.out)) hb); have n1_ := Aside0.mk (hbox); have n2_ := Aside0.mk ((by rw [hg]; exact (below_size (by repeat (first | (with_reducible first | exact HB.out | apply below_alloc | apply pw_below_drewN | apply below_drew1) | exact HB.out))) : w.heap.size ≤ gb250)); have n3_ := Aside0.mk ((by rw [hg]; exact (below_size (by repeat (first | (with_reducible first | exact HB.out | apply below_alloc | apply pw_below_drewN | apply below_drew1) | exact HB.out))) : w.heap.size ≤ gb250)); clear HB; have HB := n0_; have BK250 := n1_; have GW250 := n2_; have GE250 := n3_; clear n0_ n1_ n2_ n3_; clear hb hbox hg) | ((with_reducible refine gate_dst (N := 2) rfl ?_); refine box_event ?hg (N := 2) ?hd (cs := #[.int .i32 0, .int .i32 0, .int .i32 0, .int .i32 0]) (t := 33) ?hr ?_; (case hd => rfl); (case hg => rfl); (case hr => first | (go_simp; done) | (go_simp; rfl)); intro gb251 hg w3 hbox hb; have n0_ := Aside0.mk (blk_below (g := gb250) (o := .cells #[.int .i32 a0_0, .int .i32 a0_1] 29 (0, 0)) (by (with_reducible repeat (first | refine blk_drewN ?_ _ | refine blk_drew ?_ | refine blk_alloc ?_ _)); exact BK250.out) hb); have n1_ := Aside0.mk (below_step (by repeat (first | (with_reducible first | exact HB.out | apply below_alloc | apply pw_below_drewN | apply below_drew1 | refine below_set ?_ GE250.out) | exact HB.out)) hb); have n2_ := Aside0.mk (hbox); have n3_ := Aside0.mk ((by rw [hg]; exact (below_size (by repeat (first | (with_reducible first | exact HB.out | apply below_alloc | apply pw_below_drewN | apply below_drew1 | refine below_set ?_ GE250.out) | exact HB.out))) : w.heap.size ≤ gb251)); have n4_ := Aside0.mk ((by rw [hg]; exact (below_size (by repeat (first | (with_reducible first | exact HB.out | apply below_alloc | apply pw_below_drewN | apply below_drew1 | refine below_set ?_ GE250.out) | exact HB.out))) : w.heap.size ≤ gb251)); have n5_ := Aside0.mk ((by rw [hg]; exact Nat.ne_of_lt (blk_lt (g := gb250) (o := .cells #[.int .i32 a0_0, .int .i32 a0_1] 29 (0, 0)) (by (with_reducible repeat (first | refine blk_drewN ?_ _ | refine blk_drew ?_ | refine blk_alloc ?_ _)); exact BK250.out)) : gb250 ≠ gb251)); have n6_ := Aside0.mk ((by rw [hg]; exact Nat.ne_of_gt (blk_lt (g := gb250) (o := .cells #[.int .i32 a0_0, .int .i32 a0_1] 29 (0, 0)) (by (with_reducible repeat (first | refine blk_drewN ?_ _ | refine blk_drew ?_ | refine blk_alloc ?_ _)); exact BK250.out)) : gb251 ≠ gb250)); clear BK250; clear HB; have BK250 := n0_; have HB := n1_; have BK251 := n2_; have GW251 := n3_; have GE251 := n4_; have NB250_251 := n5_; have NB251_250 := n6_; clear n0_ n1_ n2_ n3_ n4_ n5_ n6_; clear hb hbox hg; have hnb4 := NB250_251.out; have hnc4 := NB251_250.out; have hcz5_0 : w3.cell? ⟨gb250, 0, none⟩ = some (.int .i32 a0_0) := (blk_cell BK250.out 0).trans rfl; have hcz5_1 : w3.cell? ⟨gb250, 1, none⟩ = some (.int .i32 a0_1) := (blk_cell BK250.out 1).trans rfl; have hfz5_0 := blk_frozen BK250.out 0; have hfz5_1 := blk_frozen BK250.out 1; have hcz6_0 : w3.cell? ⟨gb251, 0, none⟩ = some (.int .i32 0) := (blk_cell BK251.out 0).trans rfl; have hcz6_1 : w3.cell? ⟨gb251, 1, none⟩ = some (.int .i32 0) := (blk_cell BK251.out 1).trans rfl; have hcz6_2 : w3.cell? ⟨gb251, 2, none⟩ = some (.int .i32 0) := (blk_cell BK251.out 2).trans rfl; have hcz6_3 : w3.cell? ⟨gb251, 3, none⟩ = some (.int .i32 0) := (blk_cell BK251.out 3).trans rfl; have hfz6_0 := blk_frozen BK251.out 0; have hfz6_1 := blk_frozen BK251.out 1; have hfz6_2 := blk_frozen BK251.out 2; have hfz6_3 := blk_frozen BK251.out 3))
  repeat (go_quiet (first | ((with_reducible refine gate_dst (N := 1) rfl ?_); refine box_event ?hg (N := 1) ?hd (cs := #[.int .i32 a0_0, .int .i32 a0_1]) (t := 29) ?hr ?_; (case hd => rfl); (case hg => rfl); (case hr => first | (go_simp; done) | (go_simp; rfl)); intro gb250 hg w2 hbox hb; have n0_ := Aside0.mk (below_step (by repeat (first | (with_reducible first | exact HB.out | apply below_alloc | apply pw_below_drewN | apply below_drew1) | exact HB.out)) hb); have n1_ := Aside0.mk (hbox); have n2_ := Aside0.mk ((by rw [hg]; exact (below_size (by repeat (first | (with_reducible first | exact HB.out | apply below_alloc | apply pw_below_drewN | apply below_drew1) | exact HB.out))) : w.heap.size ≤ gb250)); have n3_ := Aside0.mk ((by rw [hg]; exact (below_size (by repeat (first | (with_reducible first | exact HB.out | apply below_alloc | apply pw_below_drewN | apply below_drew1) | exact HB.out))) : w.heap.size ≤ gb250)); clear HB; have HB := n0_; have BK250 := n1_; have GW250 := n2_; have GE250 := n3_; clear n0_ n1_ n2_ n3_; clear hb hbox hg) | ((with_reducible refine gate_dst (N := 2) rfl ?_); refine box_event ?hg (N := 2) ?hd (cs := #[.int .i32 0, .int .i32 0, .int .i32 0, .int .i32 0]) (t := 33) ?hr ?_; (case hd => rfl); (case hg => rfl); (case hr => first | (go_simp; done) | (go_simp; rfl)); intro gb251 hg w3 hbox hb; have n0_ := Aside0.mk (blk_below (g := gb250) (o := .cells #[.int .i32 a0_0, .int .i32 a0_1] 29 (0, 0)) (by (with_reducible repeat (first | refine blk_drewN ?_ _ | refine blk_drew ?_ | refine blk_alloc ?_ _)); exact BK250.out) hb); have n1_ := Aside0.mk (below_step (by repeat (first | (with_reducible first | exact HB.out | apply below_alloc | apply pw_below_drewN | apply below_drew1 | refine below_set ?_ GE250.out) | exact HB.out)) hb); have n2_ := Aside0.mk (hbox); have n3_ := Aside0.mk ((by rw [hg]; exact (below_size (by repeat (first | (with_reducible first | exact HB.out | apply below_alloc | apply pw_below_drewN | apply below_drew1 | refine below_set ?_ GE250.out) | exact HB.out))) : w.heap.size ≤ gb251)); have n4_ := Aside0.mk ((by rw [hg]; exact (below_size (by repeat (first | (with_reducible first | exact HB.out | apply below_alloc | apply pw_below_drewN | apply below_drew1 | refine below_set ?_ GE250.out) | exact HB.out))) : w.heap.size ≤ gb251)); have n5_ := Aside0.mk ((by rw [hg]; exact Nat.ne_of_lt (blk_lt (g := gb250) (o := .cells #[.int .i32 a0_0, .int .i32 a0_1] 29 (0, 0)) (by (with_reducible repeat (first | refine blk_drewN ?_ _ | refine blk_drew ?_ | refine blk_alloc ?_ _)); exact BK250.out)) : gb250 ≠ gb251)); have n6_ := Aside0.mk ((by rw [hg]; exact Nat.ne_of_gt (blk_lt (g := gb250) (o := .cells #[.int .i32 a0_0, .int .i32 a0_1] 29 (0, 0)) (by (with_reducible repeat (first | refine blk_drewN ?_ _ | refine blk_drew ?_ | refine blk_alloc ?_ _)); exact BK250.out)) : gb251 ≠ gb250)); clear BK250; clear HB; have BK250 := n0_; have HB := n1_; have BK251 := n2_; have GW251 := n3_; have GE251 := n4_; have NB250_251 := n5_; have NB251_250 := n6_; clear n0_ n1_ n2_ n3_ n4_ n5_ n6_; clear hb hbox hg; have hnb4 := NB250_251.out; have hnc4 := NB251_250.out; have hcz5_0 : w3.cell? ⟨gb250, 0, none⟩ = some (.int .i32 a0_0) := (blk_cell BK250.out 0).trans rfl; have hcz5_1 : w3.cell? ⟨gb250, 1, none⟩ = some (.int .i32 a0_1) := (blk_cell BK250.out 1).trans rfl; have hfz5_0 := blk_frozen BK250.out 0; have hfz5_1 := blk_frozen BK250.out 1; have hcz6_0 : w3.cell? ⟨gb251, 0, none⟩ = some (.int .i32 0) := (blk_cell BK251.out 0).trans rfl; have hcz6_1 : w3.cell? ⟨gb251, 1, none⟩ = some (.int .i32 0) := (blk_cell BK251.out 1).trans rfl; have hcz6_2 : w3.cell? ⟨gb251, 2, none⟩ = some (.int .i32 0) := (blk_cell BK251.out 2).trans rfl; have hcz6_3 : w3.cell? ⟨gb251, 3, none⟩ = some (.int .i32 0) := (blk_cell BK251.out 3).trans rfl; have hfz6_0 := blk_frozen BK251.out 0; have hfz6_1 := blk_frozen BK251.out 1; have hfz6_2 := blk_frozen BK251.out 2; have hfz6_3 := blk_frozen BK251.out 3)); try go_wp2_with (first | ((with_reducible refine gate_dst (N := 1) rfl ?_); refine box_event ?hg (N := 1) ?hd (cs := #[.int .i32 a0_0, .int .i32 a0_1]) (t := 29) ?hr ?_; (case hd => rfl); (case hg => rfl); (case hr => first | (go_simp; done) | (go_simp; rfl)); intro gb250 hg w2 hbox hb; have n0_ := Aside0.mk (below_step (by repeat (first | (with_reducible first | exact HB.out | apply below_alloc | apply pw_below_drewN | apply below_drew1) | exact HB.out)) hb); have n1_ := Aside0.mk (hbox); have n2_ := Aside0.mk ((by rw [hg]; exact (below_size (by repeat (first | (with_reducible first | exact HB.out | apply below_alloc | apply pw_below_drewN | apply below_drew1) | exact HB.out))) : w.heap.size ≤ gb250)); have n3_ := Aside0.mk ((by rw [hg]; exact (below_size (by repeat (first | (with_reducible first | exact HB.out | apply below_alloc | apply pw_below_drewN | apply below_drew1) | exact HB.out))) : w.heap.size ≤ gb250)); clear HB; have HB := n0_; have BK250 := n1_; have GW250 := n2_; have GE250 := n3_; clear n0_ n1_ n2_ n3_; clear hb hbox hg) | ((with_reducible refine gate_dst (N := 2) rfl ?_); refine box_event ?hg (N := 2) ?hd (cs := #[.int .i32 0, .int .i32 0, .int .i32 0, .int .i32 0]) (t := 33) ?hr ?_; (case hd => rfl); (case hg => rfl); (case hr => first | (go_simp; done) | (go_simp; rfl)); intro gb251 hg w3 hbox hb; have n0_ := Aside0.mk (blk_below (g := gb250) (o := .cells #[.int .i32 a0_0, .int .i32 a0_1] 29 (0, 0)) (by (with_reducible repeat (first | refine blk_drewN ?_ _ | refine blk_drew ?_ | refine blk_alloc ?_ _)); exact BK250.out) hb); have n1_ := Aside0.mk (below_step (by repeat (first | (with_reducible first | exact HB.out | apply below_alloc | apply pw_below_drewN | apply below_drew1 | refine below_set ?_ GE250.out) | exact HB.out)) hb); have n2_ := Aside0.mk (hbox); have n3_ := Aside0.mk ((by rw [hg]; exact (below_size (by repeat (first | (with_reducible first | exact HB.out | apply below_alloc | apply pw_below_drewN | apply below_drew1 | refine below_set ?_ GE250.out) | exact HB.out))) : w.heap.size ≤ gb251)); have n4_ := Aside0.mk ((by rw [hg]; exact (below_size (by repeat (first | (with_reducible first | exact HB.out | apply below_alloc | apply pw_below_drewN | apply below_drew1 | refine below_set ?_ GE250.out) | exact HB.out))) : w.heap.size ≤ gb251)); have n5_ := Aside0.mk ((by rw [hg]; exact Nat.ne_of_lt (blk_lt (g := gb250) (o := .cells #[.int .i32 a0_0, .int .i32 a0_1] 29 (0, 0)) (by (with_reducible repeat (first | refine blk_drewN ?_ _ | refine blk_drew ?_ | refine blk_alloc ?_ _)); exact BK250.out)) : gb250 ≠ gb251)); have n6_ := Aside0.mk ((by rw [hg]; exact Nat.ne_of_gt (blk_lt (g := gb250) (o := .cells #[.int .i32 a0_0, .int .i32 a0_1] 29 (0, 0)) (by (with_reducible repeat (first | refine blk_drewN ?_ _ | refine blk_drew ?_ | refine blk_alloc ?_ _)); exact BK250.out)) : gb251 ≠ gb250)); clear BK250; clear HB; have BK250 := n0_; have HB := n1_; have BK251 := n2_; have GW251 := n3_; have GE251 := n4_; have NB250_251 := n5_; have NB251_250 := n6_; clear n0_ n1_ n2_ n3_ n4_ n5_ n6_; clear hb hbox hg; have hnb4 := NB250_251.out; have hnc4 := NB251_250.out; have hcz5_0 : w3.cell? ⟨gb250, 0, none⟩ = some (.int .i32 a0_0) := (blk_cell BK250.out 0).trans rfl; have hcz5_1 : w3.cell? ⟨gb250, 1, none⟩ = some (.int .i32 a0_1) := (blk_cell BK250.out 1).trans rfl; have hfz5_0 := blk_frozen BK250.out 0; have hfz5_1 := blk_frozen BK250.out 1; have hcz6_0 : w3.cell? ⟨gb251, 0, none⟩ = some (.int .i32 0) := (blk_cell BK251.out 0).trans rfl; have hcz6_1 : w3.cell? ⟨gb251, 1, none⟩ = some (.int .i32 0) := (blk_cell BK251.out 1).trans rfl; have hcz6_2 : w3.cell? ⟨gb251, 2, none⟩ = some (.int .i32 0) := (blk_cell BK251.out 2).trans rfl; have hcz6_3 : w3.cell? ⟨gb251, 3, none⟩ = some (.int .i32 0) := (blk_cell BK251.out 3).trans rfl; have hfz6_0 := blk_frozen BK251.out 0; have hfz6_1 := blk_frozen BK251.out 1; have hfz6_2 := blk_frozen BK251.out 2; have hfz6_3 := blk_frozen BK251.out 3)))
  refine bodyPost_ret (results_cell_row rfl _ _ gb251 33 #[.int .i32 (wrap32 (a0_0 * 4194304)), .int .i32 (wrap32 (a0_1 * 4194304)), .int .i32 (wrap32 ((wrap32 (a0_0 * 4194304)) + 4194303)), .int .i32 (wrap32 ((wrap32 (a0_1 * 4194304)) + 4194303))] (0, 0) _ rfl (by (with_reducible repeat (first | refine blk_drewN ?_ _ | refine blk_drew ?_ | refine blk_alloc ?_ _)); refine blk_put (cs := #[.int .i32 (wrap32 (a0_0 * 4194304)), .int .i32 (wrap32 (a0_1 * 4194304)), .int .i32 (wrap32 ((wrap32 (a0_0 * 4194304)) + 4194303)), .int .i32 0]) ?_ 3 _ rfl; (with_reducible repeat (first | refine blk_drewN ?_ _ | refine blk_drew ?_ | refine blk_alloc ?_ _)); refine blk_put (cs := #[.int .i32 (wrap32 (a0_0 * 4194304)), .int .i32 (wrap32 (a0_1 * 4194304)), .int .i32 0, .int .i32 0]) ?_ 2 _ rfl; (with_reducible repeat (first | refine blk_drewN ?_ _ | refine blk_drew ?_ | refine blk_alloc ?_ _)); refine blk_put (cs := #[.int .i32 (wrap32 (a0_0 * 4194304)), .int .i32 0, .int .i32 0, .int .i32 0]) ?_ 1 _ rfl; (with_reducible repeat (first | refine blk_drewN ?_ _ | refine blk_drew ?_ | refine blk_alloc ?_ _)); refine blk_put (cs := #[.int .i32 0, .int .i32 0, .int .i32 0, .int .i32 0]) ?_ 0 _ rfl; (with_reducible repeat (first | refine blk_drewN ?_ _ | refine blk_drew ?_ | refine blk_alloc ?_ _)); exact BK251.out) Tryd.underlying33 rfl (by kernel_rfl)) rfl ?_
  exact ⟨by first | rfl | (simp [errW_none, errW_some] <;> rfl) | (simp [*, errW_none, errW_some] <;> rfl), by repeat (first | (with_reducible first | exact HB.out | apply below_alloc | apply pw_below_drewN | apply below_drew1 | refine below_set ?_ GE250.out | refine below_set ?_ GE251.out) | exact HB.out)⟩

end Go.Proofs.YticjhncpglcgnaaDoor.Q
