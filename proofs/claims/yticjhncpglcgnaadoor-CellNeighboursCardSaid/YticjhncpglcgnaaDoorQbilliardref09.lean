-- PRINTED by print.py (a twelfth state) out of the translation. Not trusted: Lean checks it.
import Derived.Test.YticjhncpglcgnaaDoorQ0
import Derived.Test.YticjhncpglcgnaaDoorQbilliardref01
import Derived.Test.YticjhncpglcgnaaDoorQbilliardref08
namespace Go.Proofs.YticjhncpglcgnaaDoor.Q
open Go.RowKit Go.Proofs.YticjhncpglcgnaaDoorW.PrintWords Go.Proofs.YticjhncpglcgnaaDoorW.PrintLast Go.Proofs.YticjhncpglcgnaaDoorW.PrintMore
attribute [local go_sem] max2_int min2_int max_two min_two max_three min_three max_four min_four   -- for this text's walks alone
set_option linter.unusedVariables false
set_option linter.unusedSimpArgs false

/-! ### billiardref09_Column: function 15 -/
def billiardref09_Column.f (a0 : Int) : Option (Int) := (billiardref01_Floor.f (wrap64 (a0)) 4194304).bind fun t133 => (some (wrap32 (t133)))
set_option maxHeartbeats 8000000 in
set_option maxRecDepth 100000 in
theorem billiardref09_Column.calls (a0 : Int) (r : Int) (w : World) (h : billiardref09_Column.f a0 = some r) :
    Calls Tryd.prog 15 #[.int .i32 a0] w fun e w' => e = .returned (.int .i32 r) ∧ Drawn0 w w' := by
  have H : ((billiardref01_Floor.f (wrap64 (a0)) 4194304).bind fun t133 => (some (wrap32 (t133)))) = some r := h
  clear h
  replace H := Option.bind_eq_some_iff.mp H
  obtain ⟨t133, A20, H⟩ := H
  replace H : (some (wrap32 (t133))) = some r := H
  have A2 := Aside0.mk A20
  clear A20
  obtain rfl := Option.some.inj H
  go_enter Tryd.func15, Tryd.ntmps15
  go_wp2_with (first | ((with_reducible refine gate_callee (f := 30) rfl ?_); refine goesL_ (some 5) rfl rfl Tryd.func30 (by kernel_rfl) rfl #[.int .i64 (wrap64 (a0)), .int .i64 4194304] rfl (by (try simp only [List.map_toArray, List.map_cons, List.map_nil]); first | done | rfl | (simp only [List.length_drop, List.length_take]; rfl)) ?_; (with_reducible refine (billiardref01_Floor.calls (wrap64 (a0)) 4194304 t133 _ A2.out).mono ?_); rintro e w' ⟨rfl, ⟨nd, rfl⟩⟩; refine ⟨_, rfl, ?_⟩))
  go_ret
  exact ⟨by first | rfl | (simp; done) | (simp [*]; done), by repeat (first | exact Drawn0.refl _ | apply Drawn0.step)⟩

/-! ### billiardref09_Of: function 9 -/
def billiardref09_Of.f (a0_0 : Int) (a0_1 : Int) : Option (Int × Int) := (billiardref09_Column.f a0_0).bind fun t136 => ((billiardref09_Column.f a0_1).bind fun t137 => (some (t136, t137)))
def billiardref09_Of.T1 : Bool × List (List Nat × List Nat) := (true, [([], []), ([0], [0]), ([1], [1]), ([], []), ([3], [3]), ([4, 2], [4]), ([2, 5], [2, 5]), ([6, 5, 0, 1, 2, 3, 4, 5, 6], [6])])
def billiardref09_Of.B1 : List Nat := [0, 1, 3, 0, 8, 31, 63, 127]
theorem billiardref09_Of.tab1 : rtab .any (opsOf Tryd.f9 1) = billiardref09_Of.T1 := by kernel_rfl
theorem billiardref09_Of.bits1 : waitsOk billiardref09_Of.T1.2 billiardref09_Of.B1 = true := by kernel_rfl
set_option maxHeartbeats 8000000 in
set_option maxRecDepth 100000 in
theorem billiardref09_Of.calls (a0_0 : Int) (a0_1 : Int) (r1 : Int) (r2 : Int) (w : World) (h : billiardref09_Of.f a0_0 a0_1 = some (r1, r2)) :
    Calls Tryd.prog 9 #[.agg #[.int .i32 a0_0, .int .i32 a0_1]] w fun e w' => e = .returned (.agg #[.int .i32 r1, .int .i32 r2]) ∧ Below w.heap.size w w' := by
  have hu23 := Tryd.underlying23
  have hu26 := Tryd.underlying26
  have HB := Aside0.mk (Below.refl w.heap.size w)
  have H : ((billiardref09_Column.f a0_0).bind fun t136 => ((billiardref09_Column.f a0_1).bind fun t137 => (some (t136, t137)))) = some (r1, r2) := h
  clear h
  replace H := Option.bind_eq_some_iff.mp H
  obtain ⟨t136, A20, H⟩ := H
  replace H : ((billiardref09_Column.f a0_1).bind fun t137 => (some (t136, t137))) = some (r1, r2) := H
  have A2 := Aside0.mk A20
  clear A20
  replace H := Option.bind_eq_some_iff.mp H
  obtain ⟨t137, A30, H⟩ := H
  replace H : (some (t136, t137)) = some (r1, r2) := H
  have A3 := Aside0.mk A30
  clear A30
  simp only [Option.some.injEq, Prod.mk.injEq] at H
  obtain ⟨rfl, rfl⟩ := H
  go_enter Tryd.func9, Tryd.ntmps9
  try go_wp2_with (first | ((with_reducible refine gate_dst (N := 1) rfl ?_); refine box_event ?hg (N := 1) ?hd (cs := #[.int .i32 a0_0, .int .i32 a0_1]) (t := 23) ?hr ?_; (case hd => rfl); (case hg => rfl); (case hr => first | (go_simp; done) | (go_simp; rfl)); intro gb134 hg w4 hbox hb; have n0_ := Aside0.mk (below_step (by repeat (first | (with_reducible first | exact HB.out | apply below_alloc | apply pw_below_drewN | apply below_drew1) | exact HB.out)) hb); have n1_ := Aside0.mk (hbox); have n2_ := Aside0.mk ((by rw [hg]; exact (below_size (by repeat (first | (with_reducible first | exact HB.out | apply below_alloc | apply pw_below_drewN | apply below_drew1) | exact HB.out))) : w.heap.size ≤ gb134)); have n3_ := Aside0.mk ((by rw [hg]; exact (below_size (by repeat (first | (with_reducible first | exact HB.out | apply below_alloc | apply pw_below_drewN | apply below_drew1) | exact HB.out))) : w.heap.size ≤ gb134)); clear HB; have HB := n0_; have BK134 := n1_; have GW134 := n2_; have GE134 := n3_; clear n0_ n1_ n2_ n3_; clear hb hbox hg) | ((with_reducible refine gate_dst (N := 2) rfl ?_); refine box_event ?hg (N := 2) ?hd (cs := #[.int .i32 0, .int .i32 0]) (t := 26) ?hr ?_; (case hd => rfl); (case hg => rfl); (case hr => first | (go_simp; done) | (go_simp; rfl)); intro gb135 hg w5 hbox hb; have n0_ := Aside0.mk (blk_below (g := gb134) (o := .cells #[.int .i32 a0_0, .int .i32 a0_1] 23 (0, 0)) (by (with_reducible repeat (first | refine blk_drewN ?_ _ | refine blk_drew ?_ | refine blk_alloc ?_ _)); exact BK134.out) hb); have n1_ := Aside0.mk (below_step (by repeat (first | (with_reducible first | exact HB.out | apply below_alloc | apply pw_below_drewN | apply below_drew1 | refine below_set ?_ GE134.out) | exact HB.out)) hb); have n2_ := Aside0.mk (hbox); have n3_ := Aside0.mk ((by rw [hg]; exact (below_size (by repeat (first | (with_reducible first | exact HB.out | apply below_alloc | apply pw_below_drewN | apply below_drew1 | refine below_set ?_ GE134.out) | exact HB.out))) : w.heap.size ≤ gb135)); have n4_ := Aside0.mk ((by rw [hg]; exact (below_size (by repeat (first | (with_reducible first | exact HB.out | apply below_alloc | apply pw_below_drewN | apply below_drew1 | refine below_set ?_ GE134.out) | exact HB.out))) : w.heap.size ≤ gb135)); have n5_ := Aside0.mk ((by rw [hg]; exact Nat.ne_of_lt (blk_lt (g := gb134) (o := .cells #[.int .i32 a0_0, .int .i32 a0_1] 23 (0, 0)) (by (with_reducible repeat (first | refine blk_drewN ?_ _ | refine blk_drew ?_ | refine blk_alloc ?_ _)); exact BK134.out)) : gb134 ≠ gb135)); have n6_ := Aside0.mk ((by rw [hg]; exact Nat.ne_of_gt (blk_lt (g := gb134) (o := .cells #[.int .i32 a0_0, .int .i32 a0_1] 23 (0, 0)) (by (with_reducible repeat (first | refine blk_drewN ?_ _ | refine blk_drew ?_ | refine blk_alloc ?_ _)); exact BK134.out)) : gb135 ≠ gb134)); clear BK134; clear HB; have BK134 := n0_; have HB := n1_; have BK135 := n2_; have GW135 := n3_; have GE135 := n4_; have NB134_135 := n5_; have NB135_134 := n6_; clear n0_ n1_ n2_ n3_ n4_ n5_ n6_; clear hb hbox hg))
  have n0_ := Aside0.mk (blk_drew BK134.out)
  have n1_ := Aside0.mk (blk_drew BK135.out)
  have n2_ := Aside0.mk (below_drew1 HB.out)
  clear BK134
  clear BK135
  clear HB
  have BK134 := n0_
  have BK135 := n1_
  have HB := n2_
  clear n0_ n1_ n2_
  refine start_ (n := 8) (S := fun w' => w'.cell? ⟨gb134, 0, none⟩ = some (.int .i32 a0_0) ∧ w'.cell? ⟨gb134, 1, none⟩ = some (.int .i32 a0_1)) (ds := []) #[false, false, false, false, false, false, false, false] (by kernel_rfl) rfl rfl ⟨(blk_cell BK134.out 0).trans rfl, (blk_cell BK134.out 1).trans rfl⟩ (fun hHeld => ?_); refine with_tabW billiardref09_Of.tab1 billiardref09_Of.bits1 (fun HT_ HW_ => ?_)
  generalize w5.drew = w6 at BK134 BK135 HB hHeld ⊢
  refine pure_ (i := 0) (N := some 3) (v := ?_) (a' := ?_) #[true, false, false, false, false, false, false, false] rfl rfl (any_of HT_.out (by kernel_rfl)) (fun _ _ _ h => h) (Or.inl ⟨by rfl, ?_⟩) ?_ ?_
  rotate_left
  · intro w'
    go_simp
    with_reducible rfl
  rotate_left
  · simp only [Act.put, List.setIfInBounds_toArray, List.set_cons_zero, List.set_cons_succ, i64_w, i32_w]
    rfl
  refine pure_ (i := 3) (N := some 6) (v := ?_) (a' := ?_) #[true, false, false, true, false, false, false, false] rfl rfl (any_of HT_.out (by kernel_rfl)) (fun _ _ _ h => h) (Or.inl ⟨by rfl, ?_⟩) ?_ ?_
  rotate_left
  · intro w'
    go_simp
    with_reducible rfl
  rotate_left
  · simp only [Act.put, List.setIfInBounds_toArray, List.set_cons_zero, List.set_cons_succ, i64_w, i32_w]
    rfl
  refine take_ (i := 1) (N := some 4) (v := ?_) (a' := ?_) #[true, true, false, true, false, false, false, false] rfl rfl (take_ofW HT_.out HW_.out (by kernel_rfl)) (fun _ _ _ h => h) (Or.inl ⟨by rfl, ?_⟩) hHeld ?_ ?_
  rotate_left
  · rintro w' ⟨s0, s1⟩
    go_simp
    with_reducible rfl
  rotate_left
  · simp only [Act.put, List.setIfInBounds_toArray, List.set_cons_zero, List.set_cons_succ, i64_w, i32_w]
    rfl
  refine take_ (i := 4) (N := some 7) (v := ?_) (a' := ?_) #[true, true, false, true, true, false, false, false] rfl rfl (take_ofW HT_.out HW_.out (by kernel_rfl)) (fun _ _ _ h => h) (Or.inl ⟨by rfl, ?_⟩) hHeld ?_ ?_
  rotate_left
  · rintro w' ⟨s0, s1⟩
    go_simp
    with_reducible rfl
  rotate_left
  · simp only [Act.put, List.setIfInBounds_toArray, List.set_cons_zero, List.set_cons_succ, i64_w, i32_w]
    rfl
  refine one_ (i := 2) (N := some 5) #[true, true, true, true, true, false, false, false] rfl rfl (one_of HT_.out (by kernel_rfl)) (by decide) (fun K hK => ?_)
  refine goes_ Tryd.func15 (by kernel_rfl) rfl #[.int .i32 a0_0] (by rfl) rfl rfl (by (try simp only [List.map_toArray, List.map_cons, List.map_nil]); first | done | rfl | (simp only [List.length_drop, List.length_take]; rfl)) ?_
  with_reducible refine (billiardref09_Column.calls a0_0 t136 _ A2.out).mono ?_
  rintro e w' ⟨rfl, ⟨nd, rfl⟩⟩
  refine ⟨_, rfl, ?_⟩
  refine hK.out _ _ ⟨(blk_cell BK134.out 0).trans rfl, (blk_cell BK134.out 1).trans rfl⟩ (fun hHeld => ?_)
  clear hK K
  refine norm_ (a' := ?_) ?_ ?_
  rotate_left
  · show Act.put _ (some 5) _ = _
    simp only [Act.put, List.setIfInBounds_toArray, List.set_cons_zero, List.set_cons_succ, i64_w, i32_w]
    rfl
  refine one_ (i := 5) (N := some 8) #[true, true, true, true, true, true, false, false] rfl rfl (one_of HT_.out (by kernel_rfl)) (by decide) (fun K hK => ?_)
  refine goes_ Tryd.func15 (by kernel_rfl) rfl #[.int .i32 a0_1] (by rfl) rfl rfl (by (try simp only [List.map_toArray, List.map_cons, List.map_nil]); first | done | rfl | (simp only [List.length_drop, List.length_take]; rfl)) ?_
  with_reducible refine (billiardref09_Column.calls a0_1 t137 _ A3.out).mono ?_
  rintro e w' ⟨rfl, ⟨nd, rfl⟩⟩
  refine ⟨_, rfl, ?_⟩
  refine hK.out _ _ ⟨(blk_cell BK134.out 0).trans rfl, (blk_cell BK134.out 1).trans rfl⟩ (fun hHeld => ?_)
  clear hK K
  refine norm_ (a' := ?_) ?_ ?_
  rotate_left
  · show Act.put _ (some 8) _ = _
    simp only [Act.put, List.setIfInBounds_toArray, List.set_cons_zero, List.set_cons_succ, i64_w, i32_w]
    rfl
  refine pure_ (i := 6) (N := some 9) (v := ?_) (a' := ?_) #[true, true, true, true, true, true, true, false] rfl rfl (any_of HT_.out (by kernel_rfl)) (fun _ _ _ h => h) (Or.inl ⟨by rfl, ?_⟩) ?_ ?_
  rotate_left
  · intro w'
    go_simp
    with_reducible rfl
  rotate_left
  · simp only [Act.put, List.setIfInBounds_toArray, List.set_cons_zero, List.set_cons_succ, i64_w, i32_w]
    rfl
  refine one_ (i := 7) (N := none) #[true, true, true, true, true, true, true, true] rfl rfl (one_of HT_.out (by kernel_rfl)) (by decide) (fun K hK => ?_)
  have hs7 : w6.cell? ⟨gb135, 0, none⟩ = some (.int .i32 0) := (blk_cell BK135.out 0).trans rfl
  have hfs7 := blk_frozen BK135.out 0
  have hns7_0 := NB134_135.out
  have hms7_0 := NB135_134.out
  have hs8 : w6.cell? ⟨gb135, 1, none⟩ = some (.int .i32 0) := (blk_cell BK135.out 1).trans rfl
  have hfs8 := blk_frozen BK135.out 1
  have hns8_0 := NB134_135.out
  have hms8_0 := NB135_134.out
  refine skip_ (w1 := ?_) (by rfl) rfl ?_ ?_
  rotate_left
  · go_simp
    rfl
  refine hK.out _ _ ⟨((cell_far (p := ⟨gb135, _, none⟩) NB134_135.out _).trans (((cell_far (p := ⟨gb135, _, none⟩) NB134_135.out _).trans (hHeld.1)))), ((cell_far (p := ⟨gb135, _, none⟩) NB134_135.out _).trans (((cell_far (p := ⟨gb135, _, none⟩) NB134_135.out _).trans (hHeld.2))))⟩ (fun hHeld => ?_)
  clear hK K
  refine done_ (done_of HT_.out (by kernel_rfl)) ?_
  try go_wp2
  refine bodyPost_ret (results_cell_row rfl _ _ gb135 26 #[.int .i32 t136, .int .i32 t137] (0, 0) _ rfl (by (with_reducible repeat (first | refine blk_drewN ?_ _ | refine blk_drew ?_ | refine blk_alloc ?_ _)); refine blk_put (cs := #[.int .i32 t136, .int .i32 0]) ?_ 1 _ rfl; (with_reducible repeat (first | refine blk_drewN ?_ _ | refine blk_drew ?_ | refine blk_alloc ?_ _)); refine blk_put (cs := #[.int .i32 0, .int .i32 0]) ?_ 0 _ rfl; (with_reducible repeat (first | refine blk_drewN ?_ _ | refine blk_drew ?_ | refine blk_alloc ?_ _)); exact BK135.out) Tryd.underlying26 rfl (by kernel_rfl)) rfl ?_
  exact ⟨by first | rfl | (simp [errW_none, errW_some] <;> rfl) | (simp [*, errW_none, errW_some] <;> rfl), by repeat (first | (with_reducible first | exact HB.out | apply below_alloc | apply pw_below_drewN | apply below_drew1 | refine below_set ?_ GE134.out | refine below_set ?_ GE135.out) | exact HB.out)⟩

/-! ### billiardref09_xor: function 28 -/
def billiardref09_xor.l0 : Nat → Int → Int → Int → Int → Int → Option (Int)
  | 0, _, _, _, _, _ => none
  | k + 1, x0, x1, x5, x6, x7 => if x7 < 32 then (if x6 = 0 then (none) else (if (((Int.tdiv x0 x6) % 4294967296) % 2) = (((Int.tdiv x1 x6) % 4294967296) % 2) then (billiardref09_xor.l0 k x0 x1 x5 ((2 * x6) % 4294967296) (wrap64 (x7 + 1))) else (billiardref09_xor.l0 k x0 x1 ((x5 + x6) % 4294967296) ((2 * x6) % 4294967296) (wrap64 (x7 + 1))))) else (some x5)
def billiardref09_xor.f (k : Nat) (a0 : Int) (a1 : Int) : Option (Int) := billiardref09_xor.l0 k a0 a1 0 1 0
theorem billiardref09_xor.mono_l : ∀ k, (∀ y0 y1 y2 y3 y4, LeO (billiardref09_xor.l0 k y0 y1 y2 y3 y4) (billiardref09_xor.l0 (k + 1) y0 y1 y2 y3 y4))
  | 0 => fun _ _ _ _ _ r h => by simp [billiardref09_xor.l0] at h
  | k + 1 => by
    have ih0 := billiardref09_xor.mono_l k
    · intro y0 y1 y2 y3 y4
      unfold billiardref09_xor.l0
      repeat' first
      | (with_reducible exact ih0 _ _ _ _ _)
      | (with_reducible exact LeO.refl _)
      | (with_reducible exact LeO.none _)
      | (with_reducible refine LeO.ite ?_ ?_)
      | (with_reducible refine LeO.bind ?_ (fun _ => ?_))
      | exact ih0 _ _ _ _ _
      | exact LeO.none _
      | refine LeO.ite ?_ ?_
      | refine LeO.bind ?_ (fun _ => ?_)
theorem billiardref09_xor.mono : ∀ a0 a1 k, LeO (billiardref09_xor.f k a0 a1) (billiardref09_xor.f (k + 1) a0 a1) := by
  intro a0 a1 k
  have ih0 := billiardref09_xor.mono_l k
  unfold billiardref09_xor.f
  repeat' first
      | (with_reducible exact ih0 _ _ _ _ _)
      | (with_reducible exact LeO.refl _)
      | (with_reducible exact LeO.none _)
      | (with_reducible refine LeO.ite ?_ ?_)
      | (with_reducible refine LeO.bind ?_ (fun _ => ?_))
      | exact ih0 _ _ _ _ _
      | exact LeO.none _
      | refine LeO.ite ?_ ?_
      | refine LeO.bind ?_ (fun _ => ?_)
set_option maxHeartbeats 8000000 in
set_option maxRecDepth 100000 in
theorem billiardref09_xor.calls (k : Nat) (a0 : Int) (a1 : Int) (r : Int) (w : World) (h : billiardref09_xor.f k a0 a1 = some r) :
    Calls Tryd.prog 28 #[.int .u32 a0, .int .u32 a1] w fun e w' => e = .returned (.int .u32 r) ∧ Drawn0 w w' := by
  have H : (billiardref09_xor.l0 k a0 a1 0 1 0) = some r := h
  clear h
  have H' := Aside0.mk H
  clear H
  go_enter Tryd.func28, Tryd.ntmps28
  go_wp2
  repeat (go_quiet (fail); try go_wp2)
  go_loopg [5, 6, 7] k (fun kq v5 v6 v7 w' => ∃ (x5_1 : Int) (x6_1 : Int) (x7_1 : Int), v5 = .int .u32 x5_1 ∧ v6 = .int .u32 x6_1 ∧ v7 = .int .i64 x7_1 ∧ Aside0 (billiardref09_xor.l0 kq a0 a1 x5_1 x6_1 x7_1 = some r) ∧ Aside0 (kq ≤ k) ∧ Drawn0 w w')
  case atStart => exact ⟨(0), (1), (0), (by first | rfl | (simp; done) | (simp [*]; done)), (by first | rfl | (simp; done) | (simp [*]; done)), (by first | rfl | (simp; done) | (simp [*]; done)), H', ⟨Nat.le_refl _⟩, by repeat (first | exact Drawn0.refl _ | apply Drawn0.step)⟩
  case round =>
    clear H'
    try clear c2
    try clear p2
    obtain ⟨x5_1, x6_1, x7_1, rfl, rfl, rfl, HA, HK1, ⟨m1, rfl⟩⟩ := hrel
    cases gk with
    | zero => exact absurd HA.out (by simp [billiardref09_xor.l0])
    | succ k1 =>
      have H := HA.out
      clear HA
      simp only [billiardref09_xor.l0] at H
      by_cases c3 : x7_1 < 32
      · rw [if_pos c3] at H
        have c3b0 : decide (x7_1 < 32) = true := decide_eq_true c3
        clear c3
        by_cases c4 : x6_1 = 0
        · rw [if_pos c4] at H
          exact absurd H (by simp)
        · rw [if_neg c4] at H
          have c4b0 : (x6_1 == 0) = false := beq_eq_false_iff_ne.mpr c4
          have c4b1 : (x6_1 != 0) = true := bne_iff_ne.mpr c4
          by_cases c5 : (((Int.tdiv a0 x6_1) % 4294967296) % 2) = (((Int.tdiv a1 x6_1) % 4294967296) % 2)
          · rw [if_pos c5] at H
            have c5b0 : ((((Int.tdiv a0 x6_1) % 4294967296) % 2) == (((Int.tdiv a1 x6_1) % 4294967296) % 2)) = true := beq_iff_eq.mpr c5
            have c5b1 : ((((Int.tdiv a0 x6_1) % 4294967296) % 2) != (((Int.tdiv a1 x6_1) % 4294967296) % 2)) = false := bne_eq_false_iff_eq.mpr c5
            clear c5
            have H' := Aside0.mk H
            clear H
            go_wp2
            repeat (go_quiet (fail); try go_wp2)
            go_roundg k1
            case measure => have := HK1.out; omega
            case rel => exact ⟨(x5_1), ((2 * x6_1) % 4294967296), (wrap64 (x7_1 + 1)), (by first | rfl | (simp; done) | (simp [*]; done)), (by first | rfl | (simp; done) | (simp [*]; done)), (by first | rfl | (simp; done) | (simp [*]; done)), H', ⟨by have := HK1.out; omega⟩, by repeat (first | exact Drawn0.refl _ | apply Drawn0.step)⟩
          · rw [if_neg c5] at H
            have c5b0 : ((((Int.tdiv a0 x6_1) % 4294967296) % 2) == (((Int.tdiv a1 x6_1) % 4294967296) % 2)) = false := beq_eq_false_iff_ne.mpr c5
            have c5b1 : ((((Int.tdiv a0 x6_1) % 4294967296) % 2) != (((Int.tdiv a1 x6_1) % 4294967296) % 2)) = true := bne_iff_ne.mpr c5
            have H' := Aside0.mk H
            clear H
            go_wp2
            repeat (go_quiet (fail); try go_wp2)
            go_roundg k1
            case measure => have := HK1.out; omega
            case rel => exact ⟨((x5_1 + x6_1) % 4294967296), ((2 * x6_1) % 4294967296), (wrap64 (x7_1 + 1)), (by first | rfl | (simp; done) | (simp [*]; done)), (by first | rfl | (simp; done) | (simp [*]; done)), (by first | rfl | (simp; done) | (simp [*]; done)), H', ⟨by have := HK1.out; omega⟩, by repeat (first | exact Drawn0.refl _ | apply Drawn0.step)⟩
      · rw [if_neg c3] at H
        have c3b0 : decide (x7_1 < 32) = false := decide_eq_false c3
        clear c3
        obtain rfl := Option.some.inj H
        go_wp2
        repeat (go_quiet (fail); try go_wp2)
        go_ret
        exact ⟨by first | rfl | (simp; done) | (simp [*]; done), by repeat (first | exact Drawn0.refl _ | apply Drawn0.step)⟩

/-! ### billiardref09_Bucket: function 12 -/
def billiardref09_Bucket.f (k : Nat) (a0_0 : Int) (a0_1 : Int) : Option (Int) := (billiardref09_xor.f k ((((a0_0) % 4294967296) * 73856093) % 4294967296) ((((a0_1) % 4294967296) * 19349663) % 4294967296)).bind fun t139 => (some (wrap64 (Int.tmod t139 1024)))
theorem billiardref09_Bucket.mono : ∀ a0 a1 k, LeO (billiardref09_Bucket.f k a0 a1) (billiardref09_Bucket.f (k + 1) a0 a1) := by
  intro a0 a1 k
  unfold billiardref09_Bucket.f
  repeat' first
      | (with_reducible exact billiardref09_xor.mono _ _ _)
      | (with_reducible exact LeO.refl _)
      | (with_reducible exact LeO.none _)
      | (with_reducible refine LeO.ite ?_ ?_)
      | (with_reducible refine LeO.bind ?_ (fun _ => ?_))
      | exact billiardref09_xor.mono _ _ _
      | exact LeO.none _
      | refine LeO.ite ?_ ?_
      | refine LeO.bind ?_ (fun _ => ?_)
set_option maxHeartbeats 8000000 in
set_option maxRecDepth 100000 in
theorem billiardref09_Bucket.calls (k : Nat) (a0_0 : Int) (a0_1 : Int) (r : Int) (w : World) (h : billiardref09_Bucket.f k a0_0 a0_1 = some r) :
    Calls Tryd.prog 12 #[.agg #[.int .i32 a0_0, .int .i32 a0_1]] w fun e w' => e = .returned (.int .i64 r) ∧ Below w.heap.size w w' := by
  have hu26 := Tryd.underlying26
  have HB := Aside0.mk (Below.refl w.heap.size w)
  have H : ((billiardref09_xor.f k ((((a0_0) % 4294967296) * 73856093) % 4294967296) ((((a0_1) % 4294967296) * 19349663) % 4294967296)).bind fun t139 => (some (wrap64 (Int.tmod t139 1024)))) = some r := h
  clear h
  replace H := Option.bind_eq_some_iff.mp H
  obtain ⟨t139, A20, H⟩ := H
  replace H : (some (wrap64 (Int.tmod t139 1024))) = some r := H
  have A2 := Aside0.mk A20
  clear A20
  obtain rfl := Option.some.inj H
  go_enter Tryd.func12, Tryd.ntmps12
  go_wp2_with (first | ((with_reducible refine gate_dst (N := 1) rfl ?_); refine box_event ?hg (N := 1) ?hd (cs := #[.int .i32 a0_0, .int .i32 a0_1]) (t := 26) ?hr ?_; (case hd => rfl); (case hg => rfl); (case hr => first | (go_simp; done) | (go_simp; rfl)); intro gb138 hg w3 hbox hb; have n0_ := Aside0.mk (below_step (by repeat (first | (with_reducible first | exact HB.out | apply below_alloc | apply pw_below_drewN | apply below_drew1) | exact HB.out)) hb); have n1_ := Aside0.mk (hbox); have n2_ := Aside0.mk ((by rw [hg]; exact (below_size (by repeat (first | (with_reducible first | exact HB.out | apply below_alloc | apply pw_below_drewN | apply below_drew1) | exact HB.out))) : w.heap.size ≤ gb138)); have n3_ := Aside0.mk ((by rw [hg]; exact (below_size (by repeat (first | (with_reducible first | exact HB.out | apply below_alloc | apply pw_below_drewN | apply below_drew1) | exact HB.out))) : w.heap.size ≤ gb138)); clear HB; have HB := n0_; have BK138 := n1_; have GW138 := n2_; have GE138 := n3_; clear n0_ n1_ n2_ n3_; clear hb hbox hg; have hcz4_0 : w3.cell? ⟨gb138, 0, none⟩ = some (.int .i32 a0_0) := (blk_cell BK138.out 0).trans rfl; have hcz4_1 : w3.cell? ⟨gb138, 1, none⟩ = some (.int .i32 a0_1) := (blk_cell BK138.out 1).trans rfl; have hfz4_0 := blk_frozen BK138.out 0; have hfz4_1 := blk_frozen BK138.out 1) | ((with_reducible refine gate_callee (f := 28) rfl ?_); refine goesL_ (some 11) rfl rfl Tryd.func28 (by kernel_rfl) rfl #[.int .u32 ((((a0_0) % 4294967296) * 73856093) % 4294967296), .int .u32 ((((a0_1) % 4294967296) * 19349663) % 4294967296)] rfl (by (try simp only [List.map_toArray, List.map_cons, List.map_nil]); first | done | rfl | (simp only [List.length_drop, List.length_take]; rfl)) ?_; (with_reducible refine (billiardref09_xor.calls k ((((a0_0) % 4294967296) * 73856093) % 4294967296) ((((a0_1) % 4294967296) * 19349663) % 4294967296) t139 _ A2.out).mono ?_); rintro e w' ⟨rfl, ⟨nd, rfl⟩⟩; refine ⟨_, rfl, ?_⟩))
  go_ret
  exact ⟨by first | rfl | (simp [errW_none, errW_some] <;> rfl) | (simp [*, errW_none, errW_some] <;> rfl), by repeat (first | (with_reducible first | exact HB.out | apply below_alloc | apply pw_below_drewN | apply below_drew1 | refine below_set ?_ GE138.out) | exact HB.out)⟩

/-! ### billiardref09_Count: function 16 -/
def billiardref09_Count.f (a0_0 : Int) (a0_1 : Int) (a0_2 : Int) (a0_3 : Int) : Option (Int) := (billiardref08_Empty.f a0_0 a0_1 a0_2 a0_3).bind fun t142 => (if t142 = true then (some 0) else ((billiardref09_Column.f a0_2).bind fun t143 => ((billiardref09_Column.f a0_0).bind fun t144 => ((billiardref09_Column.f a0_3).bind fun t145 => ((billiardref09_Column.f a0_1).bind fun t146 => (some (wrap64 ((wrap64 ((wrap64 ((wrap64 (t143)) - (wrap64 (t144)))) + 1)) * (wrap64 ((wrap64 ((wrap64 (t145)) - (wrap64 (t146)))) + 1))))))))))
set_option maxHeartbeats 8000000 in
set_option maxRecDepth 100000 in
theorem billiardref09_Count.calls (a0_0 : Int) (a0_1 : Int) (a0_2 : Int) (a0_3 : Int) (r : Int) (w : World) (h : billiardref09_Count.f a0_0 a0_1 a0_2 a0_3 = some r) :
    Calls Tryd.prog 16 #[.agg #[.int .i32 a0_0, .int .i32 a0_1, .int .i32 a0_2, .int .i32 a0_3]] w fun e w' => e = .returned (.int .i64 r) ∧ Below w.heap.size w w' := by
  have hu25 := Tryd.underlying25
  have HB := Aside0.mk (Below.refl w.heap.size w)
  have H : ((billiardref08_Empty.f a0_0 a0_1 a0_2 a0_3).bind fun t142 => (if t142 = true then (some 0) else ((billiardref09_Column.f a0_2).bind fun t143 => ((billiardref09_Column.f a0_0).bind fun t144 => ((billiardref09_Column.f a0_3).bind fun t145 => ((billiardref09_Column.f a0_1).bind fun t146 => (some (wrap64 ((wrap64 ((wrap64 ((wrap64 (t143)) - (wrap64 (t144)))) + 1)) * (wrap64 ((wrap64 ((wrap64 (t145)) - (wrap64 (t146)))) + 1))))))))))) = some r := h
  clear h
  replace H := Option.bind_eq_some_iff.mp H
  obtain ⟨t142, A20, H⟩ := H
  replace H : (if t142 = true then (some 0) else ((billiardref09_Column.f a0_2).bind fun t143 => ((billiardref09_Column.f a0_0).bind fun t144 => ((billiardref09_Column.f a0_3).bind fun t145 => ((billiardref09_Column.f a0_1).bind fun t146 => (some (wrap64 ((wrap64 ((wrap64 ((wrap64 (t143)) - (wrap64 (t144)))) + 1)) * (wrap64 ((wrap64 ((wrap64 (t145)) - (wrap64 (t146)))) + 1)))))))))) = some r := H
  have A2 := Aside0.mk A20
  clear A20
  by_cases c3 : t142 = true
  · subst c3
    have H1 : (some 0) = some r := by rw [if_pos rfl] at H; exact H
    clear H
    have H := H1
    clear H1
    obtain rfl := Option.some.inj H
    go_enter Tryd.func16, Tryd.ntmps16
    go_wp2_with (first | ((with_reducible refine gate_dst (N := 1) rfl ?_); refine box_event ?hg (N := 1) ?hd (cs := #[.int .i32 a0_0, .int .i32 a0_1, .int .i32 a0_2, .int .i32 a0_3]) (t := 25) ?hr ?_; (case hd => rfl); (case hg => rfl); (case hr => first | (go_simp; done) | (go_simp; rfl)); intro gb141 hg w4 hbox hb; have n0_ := Aside0.mk (below_step (by repeat (first | (with_reducible first | exact HB.out | apply below_alloc | apply pw_below_drewN | apply below_drew1) | exact HB.out)) hb); have n1_ := Aside0.mk (hbox); have n2_ := Aside0.mk ((by rw [hg]; exact (below_size (by repeat (first | (with_reducible first | exact HB.out | apply below_alloc | apply pw_below_drewN | apply below_drew1) | exact HB.out))) : w.heap.size ≤ gb141)); have n3_ := Aside0.mk ((by rw [hg]; exact (below_size (by repeat (first | (with_reducible first | exact HB.out | apply below_alloc | apply pw_below_drewN | apply below_drew1) | exact HB.out))) : w.heap.size ≤ gb141)); clear HB; have HB := n0_; have BK141 := n1_; have GW141 := n2_; have GE141 := n3_; clear n0_ n1_ n2_ n3_; clear hb hbox hg; have hcz5_0 : w4.cell? ⟨gb141, 0, none⟩ = some (.int .i32 a0_0) := (blk_cell BK141.out 0).trans rfl; have hcz5_1 : w4.cell? ⟨gb141, 1, none⟩ = some (.int .i32 a0_1) := (blk_cell BK141.out 1).trans rfl; have hcz5_2 : w4.cell? ⟨gb141, 2, none⟩ = some (.int .i32 a0_2) := (blk_cell BK141.out 2).trans rfl; have hcz5_3 : w4.cell? ⟨gb141, 3, none⟩ = some (.int .i32 a0_3) := (blk_cell BK141.out 3).trans rfl; have hfz5_0 := blk_frozen BK141.out 0; have hfz5_1 := blk_frozen BK141.out 1; have hfz5_2 := blk_frozen BK141.out 2; have hfz5_3 := blk_frozen BK141.out 3) | (go_at_call 14; (with_reducible refine (billiardref08_Empty.calls a0_0 a0_1 a0_2 a0_3 true _ A2.out).mono ?_); rintro e w6 ⟨rfl, hb⟩; have n0_ := Aside0.mk (blk_below (g := gb141) (o := .cells #[.int .i32 a0_0, .int .i32 a0_1, .int .i32 a0_2, .int .i32 a0_3] 25 (0, 0)) (by (with_reducible repeat (first | refine blk_drewN ?_ _ | refine blk_drew ?_ | refine blk_alloc ?_ _)); exact BK141.out) hb); have n1_ := Aside0.mk (below_step (by repeat (first | (with_reducible first | exact HB.out | apply below_alloc | apply pw_below_drewN | apply below_drew1 | refine below_set ?_ GE141.out) | exact HB.out)) hb); clear BK141; clear HB; have BK141 := n0_; have HB := n1_; clear n0_ n1_; (try clear hb); (try clear hb2); (try clear hk); (try clear hi)))
    repeat (go_quiet (first | ((with_reducible refine gate_dst (N := 1) rfl ?_); refine box_event ?hg (N := 1) ?hd (cs := #[.int .i32 a0_0, .int .i32 a0_1, .int .i32 a0_2, .int .i32 a0_3]) (t := 25) ?hr ?_; (case hd => rfl); (case hg => rfl); (case hr => first | (go_simp; done) | (go_simp; rfl)); intro gb141 hg w4 hbox hb; have n0_ := Aside0.mk (below_step (by repeat (first | (with_reducible first | exact HB.out | apply below_alloc | apply pw_below_drewN | apply below_drew1) | exact HB.out)) hb); have n1_ := Aside0.mk (hbox); have n2_ := Aside0.mk ((by rw [hg]; exact (below_size (by repeat (first | (with_reducible first | exact HB.out | apply below_alloc | apply pw_below_drewN | apply below_drew1) | exact HB.out))) : w.heap.size ≤ gb141)); have n3_ := Aside0.mk ((by rw [hg]; exact (below_size (by repeat (first | (with_reducible first | exact HB.out | apply below_alloc | apply pw_below_drewN | apply below_drew1) | exact HB.out))) : w.heap.size ≤ gb141)); clear HB; have HB := n0_; have BK141 := n1_; have GW141 := n2_; have GE141 := n3_; clear n0_ n1_ n2_ n3_; clear hb hbox hg; have hcz5_0 : w4.cell? ⟨gb141, 0, none⟩ = some (.int .i32 a0_0) := (blk_cell BK141.out 0).trans rfl; have hcz5_1 : w4.cell? ⟨gb141, 1, none⟩ = some (.int .i32 a0_1) := (blk_cell BK141.out 1).trans rfl; have hcz5_2 : w4.cell? ⟨gb141, 2, none⟩ = some (.int .i32 a0_2) := (blk_cell BK141.out 2).trans rfl; have hcz5_3 : w4.cell? ⟨gb141, 3, none⟩ = some (.int .i32 a0_3) := (blk_cell BK141.out 3).trans rfl; have hfz5_0 := blk_frozen BK141.out 0; have hfz5_1 := blk_frozen BK141.out 1; have hfz5_2 := blk_frozen BK141.out 2; have hfz5_3 := blk_frozen BK141.out 3) | (go_at_call 14; (with_reducible refine (billiardref08_Empty.calls a0_0 a0_1 a0_2 a0_3 true _ A2.out).mono ?_); rintro e w6 ⟨rfl, hb⟩; have n0_ := Aside0.mk (blk_below (g := gb141) (o := .cells #[.int .i32 a0_0, .int .i32 a0_1, .int .i32 a0_2, .int .i32 a0_3] 25 (0, 0)) (by (with_reducible repeat (first | refine blk_drewN ?_ _ | refine blk_drew ?_ | refine blk_alloc ?_ _)); exact BK141.out) hb); have n1_ := Aside0.mk (below_step (by repeat (first | (with_reducible first | exact HB.out | apply below_alloc | apply pw_below_drewN | apply below_drew1 | refine below_set ?_ GE141.out) | exact HB.out)) hb); clear BK141; clear HB; have BK141 := n0_; have HB := n1_; clear n0_ n1_; (try clear hb); (try clear hb2); (try clear hk); (try clear hi))); try go_wp2_with (first | ((with_reducible refine gate_dst (N := 1) rfl ?_); refine box_event ?hg (N := 1) ?hd (cs := #[.int .i32 a0_0, .int .i32 a0_1, .int .i32 a0_2, .int .i32 a0_3]) (t := 25) ?hr ?_; (case hd => rfl); (case hg => rfl); (case hr => first | (go_simp; done) | (go_simp; rfl)); intro gb141 hg w4 hbox hb; have n0_ := Aside0.mk (below_step (by repeat (first | (with_reducible first | exact HB.out | apply below_alloc | apply pw_below_drewN | apply below_drew1) | exact HB.out)) hb); have n1_ := Aside0.mk (hbox); have n2_ := Aside0.mk ((by rw [hg]; exact (below_size (by repeat (first | (with_reducible first | exact HB.out | apply below_alloc | apply pw_below_drewN | apply below_drew1) | exact HB.out))) : w.heap.size ≤ gb141)); have n3_ := Aside0.mk ((by rw [hg]; exact (below_size (by repeat (first | (with_reducible first | exact HB.out | apply below_alloc | apply pw_below_drewN | apply below_drew1) | exact HB.out))) : w.heap.size ≤ gb141)); clear HB; have HB := n0_; have BK141 := n1_; have GW141 := n2_; have GE141 := n3_; clear n0_ n1_ n2_ n3_; clear hb hbox hg; have hcz5_0 : w4.cell? ⟨gb141, 0, none⟩ = some (.int .i32 a0_0) := (blk_cell BK141.out 0).trans rfl; have hcz5_1 : w4.cell? ⟨gb141, 1, none⟩ = some (.int .i32 a0_1) := (blk_cell BK141.out 1).trans rfl; have hcz5_2 : w4.cell? ⟨gb141, 2, none⟩ = some (.int .i32 a0_2) := (blk_cell BK141.out 2).trans rfl; have hcz5_3 : w4.cell? ⟨gb141, 3, none⟩ = some (.int .i32 a0_3) := (blk_cell BK141.out 3).trans rfl; have hfz5_0 := blk_frozen BK141.out 0; have hfz5_1 := blk_frozen BK141.out 1; have hfz5_2 := blk_frozen BK141.out 2; have hfz5_3 := blk_frozen BK141.out 3) | (go_at_call 14; (with_reducible refine (billiardref08_Empty.calls a0_0 a0_1 a0_2 a0_3 true _ A2.out).mono ?_); rintro e w6 ⟨rfl, hb⟩; have n0_ := Aside0.mk (blk_below (g := gb141) (o := .cells #[.int .i32 a0_0, .int .i32 a0_1, .int .i32 a0_2, .int .i32 a0_3] 25 (0, 0)) (by (with_reducible repeat (first | refine blk_drewN ?_ _ | refine blk_drew ?_ | refine blk_alloc ?_ _)); exact BK141.out) hb); have n1_ := Aside0.mk (below_step (by repeat (first | (with_reducible first | exact HB.out | apply below_alloc | apply pw_below_drewN | apply below_drew1 | refine below_set ?_ GE141.out) | exact HB.out)) hb); clear BK141; clear HB; have BK141 := n0_; have HB := n1_; clear n0_ n1_; (try clear hb); (try clear hb2); (try clear hk); (try clear hi))))
    go_ret
    exact ⟨by first | rfl | (simp [errW_none, errW_some] <;> rfl) | (simp [*, errW_none, errW_some] <;> rfl), by repeat (first | (with_reducible first | exact HB.out | apply below_alloc | apply pw_below_drewN | apply below_drew1 | refine below_set ?_ GE141.out) | exact HB.out)⟩
  · replace c3 := Bool.eq_false_iff.mpr c3
    subst c3
    have H1 : ((billiardref09_Column.f a0_2).bind fun t143 => ((billiardref09_Column.f a0_0).bind fun t144 => ((billiardref09_Column.f a0_3).bind fun t145 => ((billiardref09_Column.f a0_1).bind fun t146 => (some (wrap64 ((wrap64 ((wrap64 ((wrap64 (t143)) - (wrap64 (t144)))) + 1)) * (wrap64 ((wrap64 ((wrap64 (t145)) - (wrap64 (t146)))) + 1))))))))) = some r := by rw [if_neg (show ¬ (false = true) by decide)] at H; exact H
    clear H
    have H := H1
    clear H1
    replace H := Option.bind_eq_some_iff.mp H
    obtain ⟨t143, A70, H⟩ := H
    replace H : ((billiardref09_Column.f a0_0).bind fun t144 => ((billiardref09_Column.f a0_3).bind fun t145 => ((billiardref09_Column.f a0_1).bind fun t146 => (some (wrap64 ((wrap64 ((wrap64 ((wrap64 (t143)) - (wrap64 (t144)))) + 1)) * (wrap64 ((wrap64 ((wrap64 (t145)) - (wrap64 (t146)))) + 1)))))))) = some r := H
    have A7 := Aside0.mk A70
    clear A70
    replace H := Option.bind_eq_some_iff.mp H
    obtain ⟨t144, A80, H⟩ := H
    replace H : ((billiardref09_Column.f a0_3).bind fun t145 => ((billiardref09_Column.f a0_1).bind fun t146 => (some (wrap64 ((wrap64 ((wrap64 ((wrap64 (t143)) - (wrap64 (t144)))) + 1)) * (wrap64 ((wrap64 ((wrap64 (t145)) - (wrap64 (t146)))) + 1))))))) = some r := H
    have A8 := Aside0.mk A80
    clear A80
    replace H := Option.bind_eq_some_iff.mp H
    obtain ⟨t145, A90, H⟩ := H
    replace H : ((billiardref09_Column.f a0_1).bind fun t146 => (some (wrap64 ((wrap64 ((wrap64 ((wrap64 (t143)) - (wrap64 (t144)))) + 1)) * (wrap64 ((wrap64 ((wrap64 (t145)) - (wrap64 (t146)))) + 1)))))) = some r := H
    have A9 := Aside0.mk A90
    clear A90
    replace H := Option.bind_eq_some_iff.mp H
    obtain ⟨t146, A100, H⟩ := H
    replace H : (some (wrap64 ((wrap64 ((wrap64 ((wrap64 (t143)) - (wrap64 (t144)))) + 1)) * (wrap64 ((wrap64 ((wrap64 (t145)) - (wrap64 (t146)))) + 1))))) = some r := H
    have A10 := Aside0.mk A100
    clear A100
    obtain rfl := Option.some.inj H
    go_enter Tryd.func16, Tryd.ntmps16
    go_wp2_with (first | ((with_reducible refine gate_dst (N := 1) rfl ?_); refine box_event ?hg (N := 1) ?hd (cs := #[.int .i32 a0_0, .int .i32 a0_1, .int .i32 a0_2, .int .i32 a0_3]) (t := 25) ?hr ?_; (case hd => rfl); (case hg => rfl); (case hr => first | (go_simp; done) | (go_simp; rfl)); intro gb141 hg w11 hbox hb; have n0_ := Aside0.mk (below_step (by repeat (first | (with_reducible first | exact HB.out | apply below_alloc | apply pw_below_drewN | apply below_drew1) | exact HB.out)) hb); have n1_ := Aside0.mk (hbox); have n2_ := Aside0.mk ((by rw [hg]; exact (below_size (by repeat (first | (with_reducible first | exact HB.out | apply below_alloc | apply pw_below_drewN | apply below_drew1) | exact HB.out))) : w.heap.size ≤ gb141)); have n3_ := Aside0.mk ((by rw [hg]; exact (below_size (by repeat (first | (with_reducible first | exact HB.out | apply below_alloc | apply pw_below_drewN | apply below_drew1) | exact HB.out))) : w.heap.size ≤ gb141)); clear HB; have HB := n0_; have BK141 := n1_; have GW141 := n2_; have GE141 := n3_; clear n0_ n1_ n2_ n3_; clear hb hbox hg; have hcz12_0 : w11.cell? ⟨gb141, 0, none⟩ = some (.int .i32 a0_0) := (blk_cell BK141.out 0).trans rfl; have hcz12_1 : w11.cell? ⟨gb141, 1, none⟩ = some (.int .i32 a0_1) := (blk_cell BK141.out 1).trans rfl; have hcz12_2 : w11.cell? ⟨gb141, 2, none⟩ = some (.int .i32 a0_2) := (blk_cell BK141.out 2).trans rfl; have hcz12_3 : w11.cell? ⟨gb141, 3, none⟩ = some (.int .i32 a0_3) := (blk_cell BK141.out 3).trans rfl; have hfz12_0 := blk_frozen BK141.out 0; have hfz12_1 := blk_frozen BK141.out 1; have hfz12_2 := blk_frozen BK141.out 2; have hfz12_3 := blk_frozen BK141.out 3) | (go_at_call 14; (with_reducible refine (billiardref08_Empty.calls a0_0 a0_1 a0_2 a0_3 false _ A2.out).mono ?_); rintro e w13 ⟨rfl, hb⟩; have n0_ := Aside0.mk (blk_below (g := gb141) (o := .cells #[.int .i32 a0_0, .int .i32 a0_1, .int .i32 a0_2, .int .i32 a0_3] 25 (0, 0)) (by (with_reducible repeat (first | refine blk_drewN ?_ _ | refine blk_drew ?_ | refine blk_alloc ?_ _)); exact BK141.out) hb); have n1_ := Aside0.mk (below_step (by repeat (first | (with_reducible first | exact HB.out | apply below_alloc | apply pw_below_drewN | apply below_drew1 | refine below_set ?_ GE141.out) | exact HB.out)) hb); clear BK141; clear HB; have BK141 := n0_; have HB := n1_; clear n0_ n1_; (try clear hb); (try clear hb2); (try clear hk); (try clear hi); have hcz14_0 : w13.cell? ⟨gb141, 0, none⟩ = some (.int .i32 a0_0) := (blk_cell BK141.out 0).trans rfl; have hcz14_1 : w13.cell? ⟨gb141, 1, none⟩ = some (.int .i32 a0_1) := (blk_cell BK141.out 1).trans rfl; have hcz14_2 : w13.cell? ⟨gb141, 2, none⟩ = some (.int .i32 a0_2) := (blk_cell BK141.out 2).trans rfl; have hcz14_3 : w13.cell? ⟨gb141, 3, none⟩ = some (.int .i32 a0_3) := (blk_cell BK141.out 3).trans rfl; have hfz14_0 := blk_frozen BK141.out 0; have hfz14_1 := blk_frozen BK141.out 1; have hfz14_2 := blk_frozen BK141.out 2; have hfz14_3 := blk_frozen BK141.out 3) | (go_at_call 15; (with_reducible refine (billiardref09_Column.calls a0_2 t143 _ A7.out).mono ?_); rintro e w' ⟨rfl, ⟨nd, rfl⟩⟩; (try first | exact ⟨rfl, _, World.drewN_drewN _ _ _⟩ | exact ⟨rfl, _, Eq.trans (World.drewN_drewN _ _ _) (congrArg (World.drewN _) (Nat.add_assoc _ _ _))⟩)) | (go_at_call 15; (with_reducible refine (billiardref09_Column.calls a0_0 t144 _ A8.out).mono ?_); rintro e w' ⟨rfl, ⟨nd, rfl⟩⟩; (try first | exact ⟨rfl, _, World.drewN_drewN _ _ _⟩ | exact ⟨rfl, _, Eq.trans (World.drewN_drewN _ _ _) (congrArg (World.drewN _) (Nat.add_assoc _ _ _))⟩)) | (go_at_call 15; (with_reducible refine (billiardref09_Column.calls a0_3 t145 _ A9.out).mono ?_); rintro e w' ⟨rfl, ⟨nd, rfl⟩⟩; (try first | exact ⟨rfl, _, World.drewN_drewN _ _ _⟩ | exact ⟨rfl, _, Eq.trans (World.drewN_drewN _ _ _) (congrArg (World.drewN _) (Nat.add_assoc _ _ _))⟩)) | (go_at_call 15; (with_reducible refine (billiardref09_Column.calls a0_1 t146 _ A10.out).mono ?_); rintro e w' ⟨rfl, ⟨nd, rfl⟩⟩; (try first | exact ⟨rfl, _, World.drewN_drewN _ _ _⟩ | exact ⟨rfl, _, Eq.trans (World.drewN_drewN _ _ _) (congrArg (World.drewN _) (Nat.add_assoc _ _ _))⟩)))
    repeat (go_quiet (first | ((with_reducible refine gate_dst (N := 1) rfl ?_); refine box_event ?hg (N := 1) ?hd (cs := #[.int .i32 a0_0, .int .i32 a0_1, .int .i32 a0_2, .int .i32 a0_3]) (t := 25) ?hr ?_; (case hd => rfl); (case hg => rfl); (case hr => first | (go_simp; done) | (go_simp; rfl)); intro gb141 hg w11 hbox hb; have n0_ := Aside0.mk (below_step (by repeat (first | (with_reducible first | exact HB.out | apply below_alloc | apply pw_below_drewN | apply below_drew1) | exact HB.out)) hb); have n1_ := Aside0.mk (hbox); have n2_ := Aside0.mk ((by rw [hg]; exact (below_size (by repeat (first | (with_reducible first | exact HB.out | apply below_alloc | apply pw_below_drewN | apply below_drew1) | exact HB.out))) : w.heap.size ≤ gb141)); have n3_ := Aside0.mk ((by rw [hg]; exact (below_size (by repeat (first | (with_reducible first | exact HB.out | apply below_alloc | apply pw_below_drewN | apply below_drew1) | exact HB.out))) : w.heap.size ≤ gb141)); clear HB; have HB := n0_; have BK141 := n1_; have GW141 := n2_; have GE141 := n3_; clear n0_ n1_ n2_ n3_; clear hb hbox hg; have hcz12_0 : w11.cell? ⟨gb141, 0, none⟩ = some (.int .i32 a0_0) := (blk_cell BK141.out 0).trans rfl; have hcz12_1 : w11.cell? ⟨gb141, 1, none⟩ = some (.int .i32 a0_1) := (blk_cell BK141.out 1).trans rfl; have hcz12_2 : w11.cell? ⟨gb141, 2, none⟩ = some (.int .i32 a0_2) := (blk_cell BK141.out 2).trans rfl; have hcz12_3 : w11.cell? ⟨gb141, 3, none⟩ = some (.int .i32 a0_3) := (blk_cell BK141.out 3).trans rfl; have hfz12_0 := blk_frozen BK141.out 0; have hfz12_1 := blk_frozen BK141.out 1; have hfz12_2 := blk_frozen BK141.out 2; have hfz12_3 := blk_frozen BK141.out 3) | (go_at_call 14; (with_reducible refine (billiardref08_Empty.calls a0_0 a0_1 a0_2 a0_3 false _ A2.out).mono ?_); rintro e w13 ⟨rfl, hb⟩; have n0_ := Aside0.mk (blk_below (g := gb141) (o := .cells #[.int .i32 a0_0, .int .i32 a0_1, .int .i32 a0_2, .int .i32 a0_3] 25 (0, 0)) (by (with_reducible repeat (first | refine blk_drewN ?_ _ | refine blk_drew ?_ | refine blk_alloc ?_ _)); exact BK141.out) hb); have n1_ := Aside0.mk (below_step (by repeat (first | (with_reducible first | exact HB.out | apply below_alloc | apply pw_below_drewN | apply below_drew1 | refine below_set ?_ GE141.out) | exact HB.out)) hb); clear BK141; clear HB; have BK141 := n0_; have HB := n1_; clear n0_ n1_; (try clear hb); (try clear hb2); (try clear hk); (try clear hi); have hcz14_0 : w13.cell? ⟨gb141, 0, none⟩ = some (.int .i32 a0_0) := (blk_cell BK141.out 0).trans rfl; have hcz14_1 : w13.cell? ⟨gb141, 1, none⟩ = some (.int .i32 a0_1) := (blk_cell BK141.out 1).trans rfl; have hcz14_2 : w13.cell? ⟨gb141, 2, none⟩ = some (.int .i32 a0_2) := (blk_cell BK141.out 2).trans rfl; have hcz14_3 : w13.cell? ⟨gb141, 3, none⟩ = some (.int .i32 a0_3) := (blk_cell BK141.out 3).trans rfl; have hfz14_0 := blk_frozen BK141.out 0; have hfz14_1 := blk_frozen BK141.out 1; have hfz14_2 := blk_frozen BK141.out 2; have hfz14_3 := blk_frozen BK141.out 3) | (go_at_call 15; (with_reducible refine (billiardref09_Column.calls a0_2 t143 _ A7.out).mono ?_); rintro e w' ⟨rfl, ⟨nd, rfl⟩⟩; (try first | exact ⟨rfl, _, World.drewN_drewN _ _ _⟩ | exact ⟨rfl, _, Eq.trans (World.drewN_drewN _ _ _) (congrArg (World.drewN _) (Nat.add_assoc _ _ _))⟩)) | (go_at_call 15; (with_reducible refine (billiardref09_Column.calls a0_0 t144 _ A8.out).mono ?_); rintro e w' ⟨rfl, ⟨nd, rfl⟩⟩; (try first | exact ⟨rfl, _, World.drewN_drewN _ _ _⟩ | exact ⟨rfl, _, Eq.trans (World.drewN_drewN _ _ _) (congrArg (World.drewN _) (Nat.add_assoc _ _ _))⟩)) | (go_at_call 15; (with_reducible refine (billiardref09_Column.calls a0_3 t145 _ A9.out).mono ?_); rintro e w' ⟨rfl, ⟨nd, rfl⟩⟩; (try first | exact ⟨rfl, _, World.drewN_drewN _ _ _⟩ | exact ⟨rfl, _, Eq.trans (World.drewN_drewN _ _ _) (congrArg (World.drewN _) (Nat.add_assoc _ _ _))⟩)) | (go_at_call 15; (with_reducible refine (billiardref09_Column.calls a0_1 t146 _ A10.out).mono ?_); rintro e w' ⟨rfl, ⟨nd, rfl⟩⟩; (try first | exact ⟨rfl, _, World.drewN_drewN _ _ _⟩ | exact ⟨rfl, _, Eq.trans (World.drewN_drewN _ _ _) (congrArg (World.drewN _) (Nat.add_assoc _ _ _))⟩))); try go_wp2_with (first | ((with_reducible refine gate_dst (N := 1) rfl ?_); refine box_event ?hg (N := 1) ?hd (cs := #[.int .i32 a0_0, .int .i32 a0_1, .int .i32 a0_2, .int .i32 a0_3]) (t := 25) ?hr ?_; (case hd => rfl); (case hg => rfl); (case hr => first | (go_simp; done) | (go_simp; rfl)); intro gb141 hg w11 hbox hb; have n0_ := Aside0.mk (below_step (by repeat (first | (with_reducible first | exact HB.out | apply below_alloc | apply pw_below_drewN | apply below_drew1) | exact HB.out)) hb); have n1_ := Aside0.mk (hbox); have n2_ := Aside0.mk ((by rw [hg]; exact (below_size (by repeat (first | (with_reducible first | exact HB.out | apply below_alloc | apply pw_below_drewN | apply below_drew1) | exact HB.out))) : w.heap.size ≤ gb141)); have n3_ := Aside0.mk ((by rw [hg]; exact (below_size (by repeat (first | (with_reducible first | exact HB.out | apply below_alloc | apply pw_below_drewN | apply below_drew1) | exact HB.out))) : w.heap.size ≤ gb141)); clear HB; have HB := n0_; have BK141 := n1_; have GW141 := n2_; have GE141 := n3_; clear n0_ n1_ n2_ n3_; clear hb hbox hg; have hcz12_0 : w11.cell? ⟨gb141, 0, none⟩ = some (.int .i32 a0_0) := (blk_cell BK141.out 0).trans rfl; have hcz12_1 : w11.cell? ⟨gb141, 1, none⟩ = some (.int .i32 a0_1) := (blk_cell BK141.out 1).trans rfl; have hcz12_2 : w11.cell? ⟨gb141, 2, none⟩ = some (.int .i32 a0_2) := (blk_cell BK141.out 2).trans rfl; have hcz12_3 : w11.cell? ⟨gb141, 3, none⟩ = some (.int .i32 a0_3) := (blk_cell BK141.out 3).trans rfl; have hfz12_0 := blk_frozen BK141.out 0; have hfz12_1 := blk_frozen BK141.out 1; have hfz12_2 := blk_frozen BK141.out 2; have hfz12_3 := blk_frozen BK141.out 3) | (go_at_call 14; (with_reducible refine (billiardref08_Empty.calls a0_0 a0_1 a0_2 a0_3 false _ A2.out).mono ?_); rintro e w13 ⟨rfl, hb⟩; have n0_ := Aside0.mk (blk_below (g := gb141) (o := .cells #[.int .i32 a0_0, .int .i32 a0_1, .int .i32 a0_2, .int .i32 a0_3] 25 (0, 0)) (by (with_reducible repeat (first | refine blk_drewN ?_ _ | refine blk_drew ?_ | refine blk_alloc ?_ _)); exact BK141.out) hb); have n1_ := Aside0.mk (below_step (by repeat (first | (with_reducible first | exact HB.out | apply below_alloc | apply pw_below_drewN | apply below_drew1 | refine below_set ?_ GE141.out) | exact HB.out)) hb); clear BK141; clear HB; have BK141 := n0_; have HB := n1_; clear n0_ n1_; (try clear hb); (try clear hb2); (try clear hk); (try clear hi); have hcz14_0 : w13.cell? ⟨gb141, 0, none⟩ = some (.int .i32 a0_0) := (blk_cell BK141.out 0).trans rfl; have hcz14_1 : w13.cell? ⟨gb141, 1, none⟩ = some (.int .i32 a0_1) := (blk_cell BK141.out 1).trans rfl; have hcz14_2 : w13.cell? ⟨gb141, 2, none⟩ = some (.int .i32 a0_2) := (blk_cell BK141.out 2).trans rfl; have hcz14_3 : w13.cell? ⟨gb141, 3, none⟩ = some (.int .i32 a0_3) := (blk_cell BK141.out 3).trans rfl; have hfz14_0 := blk_frozen BK141.out 0; have hfz14_1 := blk_frozen BK141.out 1; have hfz14_2 := blk_frozen BK141.out 2; have hfz14_3 := blk_frozen BK141.out 3) | (go_at_call 15; (with_reducible refine (billiardref09_Column.calls a0_2 t143 _ A7.out).mono ?_); rintro e w' ⟨rfl, ⟨nd, rfl⟩⟩; (try first | exact ⟨rfl, _, World.drewN_drewN _ _ _⟩ | exact ⟨rfl, _, Eq.trans (World.drewN_drewN _ _ _) (congrArg (World.drewN _) (Nat.add_assoc _ _ _))⟩)) | (go_at_call 15; (with_reducible refine (billiardref09_Column.calls a0_0 t144 _ A8.out).mono ?_); rintro e w' ⟨rfl, ⟨nd, rfl⟩⟩; (try first | exact ⟨rfl, _, World.drewN_drewN _ _ _⟩ | exact ⟨rfl, _, Eq.trans (World.drewN_drewN _ _ _) (congrArg (World.drewN _) (Nat.add_assoc _ _ _))⟩)) | (go_at_call 15; (with_reducible refine (billiardref09_Column.calls a0_3 t145 _ A9.out).mono ?_); rintro e w' ⟨rfl, ⟨nd, rfl⟩⟩; (try first | exact ⟨rfl, _, World.drewN_drewN _ _ _⟩ | exact ⟨rfl, _, Eq.trans (World.drewN_drewN _ _ _) (congrArg (World.drewN _) (Nat.add_assoc _ _ _))⟩)) | (go_at_call 15; (with_reducible refine (billiardref09_Column.calls a0_1 t146 _ A10.out).mono ?_); rintro e w' ⟨rfl, ⟨nd, rfl⟩⟩; (try first | exact ⟨rfl, _, World.drewN_drewN _ _ _⟩ | exact ⟨rfl, _, Eq.trans (World.drewN_drewN _ _ _) (congrArg (World.drewN _) (Nat.add_assoc _ _ _))⟩))))
    go_ret
    exact ⟨by first | rfl | (simp [errW_none, errW_some] <;> rfl) | (simp [*, errW_none, errW_some] <;> rfl), by repeat (first | (with_reducible first | exact HB.out | apply below_alloc | apply pw_below_drewN | apply below_drew1 | refine below_set ?_ GE141.out) | exact HB.out)⟩

/-! ### billiardref09_All: function 19 -/
mutual
def billiardref09_All.l0 : Nat → List (S26) → Int → Int → Int → Int → Int → Option ((List (S26)))
  | 0, _, _, _, _, _, _ => none
  | k + 1, x3, x4, x148000, x148001, x148002, x148003 => (billiardref09_Column.f x148003).bind fun t150 => (if x4 ≤ t150 then ((billiardref09_Column.f x148000).bind fun t151 => (billiardref09_All.l1 k x3 x4 t151 x148000 x148001 x148002 x148003)) else (some x3))
def billiardref09_All.l1 : Nat → List (S26) → Int → Int → Int → Int → Int → Int → Option ((List (S26)))
  | 0, _, _, _, _, _, _, _ => none
  | k + 1, x3, x4, x5, x148000, x148001, x148002, x148003 => (billiardref09_Column.f x148002).bind fun t152 => (if x5 ≤ t152 then (if x3.length < 17592186044416 then (billiardref09_All.l1 k (x3 ++ [(⟨x5, x4⟩ : S26)]) x4 (wrap32 (x5 + 1)) x148000 x148001 x148002 x148003) else (none)) else (billiardref09_All.l0 k x3 (wrap32 (x4 + 1)) x148000 x148001 x148002 x148003))
end
def billiardref09_All.f (k : Nat) (a0_0 : Int) (a0_1 : Int) (a0_2 : Int) (a0_3 : Int) : Option ((List (S26))) := (billiardref08_Empty.f a0_0 a0_1 a0_2 a0_3).bind fun t148 => (if t148 = true then (some ([] : List (S26))) else ((billiardref09_Column.f a0_1).bind fun t149 => (billiardref09_All.l0 k ([] : List (S26)) t149 a0_0 a0_1 a0_2 a0_3)))
theorem billiardref09_All.mono_l : ∀ k, (∀ y0 y1 y2 y3 y4 y5, LeO (billiardref09_All.l0 k y0 y1 y2 y3 y4 y5) (billiardref09_All.l0 (k + 1) y0 y1 y2 y3 y4 y5)) ∧ (∀ y0 y1 y2 y3 y4 y5 y6, LeO (billiardref09_All.l1 k y0 y1 y2 y3 y4 y5 y6) (billiardref09_All.l1 (k + 1) y0 y1 y2 y3 y4 y5 y6))
  | 0 => ⟨fun _ _ _ _ _ _ r h => by simp [billiardref09_All.l0] at h, fun _ _ _ _ _ _ _ r h => by simp [billiardref09_All.l1] at h⟩
  | k + 1 => by
    obtain ⟨ih0, ih1⟩ := billiardref09_All.mono_l k
    refine ⟨?_, ?_⟩
    · intro y0 y1 y2 y3 y4 y5
      unfold billiardref09_All.l0
      repeat' first
      | (with_reducible exact ih0 _ _ _ _ _ _)
      | (with_reducible exact ih1 _ _ _ _ _ _ _)
      | (with_reducible exact LeO.refl _)
      | (with_reducible exact LeO.none _)
      | (with_reducible refine LeO.ite ?_ ?_)
      | (with_reducible refine LeO.bind ?_ (fun _ => ?_))
      | exact ih0 _ _ _ _ _ _
      | exact ih1 _ _ _ _ _ _ _
      | exact LeO.none _
      | refine LeO.ite ?_ ?_
      | refine LeO.bind ?_ (fun _ => ?_)
    · intro y0 y1 y2 y3 y4 y5 y6
      unfold billiardref09_All.l1
      repeat' first
      | (with_reducible exact ih0 _ _ _ _ _ _)
      | (with_reducible exact ih1 _ _ _ _ _ _ _)
      | (with_reducible exact LeO.refl _)
      | (with_reducible exact LeO.none _)
      | (with_reducible refine LeO.ite ?_ ?_)
      | (with_reducible refine LeO.bind ?_ (fun _ => ?_))
      | exact ih0 _ _ _ _ _ _
      | exact ih1 _ _ _ _ _ _ _
      | exact LeO.none _
      | refine LeO.ite ?_ ?_
      | refine LeO.bind ?_ (fun _ => ?_)
theorem billiardref09_All.mono : ∀ a0 a1 a2 a3 k, LeO (billiardref09_All.f k a0 a1 a2 a3) (billiardref09_All.f (k + 1) a0 a1 a2 a3) := by
  intro a0 a1 a2 a3 k
  obtain ⟨ih0, ih1⟩ := billiardref09_All.mono_l k
  unfold billiardref09_All.f
  repeat' first
      | (with_reducible exact ih0 _ _ _ _ _ _)
      | (with_reducible exact ih1 _ _ _ _ _ _ _)
      | (with_reducible exact LeO.refl _)
      | (with_reducible exact LeO.none _)
      | (with_reducible refine LeO.ite ?_ ?_)
      | (with_reducible refine LeO.bind ?_ (fun _ => ?_))
      | exact ih0 _ _ _ _ _ _
      | exact ih1 _ _ _ _ _ _ _
      | exact LeO.none _
      | refine LeO.ite ?_ ?_
      | refine LeO.bind ?_ (fun _ => ?_)
set_option maxHeartbeats 8000000 in
set_option maxRecDepth 100000 in
theorem billiardref09_All.calls (k : Nat) (a0_0 : Int) (a0_1 : Int) (a0_2 : Int) (a0_3 : Int) (r : List (S26)) (w : World) (h : billiardref09_All.f k a0_0 a0_1 a0_2 a0_3 = some r) :
    Calls Tryd.prog 19 #[.agg #[.int .i32 a0_0, .int .i32 a0_1, .int .i32 a0_2, .int .i32 a0_3]] w fun e w' => ∃ v0_ : Value, e = .returned (v0_) ∧ Kd.R k26 26 w' w.heap.size (fun _ => True) v0_ r ∧ Below w.heap.size w w' := by
  have hu25 := Tryd.underlying25
  have hu26 := Tryd.underlying26
  have HB := Aside0.mk (Below.refl w.heap.size w)
  have H : ((billiardref08_Empty.f a0_0 a0_1 a0_2 a0_3).bind fun t148 => (if t148 = true then (some ([] : List (S26))) else ((billiardref09_Column.f a0_1).bind fun t149 => (billiardref09_All.l0 k ([] : List (S26)) t149 a0_0 a0_1 a0_2 a0_3)))) = some r := h
  clear h
  replace H := Option.bind_eq_some_iff.mp H
  obtain ⟨t148, A20, H⟩ := H
  replace H : (if t148 = true then (some ([] : List (S26))) else ((billiardref09_Column.f a0_1).bind fun t149 => (billiardref09_All.l0 k ([] : List (S26)) t149 a0_0 a0_1 a0_2 a0_3))) = some r := H
  have A2 := Aside0.mk A20
  clear A20
  by_cases c3 : t148 = true
  · subst c3
    have H1 : (some ([] : List (S26))) = some r := by rw [if_pos rfl] at H; exact H
    clear H
    have H := H1
    clear H1
    obtain rfl := Option.some.inj H
    go_enter Tryd.func19, Tryd.ntmps19
    go_wp2_with (first | ((with_reducible refine gate_dst (N := 1) rfl ?_); refine box_event ?hg (N := 1) ?hd (cs := #[.int .i32 a0_0, .int .i32 a0_1, .int .i32 a0_2, .int .i32 a0_3]) (t := 25) ?hr ?_; (case hd => rfl); (case hg => rfl); (case hr => first | (go_simp; done) | (go_simp; rfl)); intro gb147 hg w4 hbox hb; have n0_ := Aside0.mk (below_step (by repeat (first | (with_reducible first | exact HB.out | apply below_alloc | apply pw_below_drewN | apply below_drew1) | exact HB.out)) hb); have n1_ := Aside0.mk (hbox); have n2_ := Aside0.mk ((by rw [hg]; exact (below_size (by repeat (first | (with_reducible first | exact HB.out | apply below_alloc | apply pw_below_drewN | apply below_drew1) | exact HB.out))) : w.heap.size ≤ gb147)); have n3_ := Aside0.mk ((by rw [hg]; exact (below_size (by repeat (first | (with_reducible first | exact HB.out | apply below_alloc | apply pw_below_drewN | apply below_drew1) | exact HB.out))) : w.heap.size ≤ gb147)); clear HB; have HB := n0_; have BK147 := n1_; have GW147 := n2_; have GE147 := n3_; clear n0_ n1_ n2_ n3_; clear hb hbox hg; have hcz5_0 : w4.cell? ⟨gb147, 0, none⟩ = some (.int .i32 a0_0) := (blk_cell BK147.out 0).trans rfl; have hcz5_1 : w4.cell? ⟨gb147, 1, none⟩ = some (.int .i32 a0_1) := (blk_cell BK147.out 1).trans rfl; have hcz5_2 : w4.cell? ⟨gb147, 2, none⟩ = some (.int .i32 a0_2) := (blk_cell BK147.out 2).trans rfl; have hcz5_3 : w4.cell? ⟨gb147, 3, none⟩ = some (.int .i32 a0_3) := (blk_cell BK147.out 3).trans rfl; have hfz5_0 := blk_frozen BK147.out 0; have hfz5_1 := blk_frozen BK147.out 1; have hfz5_2 := blk_frozen BK147.out 2; have hfz5_3 := blk_frozen BK147.out 3) | ((with_reducible refine gate_callee (f := 14) rfl ?_); refine goesL_ (some 7) rfl rfl Tryd.func14 (by kernel_rfl) rfl #[.agg #[.int .i32 a0_0, .int .i32 a0_1, .int .i32 a0_2, .int .i32 a0_3]] rfl (by (try simp only [List.map_toArray, List.map_cons, List.map_nil]); first | done | rfl | (simp only [List.length_drop, List.length_take]; rfl)) ?_; (with_reducible refine (billiardref08_Empty.calls a0_0 a0_1 a0_2 a0_3 true _ A2.out).mono ?_); rintro e w6 ⟨rfl, hb⟩; refine ⟨_, rfl, ?_⟩; have n0_ := Aside0.mk (blk_below (g := gb147) (o := .cells #[.int .i32 a0_0, .int .i32 a0_1, .int .i32 a0_2, .int .i32 a0_3] 25 (0, 0)) (by (with_reducible repeat (first | refine blk_drewN ?_ _ | refine blk_drew ?_ | refine blk_alloc ?_ _)); exact BK147.out) hb); have n1_ := Aside0.mk (below_step (by repeat (first | (with_reducible first | exact HB.out | apply below_alloc | apply pw_below_drewN | apply below_drew1 | refine below_set ?_ GE147.out) | exact HB.out)) hb); clear BK147; clear HB; have BK147 := n0_; have HB := n1_; clear n0_ n1_; (try clear hb); (try clear hb2); (try clear hk); (try clear hi)))
    go_ret
    exact ⟨_, by first | rfl | (simp [errW_none, errW_some] <;> rfl) | (simp [*, errW_none, errW_some] <;> rfl), by first | exact Kd.R_nil _ _ _ _ _ | exact Kd.N_nil _ _ _ _ _ | exact Kd.V_nil _ _ _ _ _ | exact Kd.Q_nil _ _ _ _ _ | exact Kd.S_nil _ _ _ _ _, by repeat (first | (with_reducible first | exact HB.out | apply below_alloc | apply pw_below_drewN | apply below_drew1 | refine below_set ?_ GE147.out) | exact HB.out)⟩
  · replace c3 := Bool.eq_false_iff.mpr c3
    subst c3
    have H1 : ((billiardref09_Column.f a0_1).bind fun t149 => (billiardref09_All.l0 k ([] : List (S26)) t149 a0_0 a0_1 a0_2 a0_3)) = some r := by rw [if_neg (show ¬ (false = true) by decide)] at H; exact H
    clear H
    have H := H1
    clear H1
    replace H := Option.bind_eq_some_iff.mp H
    obtain ⟨t149, A70, H⟩ := H
    replace H : (billiardref09_All.l0 k ([] : List (S26)) t149 a0_0 a0_1 a0_2 a0_3) = some r := H
    have A7 := Aside0.mk A70
    clear A70
    have H' := Aside0.mk H
    clear H
    go_enter Tryd.func19, Tryd.ntmps19
    go_wp2_with (first | ((with_reducible refine gate_dst (N := 1) rfl ?_); refine box_event ?hg (N := 1) ?hd (cs := #[.int .i32 a0_0, .int .i32 a0_1, .int .i32 a0_2, .int .i32 a0_3]) (t := 25) ?hr ?_; (case hd => rfl); (case hg => rfl); (case hr => first | (go_simp; done) | (go_simp; rfl)); intro gb147 hg w8 hbox hb; have n0_ := Aside0.mk (below_step (by repeat (first | (with_reducible first | exact HB.out | apply below_alloc | apply pw_below_drewN | apply below_drew1) | exact HB.out)) hb); have n1_ := Aside0.mk (hbox); have n2_ := Aside0.mk ((by rw [hg]; exact (below_size (by repeat (first | (with_reducible first | exact HB.out | apply below_alloc | apply pw_below_drewN | apply below_drew1) | exact HB.out))) : w.heap.size ≤ gb147)); have n3_ := Aside0.mk ((by rw [hg]; exact (below_size (by repeat (first | (with_reducible first | exact HB.out | apply below_alloc | apply pw_below_drewN | apply below_drew1) | exact HB.out))) : w.heap.size ≤ gb147)); clear HB; have HB := n0_; have BK147 := n1_; have GW147 := n2_; have GE147 := n3_; clear n0_ n1_ n2_ n3_; clear hb hbox hg; have hcz9_0 : w8.cell? ⟨gb147, 0, none⟩ = some (.int .i32 a0_0) := (blk_cell BK147.out 0).trans rfl; have hcz9_1 : w8.cell? ⟨gb147, 1, none⟩ = some (.int .i32 a0_1) := (blk_cell BK147.out 1).trans rfl; have hcz9_2 : w8.cell? ⟨gb147, 2, none⟩ = some (.int .i32 a0_2) := (blk_cell BK147.out 2).trans rfl; have hcz9_3 : w8.cell? ⟨gb147, 3, none⟩ = some (.int .i32 a0_3) := (blk_cell BK147.out 3).trans rfl; have hfz9_0 := blk_frozen BK147.out 0; have hfz9_1 := blk_frozen BK147.out 1; have hfz9_2 := blk_frozen BK147.out 2; have hfz9_3 := blk_frozen BK147.out 3) | ((with_reducible refine gate_callee (f := 14) rfl ?_); refine goesL_ (some 7) rfl rfl Tryd.func14 (by kernel_rfl) rfl #[.agg #[.int .i32 a0_0, .int .i32 a0_1, .int .i32 a0_2, .int .i32 a0_3]] rfl (by (try simp only [List.map_toArray, List.map_cons, List.map_nil]); first | done | rfl | (simp only [List.length_drop, List.length_take]; rfl)) ?_; (with_reducible refine (billiardref08_Empty.calls a0_0 a0_1 a0_2 a0_3 false _ A2.out).mono ?_); rintro e w10 ⟨rfl, hb⟩; refine ⟨_, rfl, ?_⟩; have n0_ := Aside0.mk (blk_below (g := gb147) (o := .cells #[.int .i32 a0_0, .int .i32 a0_1, .int .i32 a0_2, .int .i32 a0_3] 25 (0, 0)) (by (with_reducible repeat (first | refine blk_drewN ?_ _ | refine blk_drew ?_ | refine blk_alloc ?_ _)); exact BK147.out) hb); have n1_ := Aside0.mk (below_step (by repeat (first | (with_reducible first | exact HB.out | apply below_alloc | apply pw_below_drewN | apply below_drew1 | refine below_set ?_ GE147.out) | exact HB.out)) hb); clear BK147; clear HB; have BK147 := n0_; have HB := n1_; clear n0_ n1_; (try clear hb); (try clear hb2); (try clear hk); (try clear hi); have hcz11_0 : w10.cell? ⟨gb147, 0, none⟩ = some (.int .i32 a0_0) := (blk_cell BK147.out 0).trans rfl; have hcz11_1 : w10.cell? ⟨gb147, 1, none⟩ = some (.int .i32 a0_1) := (blk_cell BK147.out 1).trans rfl; have hcz11_2 : w10.cell? ⟨gb147, 2, none⟩ = some (.int .i32 a0_2) := (blk_cell BK147.out 2).trans rfl; have hcz11_3 : w10.cell? ⟨gb147, 3, none⟩ = some (.int .i32 a0_3) := (blk_cell BK147.out 3).trans rfl; have hfz11_0 := blk_frozen BK147.out 0; have hfz11_1 := blk_frozen BK147.out 1; have hfz11_2 := blk_frozen BK147.out 2; have hfz11_3 := blk_frozen BK147.out 3) | ((with_reducible refine gate_callee (f := 15) rfl ?_); refine goesL_ (some 10) rfl rfl Tryd.func15 (by kernel_rfl) rfl #[.int .i32 a0_1] rfl (by (try simp only [List.map_toArray, List.map_cons, List.map_nil]); first | done | rfl | (simp only [List.length_drop, List.length_take]; rfl)) ?_; (with_reducible refine (billiardref09_Column.calls a0_1 t149 _ A7.out).mono ?_); rintro e w' ⟨rfl, ⟨nd, rfl⟩⟩; refine ⟨_, rfl, ?_⟩))
    go_loopg [3, 4] k (fun kq v3 v4 w' => ∃ (x3_1 : List (S26)) (x4_1 : Int), v4 = .int .i32 x4_1 ∧ Aside0 (billiardref09_All.l0 kq x3_1 x4_1 a0_0 a0_1 a0_2 a0_3 = some r) ∧ Aside0 (kq ≤ k) ∧ Aside0 (Kd.R k26 26 w' w.heap.size (fun _ => True) v3 x3_1) ∧ Aside0 (w'.heap[gb147]? = some (.cells #[.int .i32 a0_0, .int .i32 a0_1, .int .i32 a0_2, .int .i32 a0_3] 25 (0, 0))) ∧ Aside0 (Below w.heap.size w w'))
    case atStart => exact ⟨(([] : List (S26))), (t149), (by first | rfl | (simp; done) | (simp [*]; done)), H', ⟨Nat.le_refl _⟩, ⟨by first | exact Kd.R_nil _ _ _ _ _ | exact Kd.N_nil _ _ _ _ _ | exact Kd.V_nil _ _ _ _ _ | exact Kd.Q_nil _ _ _ _ _ | exact Kd.S_nil _ _ _ _ _⟩, ⟨by (with_reducible repeat (first | refine blk_drewN ?_ _ | refine blk_drew ?_ | refine blk_alloc ?_ _)); exact BK147.out⟩, ⟨by repeat (first | (with_reducible first | exact HB.out | apply below_alloc | apply pw_below_drewN | apply below_drew1 | refine below_set ?_ GE147.out) | exact HB.out)⟩⟩
    case round =>
      clear H'
      try clear c1
      try clear p2
      try clear c3
      try clear hcz11_0
      try clear hcz11_1
      try clear hcz11_2
      try clear hcz11_3
      try clear hcz5_0
      try clear hcz5_1
      try clear hcz5_2
      try clear hcz5_3
      try clear hcz9_0
      try clear hcz9_1
      try clear hcz9_2
      try clear hcz9_3
      try clear hfz11_0
      try clear hfz11_1
      try clear hfz11_2
      try clear hfz11_3
      try clear hfz5_0
      try clear hfz5_1
      try clear hfz5_2
      try clear hfz5_3
      try clear hfz9_0
      try clear hfz9_1
      try clear hfz9_2
      try clear hfz9_3
      obtain ⟨x3_1, x4_1, rfl, HA, HK1, HO_3, BK147, HB⟩ := hrel
      cases gk with
      | zero => exact absurd HA.out (by simp [billiardref09_All.l0])
      | succ k1 =>
        have H := HA.out
        clear HA
        simp only [billiardref09_All.l0] at H
        replace H := Option.bind_eq_some_iff.mp H
        obtain ⟨t150, A120, H⟩ := H
        replace H : (if x4_1 ≤ t150 then ((billiardref09_Column.f a0_0).bind fun t151 => (billiardref09_All.l1 k1 x3_1 x4_1 t151 a0_0 a0_1 a0_2 a0_3)) else (some x3_1)) = some r := H
        have A12 := Aside0.mk A120
        clear A120
        by_cases c13 : x4_1 ≤ t150
        · rw [if_pos c13] at H
          have c13b0 : decide (x4_1 ≤ t150) = true := decide_eq_true c13
          clear c13
          replace H := Option.bind_eq_some_iff.mp H
          obtain ⟨t151, A140, H⟩ := H
          replace H : (billiardref09_All.l1 k1 x3_1 x4_1 t151 a0_0 a0_1 a0_2 a0_3) = some r := H
          have A14 := Aside0.mk A140
          clear A140
          have H' := Aside0.mk H
          clear H
          have hcz15_0 : wr.cell? ⟨gb147, 0, none⟩ = some (.int .i32 a0_0) := (blk_cell BK147.out 0).trans rfl
          have hcz15_1 : wr.cell? ⟨gb147, 1, none⟩ = some (.int .i32 a0_1) := (blk_cell BK147.out 1).trans rfl
          have hcz15_2 : wr.cell? ⟨gb147, 2, none⟩ = some (.int .i32 a0_2) := (blk_cell BK147.out 2).trans rfl
          have hcz15_3 : wr.cell? ⟨gb147, 3, none⟩ = some (.int .i32 a0_3) := (blk_cell BK147.out 3).trans rfl
          have hfz15_0 := blk_frozen BK147.out 0
          have hfz15_1 := blk_frozen BK147.out 1
          have hfz15_2 := blk_frozen BK147.out 2
          have hfz15_3 := blk_frozen BK147.out 3
          go_wp2_with (first | ((with_reducible refine gate_callee (f := 15) rfl ?_); refine goesL_ (some 14) rfl rfl Tryd.func15 (by kernel_rfl) rfl #[.int .i32 a0_3] rfl (by (try simp only [List.map_toArray, List.map_cons, List.map_nil]); first | done | rfl | (simp only [List.length_drop, List.length_take]; rfl)) ?_; (with_reducible refine (billiardref09_Column.calls a0_3 t150 _ A12.out).mono ?_); rintro e w' ⟨rfl, ⟨nd, rfl⟩⟩; refine ⟨_, rfl, ?_⟩) | ((with_reducible refine gate_callee (f := 15) rfl ?_); refine goesL_ (some 20) rfl rfl Tryd.func15 (by kernel_rfl) rfl #[.int .i32 a0_0] rfl (by (try simp only [List.map_toArray, List.map_cons, List.map_nil]); first | done | rfl | (simp only [List.length_drop, List.length_take]; rfl)) ?_; (with_reducible refine (billiardref09_Column.calls a0_0 t151 _ A14.out).mono ?_); rintro e w' ⟨rfl, ⟨nd, rfl⟩⟩; refine ⟨_, rfl, ?_⟩))
          go_loopg [3, 5] k1 (fun kq v3 v5 w' => ∃ (x3_2 : List (S26)) (x5_2 : Int), v5 = .int .i32 x5_2 ∧ Aside0 (billiardref09_All.l1 kq x3_2 x4_1 x5_2 a0_0 a0_1 a0_2 a0_3 = some r) ∧ Aside0 (kq ≤ k1) ∧ Aside0 (Kd.R k26 26 w' w.heap.size (fun _ => True) v3 x3_2) ∧ Aside0 (w'.heap[gb147]? = some (.cells #[.int .i32 a0_0, .int .i32 a0_1, .int .i32 a0_2, .int .i32 a0_3] 25 (0, 0))) ∧ Aside0 (Below w.heap.size w w'))
          case atStart => exact ⟨(x3_1), (t151), (by first | rfl | (simp; done) | (simp [*]; done)), H', ⟨Nat.le_refl _⟩, ⟨by (with_reducible repeat (first | apply Kd.R_alloc | apply Kd.R_drewN | apply Kd.R_drew)); exact HO_3.out⟩, ⟨by (with_reducible repeat (first | refine blk_drewN ?_ _ | refine blk_drew ?_ | refine blk_alloc ?_ _)); exact BK147.out⟩, ⟨by repeat (first | (with_reducible first | exact HB.out | apply below_alloc | apply pw_below_drewN | apply below_drew1 | refine below_set ?_ GE147.out) | exact HB.out)⟩⟩
          case round =>
            clear H'
            try clear c1
            try clear p2
            try clear c3
            try clear c13
            try clear c13b0
            try clear c14
            try clear c15
            try clear hcz11_0
            try clear hcz11_1
            try clear hcz11_2
            try clear hcz11_3
            try clear hcz15_0
            try clear hcz15_1
            try clear hcz15_2
            try clear hcz15_3
            try clear hcz5_0
            try clear hcz5_1
            try clear hcz5_2
            try clear hcz5_3
            try clear hcz9_0
            try clear hcz9_1
            try clear hcz9_2
            try clear hcz9_3
            try clear hfz11_0
            try clear hfz11_1
            try clear hfz11_2
            try clear hfz11_3
            try clear hfz15_0
            try clear hfz15_1
            try clear hfz15_2
            try clear hfz15_3
            try clear hfz5_0
            try clear hfz5_1
            try clear hfz5_2
            try clear hfz5_3
            try clear hfz9_0
            try clear hfz9_1
            try clear hfz9_2
            try clear hfz9_3
            try clear p2
            obtain ⟨x3_2, x5_2, rfl, HA, HK2, HO_3, BK147, HB⟩ := hrel
            cases gk with
            | zero => exact absurd HA.out (by simp [billiardref09_All.l1])
            | succ k2 =>
              have H := HA.out
              clear HA
              simp only [billiardref09_All.l1] at H
              replace H := Option.bind_eq_some_iff.mp H
              obtain ⟨t152, A160, H⟩ := H
              replace H : (if x5_2 ≤ t152 then (if x3_2.length < 17592186044416 then (billiardref09_All.l1 k2 (x3_2 ++ [(⟨x5_2, x4_1⟩ : S26)]) x4_1 (wrap32 (x5_2 + 1)) a0_0 a0_1 a0_2 a0_3) else (none)) else (billiardref09_All.l0 k2 x3_2 (wrap32 (x4_1 + 1)) a0_0 a0_1 a0_2 a0_3)) = some r := H
              have A16 := Aside0.mk A160
              clear A160
              by_cases c17 : x5_2 ≤ t152
              · rw [if_pos c17] at H
                have c17b0 : decide (x5_2 ≤ t152) = true := decide_eq_true c17
                clear c17
                by_cases c18 : x3_2.length < 17592186044416
                · rw [if_pos c18] at H
                  have LMc18 := Aside0.mk c18
                  clear c18
                  obtain ⟨y153, hy153⟩ : ∃ y_ : List (S26), y_ = (x3_2 ++ [(⟨x5_2, x4_1⟩ : S26)]) := ⟨_, rfl⟩
                  replace H : (billiardref09_All.l1 k2 y153 x4_1 (wrap32 (x5_2 + 1)) a0_0 a0_1 a0_2 a0_3) = some r := by first | (rw [hy153]; with_reducible exact H) | (have H2_ := (Option.bind_some _ _).symm.trans H; rw [hy153]; with_reducible exact H2_) | (have H2_ := (Option.bind_some _ _).symm.trans H; with_reducible exact H2_) | with_reducible exact H | (rw [hy153]; exact H) | exact H
                  have Ny153 := Aside0.mk hy153
                  clear hy153
                  have H' := Aside0.mk H
                  clear H
                  have hcz19_0 : wr.cell? ⟨gb147, 0, none⟩ = some (.int .i32 a0_0) := (blk_cell BK147.out 0).trans rfl
                  have hcz19_1 : wr.cell? ⟨gb147, 1, none⟩ = some (.int .i32 a0_1) := (blk_cell BK147.out 1).trans rfl
                  have hcz19_2 : wr.cell? ⟨gb147, 2, none⟩ = some (.int .i32 a0_2) := (blk_cell BK147.out 2).trans rfl
                  have hcz19_3 : wr.cell? ⟨gb147, 3, none⟩ = some (.int .i32 a0_3) := (blk_cell BK147.out 3).trans rfl
                  have hfz19_0 := blk_frozen BK147.out 0
                  have hfz19_1 := blk_frozen BK147.out 1
                  have hfz19_2 := blk_frozen BK147.out 2
                  have hfz19_3 := blk_frozen BK147.out 3
                  go_wp2_with (first | ((with_reducible refine gate_callee (f := 15) rfl ?_); refine goesL_ (some 24) rfl rfl Tryd.func15 (by kernel_rfl) rfl #[.int .i32 a0_2] rfl (by (try simp only [List.map_toArray, List.map_cons, List.map_nil]); first | done | rfl | (simp only [List.length_drop, List.length_take]; rfl)) ?_; (with_reducible refine (billiardref09_Column.calls a0_2 t152 _ A16.out).mono ?_); rintro e w' ⟨rfl, ⟨nd, rfl⟩⟩; refine ⟨_, rfl, ?_⟩) | ((with_reducible refine gate_builtin (b := .append) (xs := #[.tmp 28, .tmp 32]) rfl ?_); at_builtin; refine Kd.R_append k26 (w0 := w) w.heap.size rfl (.tmp 28) (.tmp 32) 42 26 (.agg #[(.int .i32 0), (.int .i32 0)]) 8 rfl Tryd.underlying42 info26 rfl (by decide) (by omega) u3 x3_2 (⟨x5_2, x4_1⟩ : S26) [.int .i32 x5_2, .int .i32 x4_1] (fun _ => True) (fun _ => False) rfl rfl ?aP (fun _ hk => hk.elim) ?aF ?aO ?aB ?aS ?aL ?_; (case aP => exact k26_mkM _ _ _ (⟨x5_2, x4_1⟩ : S26)); (case aB => exact (by repeat (first | (with_reducible first | exact HB.out | apply below_alloc | apply pw_below_drewN | apply below_drew1 | refine below_set ?_ GE147.out) | exact HB.out))); (case aF => exact (fun _ _ => trivial)); (case aO => exact (by (with_reducible repeat (first | apply Kd.R_alloc | apply Kd.R_drewN | apply Kd.R_drew)); exact HO_3.out)); (case aS => exact (below_size (by repeat (first | (with_reducible first | exact HB.out | apply below_alloc | apply pw_below_drewN | apply below_drew1 | refine below_set ?_ GE147.out) | exact HB.out)))); (case aL => have := LMc18.out; omega); intro v154 w20 ho hb hg hat; rw [← Ny153.out] at ho; have n0_ := Aside0.mk (blk_grown (g := gb147) (o := .cells #[.int .i32 a0_0, .int .i32 a0_1, .int .i32 a0_2, .int .i32 a0_3] 25 (0, 0)) (by (with_reducible repeat (first | refine blk_drewN ?_ _ | refine blk_drew ?_ | refine blk_alloc ?_ _)); exact BK147.out) hg (Kd.R_ne HO_3.out BK147.out (by decide))); have n1_ := Aside0.mk (hb); have n2_ := Aside0.mk (ho); clear BK147; clear HB; clear HO_3; have BK147 := n0_; have HB := n1_; have HO155 := n2_; clear n0_ n1_ n2_; clear ho hb hg hat))
                  go_roundg k2
                  case measure => have := HK1.out; have := HK2.out; omega
                  case rel => exact ⟨(y153), (wrap32 (x5_2 + 1)), (by first | rfl | (simp; done) | (simp [*]; done)), H', ⟨by have := HK1.out; have := HK2.out; omega⟩, ⟨by (with_reducible repeat (first | apply Kd.R_alloc | apply Kd.R_drewN | apply Kd.R_drew)); exact HO155.out⟩, ⟨by (with_reducible repeat (first | refine blk_drewN ?_ _ | refine blk_drew ?_ | refine blk_alloc ?_ _)); exact BK147.out⟩, ⟨by repeat (first | (with_reducible first | exact HB.out | apply below_alloc | apply pw_below_drewN | apply below_drew1 | refine below_set ?_ GE147.out) | exact HB.out)⟩⟩
                · rw [if_neg c18] at H
                  exact absurd H (by simp)
              · rw [if_neg c17] at H
                have c17b0 : decide (x5_2 ≤ t152) = false := decide_eq_false c17
                clear c17
                have H' := Aside0.mk H
                clear H
                have hcz21_0 : wr.cell? ⟨gb147, 0, none⟩ = some (.int .i32 a0_0) := (blk_cell BK147.out 0).trans rfl
                have hcz21_1 : wr.cell? ⟨gb147, 1, none⟩ = some (.int .i32 a0_1) := (blk_cell BK147.out 1).trans rfl
                have hcz21_2 : wr.cell? ⟨gb147, 2, none⟩ = some (.int .i32 a0_2) := (blk_cell BK147.out 2).trans rfl
                have hcz21_3 : wr.cell? ⟨gb147, 3, none⟩ = some (.int .i32 a0_3) := (blk_cell BK147.out 3).trans rfl
                have hfz21_0 := blk_frozen BK147.out 0
                have hfz21_1 := blk_frozen BK147.out 1
                have hfz21_2 := blk_frozen BK147.out 2
                have hfz21_3 := blk_frozen BK147.out 3
                go_wp2_with (first | ((with_reducible refine gate_callee (f := 15) rfl ?_); refine goesL_ (some 24) rfl rfl Tryd.func15 (by kernel_rfl) rfl #[.int .i32 a0_2] rfl (by (try simp only [List.map_toArray, List.map_cons, List.map_nil]); first | done | rfl | (simp only [List.length_drop, List.length_take]; rfl)) ?_; (with_reducible refine (billiardref09_Column.calls a0_2 t152 _ A16.out).mono ?_); rintro e w' ⟨rfl, ⟨nd, rfl⟩⟩; refine ⟨_, rfl, ?_⟩))
                go_roundg k2
                case measure => have := HK1.out; have := HK2.out; omega
                case rel => exact ⟨(x3_2), (wrap32 (x4_1 + 1)), (by first | rfl | (simp; done) | (simp [*]; done)), H', ⟨by have := HK1.out; have := HK2.out; omega⟩, ⟨by (with_reducible repeat (first | apply Kd.R_alloc | apply Kd.R_drewN | apply Kd.R_drew)); exact HO_3.out⟩, ⟨by (with_reducible repeat (first | refine blk_drewN ?_ _ | refine blk_drew ?_ | refine blk_alloc ?_ _)); exact BK147.out⟩, ⟨by repeat (first | (with_reducible first | exact HB.out | apply below_alloc | apply pw_below_drewN | apply below_drew1 | refine below_set ?_ GE147.out) | exact HB.out)⟩⟩
        · rw [if_neg c13] at H
          have c13b0 : decide (x4_1 ≤ t150) = false := decide_eq_false c13
          clear c13
          obtain rfl := Option.some.inj H
          have hcz22_0 : wr.cell? ⟨gb147, 0, none⟩ = some (.int .i32 a0_0) := (blk_cell BK147.out 0).trans rfl
          have hcz22_1 : wr.cell? ⟨gb147, 1, none⟩ = some (.int .i32 a0_1) := (blk_cell BK147.out 1).trans rfl
          have hcz22_2 : wr.cell? ⟨gb147, 2, none⟩ = some (.int .i32 a0_2) := (blk_cell BK147.out 2).trans rfl
          have hcz22_3 : wr.cell? ⟨gb147, 3, none⟩ = some (.int .i32 a0_3) := (blk_cell BK147.out 3).trans rfl
          have hfz22_0 := blk_frozen BK147.out 0
          have hfz22_1 := blk_frozen BK147.out 1
          have hfz22_2 := blk_frozen BK147.out 2
          have hfz22_3 := blk_frozen BK147.out 3
          go_wp2_with (first | ((with_reducible refine gate_callee (f := 15) rfl ?_); refine goesL_ (some 14) rfl rfl Tryd.func15 (by kernel_rfl) rfl #[.int .i32 a0_3] rfl (by (try simp only [List.map_toArray, List.map_cons, List.map_nil]); first | done | rfl | (simp only [List.length_drop, List.length_take]; rfl)) ?_; (with_reducible refine (billiardref09_Column.calls a0_3 t150 _ A12.out).mono ?_); rintro e w' ⟨rfl, ⟨nd, rfl⟩⟩; refine ⟨_, rfl, ?_⟩))
          go_ret
          exact ⟨_, by first | rfl | (simp [errW_none, errW_some] <;> rfl) | (simp [*, errW_none, errW_some] <;> rfl), by (with_reducible repeat (first | apply Kd.R_alloc | apply Kd.R_drewN | apply Kd.R_drew)); exact HO_3.out, by repeat (first | (with_reducible first | exact HB.out | apply below_alloc | apply pw_below_drewN | apply below_drew1 | refine below_set ?_ GE147.out) | exact HB.out)⟩

end Go.Proofs.YticjhncpglcgnaaDoor.Q
