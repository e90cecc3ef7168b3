-- PRINTED by print.py (a twelfth state) out of the translation. Not trusted: Lean checks it.
import Derived.Test.YtcbdcgghccjdpaaQ0
import Derived.Test.YtcbdcgghccjdpaaMspec
import Derived.Test.YtcbdcgghccjdpaaQbilliardref02
import Derived.Test.YtcbdcgghccjdpaaQbilliardref17y1
namespace Go.Proofs.Ytcbdcgghccjdpaa.Q
open Go.RowKit Go.Proofs.YtcbdcgghccjdpaaW.PrintWords Go.Proofs.YtcbdcgghccjdpaaW.PrintLast Go.Proofs.YtcbdcgghccjdpaaW.PrintMore
open Go.Proofs.YtcbdcgghccjdpaaW.PrintWords renaming blk_drewN → bN, blk_drew → bD, blk_alloc → bA, blk_cell → bC, blk_frozen → bF, blk_put → bP, below_alloc → lA, pw_below_drewN → lN, below_drew1 → lD, below_set → lS, below_step → lT, below_size → lZ, Aside0.mk → aM
open List renaming setIfInBounds_toArray → sA, set_cons_zero → sB, set_cons_succ → sC
open Bool renaming true → T, false → F
attribute [local go_sem] max2_int min2_int max_two min_two max_three min_three max_four min_four   -- for this text's walks alone
set_option linter.unusedVariables false
set_option linter.unusedSimpArgs false

/-! ### billiardref17_Round: function 13 -/
def billiardref17_Round.l0 : Nat → List (S44) → List (S41) → List (S44) → Bool → Int → Option ((List (S44)) × Bool)
 | 0, _, _, _, _, _ => none
 | k + 1, x0, x1, x6, x7, x8 => if x8 < (x0.length : Int) then (if 0 ≤ x8 then ((billiardref17_sum.f k x0 x1 x8 false).bind fun t262 => ((billiardref17_sum.f k x0 x1 x8 true).bind fun t264 => ((billiardref02_Limit.f (wrap64 ((wrap64 ((rd_T44 x0 x8).f6.f0)) + t262)) 16777216).bind fun t267 => ((billiardref02_Limit.f (wrap64 ((wrap64 ((rd_T44 x0 x8).f6.f1)) + t264)) 16777216).bind fun t268 => (if x7 = true then (if x6.length < 3518437208883 then (billiardref17_Round.l0 k x0 x1 (x6 ++ [(⟨(rd_T44 x0 x8).f0, (rd_T44 x0 x8).f1, (⟨(rd_T44 x0 x8).f2.f0, (rd_T44 x0 x8).f2.f1⟩ : S39), (rd_T44 x0 x8).f3, (rd_T44 x0 x8).f4, (⟨(rd_T44 x0 x8).f5.f0, (rd_T44 x0 x8).f5.f1⟩ : S39), (⟨wrap32 (t267), wrap32 (t268)⟩ : S39)⟩ : S44)]) true (wrap64 (x8 + 1))) else (none)) else (if (wrap64 (wrap32 (t267))) = (wrap64 ((wrap64 ((rd_T44 x0 x8).f6.f0)) + t262)) then (if x6.length < 3518437208883 then (billiardref17_Round.l0 k x0 x1 (x6 ++ [(⟨(rd_T44 x0 x8).f0, (rd_T44 x0 x8).f1, (⟨(rd_T44 x0 x8).f2.f0, (rd_T44 x0 x8).f2.f1⟩ : S39), (rd_T44 x0 x8).f3, (rd_T44 x0 x8).f4, (⟨(rd_T44 x0 x8).f5.f0, (rd_T44 x0 x8).f5.f1⟩ : S39), (⟨wrap32 (t267), wrap32 (t268)⟩ : S39)⟩ : S44)]) ((wrap64 (wrap32 (t268))) != (wrap64 ((wrap64 ((rd_T44 x0 x8).f6.f1)) + t264))) (wrap64 (x8 + 1))) else (none)) else (if x6.length < 3518437208883 then (billiardref17_Round.l0 k x0 x1 (x6 ++ [(⟨(rd_T44 x0 x8).f0, (rd_T44 x0 x8).f1, (⟨(rd_T44 x0 x8).f2.f0, (rd_T44 x0 x8).f2.f1⟩ : S39), (rd_T44 x0 x8).f3, (rd_T44 x0 x8).f4, (⟨(rd_T44 x0 x8).f5.f0, (rd_T44 x0 x8).f5.f1⟩ : S39), (⟨wrap32 (t267), wrap32 (t268)⟩ : S39)⟩ : S44)]) true (wrap64 (x8 + 1))) else (none)))))))) else (none)) else (some (x6, x7))
def billiardref17_Round.f (k : Nat) (l0 : List (S44)) (l1 : List (S41)) : Option ((List (S44)) × Bool) := billiardref17_Round.l0 k l0 l1 ([] : List (S44)) false 0
theorem billiardref17_Round.mono_l : ∀ k, (∀ y0 y1 y2 y3 y4, LeO (billiardref17_Round.l0 k y0 y1 y2 y3 y4) (billiardref17_Round.l0 (k + 1) y0 y1 y2 y3 y4))
 | 0 => fun _ _ _ _ _ r h => by simp [billiardref17_Round.l0] at h
 | k + 1 => by
  have ih0 := billiardref17_Round.mono_l k
  ·intro y0 y1 y2 y3 y4
   unfold billiardref17_Round.l0
   repeat' first
   | (with_reducible exact ih0 _ _ _ _ _)
   | (with_reducible exact billiardref17_sum.mono _ _ _ _ _)
   | (with_reducible exact LeO.refl _)
   | (with_reducible exact LeO.none _)
   | (with_reducible refine LeO.ite ?_ ?_)
   | (with_reducible refine LeO.bind ?_ (fun _ => ?_))
   | exact ih0 _ _ _ _ _
   | exact billiardref17_sum.mono _ _ _ _ _
   | exact LeO.none _
   | refine LeO.ite ?_ ?_
   | refine LeO.bind ?_ (fun _ => ?_)
theorem billiardref17_Round.mono : ∀ a0 a1 k, LeO (billiardref17_Round.f k a0 a1) (billiardref17_Round.f (k + 1) a0 a1) := by
 intro a0 a1 k
 have ih0 := billiardref17_Round.mono_l k
 unfold billiardref17_Round.f
 repeat' first
   | (with_reducible exact ih0 _ _ _ _ _)
   | (with_reducible exact billiardref17_sum.mono _ _ _ _ _)
   | (with_reducible exact LeO.refl _)
   | (with_reducible exact LeO.none _)
   | (with_reducible refine LeO.ite ?_ ?_)
   | (with_reducible refine LeO.bind ?_ (fun _ => ?_))
   | exact ih0 _ _ _ _ _
   | exact billiardref17_sum.mono _ _ _ _ _
   | exact LeO.none _
   | refine LeO.ite ?_ ?_
   | refine LeO.bind ?_ (fun _ => ?_)
def billiardref17_Round.T6 : Bool × List (List Nat × List Nat) := (true, [([], []), ([], []), ([0, 1], [0, 1]), ([2], [2]), ([3], [3]), ([4], [4]), ([5], [5]), ([], []), ([], []), ([], []), ([7, 8, 9], [7, 8, 9]), ([6, 10], [6, 10]), ([11, 10, 0, 1, 2, 3, 4, 5, 6, 7, 8, 9, 10, 11], [11])])
def billiardref17_Round.B6 : List Nat := [0, 0, 3, 7, 15, 31, 63, 0, 0, 0, 896, 2047, 4095]
theorem billiardref17_Round.tab6 : rtab .any (opsOf Try.f13 6) = billiardref17_Round.T6 := by kernel_rfl
theorem billiardref17_Round.bits6 : waitsOk billiardref17_Round.T6.2 billiardref17_Round.B6 = true := by kernel_rfl
def billiardref17_Round.T7 : Bool × List (List Nat × List Nat) := (true, [([], []), ([], []), ([0, 1], [0, 1]), ([2], [2]), ([3], [3]), ([4], [4]), ([5], [5]), ([], []), ([], []), ([], []), ([7, 8, 9], [7, 8, 9]), ([6, 10], [6, 10]), ([11, 10, 0, 1, 2, 3, 4, 5, 6, 7, 8, 9, 10, 11], [11])])
def billiardref17_Round.B7 : List Nat := [0, 0, 3, 7, 15, 31, 63, 0, 0, 0, 896, 2047, 4095]
theorem billiardref17_Round.tab7 : rtab .any (opsOf Try.f13 7) = billiardref17_Round.T7 := by kernel_rfl
theorem billiardref17_Round.bits7 : waitsOk billiardref17_Round.T7.2 billiardref17_Round.B7 = true := by kernel_rfl
set_option maxHeartbeats 8000000 in
set_option maxRecDepth 100000 in
theorem billiardref17_Round.calls (k : Nat) (A0 : Option Addr) (c0 : Nat) (l0 : List (S44)) (A1 : Option Addr) (c1 : Nat) (l1 : List (S41)) (r1 : List (S44)) (r2 : Bool) (w : World) (hr0 : Kd.C k44 w A0 l0.length l0) (hc0 : l0.length ≤ c0) (hr1 : Kd.C k41 w A1 l1.length l1) (hc1 : l1.length ≤ c1) (h : billiardref17_Round.f k l0 l1 = some (r1, r2)) :
  Calls Try.prog 13 #[.slice A0 l0.length c0, .slice A1 l1.length c1] w fun e w' => ∃ v0_ : Value, e = .returned (.tuple #[v0_, .bool r2]) ∧ Kd.R k44 44 w' w.heap.size (fun _ => True) v0_ r1 ∧ Below w.heap.size w w' := by
 have hu44 := Try.underlying44
 have hu39 := Try.underlying39
 have HR0 := aM hr0
 have HC0 := aM hc0
 clear hr0 hc0
 have HR1 := aM hr1
 have HC1 := aM hc1
 clear hr1 hc1
 have HB := aM (Below.refl w.heap.size w)
 have H : (billiardref17_Round.l0 k l0 l1 ([] : List (S44)) false 0) = some (r1, r2) := h
 clear h
 have H' := aM H
 clear H
 go_enter Try.func13, Try.ntmps13
 go_wp2
 go_loopg [6, 7, 8] k (fun kq v6 v7 v8 w' => ∃ (x6_1 : List (S44)) (x7_1 : Bool) (x8_1 : Int), v7 = .bool x7_1 ∧ v8 = .int .i64 x8_1 ∧ Aside0 (billiardref17_Round.l0 kq l0 l1 x6_1 x7_1 x8_1 = some (r1, r2)) ∧ Aside0 (kq ≤ k) ∧ Aside0 (Kd.R k44 44 w' w.heap.size (fun _ => True) v6 x6_1) ∧ Aside0 (Below w.heap.size w w'))
 case atStart => exact ⟨(([] : List (S44))), (false), (0), (by first | rfl | (simp; done) | (simp [*]; done)), (by first | rfl | (simp; done) | (simp [*]; done)), H', ⟨Nat.le_refl _⟩, ⟨by first | exact Kd.R_nil _ _ _ _ _ | exact Kd.N_nil _ _ _ _ _ | exact Kd.V_nil _ _ _ _ _ | exact Kd.Q_nil _ _ _ _ _ | exact Kd.S_nil _ _ _ _ _⟩, ⟨by repeat (first | (with_reducible first | exact HB.out | apply lA | apply lN | apply lD) | exact HB.out)⟩⟩
 case round =>
  clear H'
  try clear c1
  try clear p2
  obtain ⟨x6_1, x7_1, x8_1, rfl, rfl, HA, HK1, HO_6, HB⟩ := hrel
  cases gk with
  | zero => exact absurd HA.out (by simp [billiardref17_Round.l0])
  | succ k1 =>
   have H := HA.out
   clear HA
   simp only [billiardref17_Round.l0] at H
   by_cases c3 : x8_1 < (l0.length : Int)
   ·rw [if_pos c3] at H
    have c3b0 : decide (x8_1 < (l0.length : Int)) = true := decide_eq_true c3
    clear c3
    by_cases c4 : 0 ≤ x8_1
    ·rw [if_pos c4] at H
     have c4b0 : decide (0 ≤ x8_1) = true := decide_eq_true c4
     clear c4
     replace H := Option.bind_eq_some_iff.mp H
     obtain ⟨t262, A50, H⟩ := H
     try dsimp only at H
     have A5 := aM A50
     clear A50
     replace H := Option.bind_eq_some_iff.mp H
     obtain ⟨t264, A60, H⟩ := H
     try dsimp only at H
     have A6 := aM A60
     clear A60
     replace H := Option.bind_eq_some_iff.mp H
     obtain ⟨t267, A70, H⟩ := H
     try dsimp only at H
     have A7 := aM A70
     clear A70
     replace H := Option.bind_eq_some_iff.mp H
     obtain ⟨t268, A80, H⟩ := H
     try dsimp only at H
     have A8 := aM A80
     clear A80
     by_cases c9 : x7_1 = true
     ·subst c9
      rw [if_pos rfl] at H
      by_cases c10 : x6_1.length < 3518437208883
      ·rw [if_pos c10] at H
       have LMc10 := aM c10
       clear c10
       obtain ⟨y269, hy269⟩ : ∃ y_ : List (S44), y_ = (x6_1 ++ [(⟨(rd_T44 l0 x8_1).f0, (rd_T44 l0 x8_1).f1, (⟨(rd_T44 l0 x8_1).f2.f0, (rd_T44 l0 x8_1).f2.f1⟩ : S39), (rd_T44 l0 x8_1).f3, (rd_T44 l0 x8_1).f4, (⟨(rd_T44 l0 x8_1).f5.f0, (rd_T44 l0 x8_1).f5.f1⟩ : S39), (⟨wrap32 (t267), wrap32 (t268)⟩ : S39)⟩ : S44)]) := ⟨_, rfl⟩
       replace H : (billiardref17_Round.l0 k1 l0 l1 y269 true (wrap64 (x8_1 + 1))) = some (r1, r2) := by first | (rw [hy269]; with_reducible exact H) | (have H2_ := (Option.bind_some _ _).symm.trans H; rw [hy269]; with_reducible exact H2_) | (have H2_ := (Option.bind_some _ _).symm.trans H; with_reducible exact H2_) | with_reducible exact H | (rw [hy269]; exact H) | exact H
       have Ny269 := aM hy269
       clear hy269
       have H' := aM H
       clear H
       try go_wp2
       have n0_ := aM (Kd.R_drew HO_6.out)
       have n1_ := aM (lD HB.out)
       clear HO_6
       clear HB
       have HO_6 := n0_
       have HB := n1_
       clear n0_ n1_
       have p261 : 0 ≤ (x8_1 : Int) := of_decide_eq_true (by first | (with_reducible assumption) | assumption)
       have q261 : x8_1 < (l0.length : Int) := of_decide_eq_true (by first | (with_reducible assumption) | assumption)
       obtain ⟨ad261, e261, hx261_0, hx261_1, hx261_2, hx261_3, hx261_4, hx261_5, hx261_6, hx261_7, hx261_8, hx261_9⟩ := at_T44 HR0.out x8_1 p261 q261
       have hw261_9 := hx261_9
       have hw261_8 := hx261_8
       have hw261_7 := hx261_7
       have hw261_6 := hx261_6
       have hw261_5 := hx261_5
       have hw261_4 := hx261_4
       have hw261_3 := hx261_3
       have hw261_2 := hx261_2
       have hw261_1 := hx261_1
       have hw261_0 := hx261_0
       cases e261
       replace hx261_0 := (HB.out.cell (World.block_lt_of_cell? w _ hx261_0)).trans hx261_0
       replace hx261_1 := (HB.out.cell (World.block_lt_of_cell? w _ hx261_1)).trans hx261_1
       replace hx261_2 := (HB.out.cell (World.block_lt_of_cell? w _ hx261_2)).trans hx261_2
       replace hx261_3 := (HB.out.cell (World.block_lt_of_cell? w _ hx261_3)).trans hx261_3
       replace hx261_4 := (HB.out.cell (World.block_lt_of_cell? w _ hx261_4)).trans hx261_4
       replace hx261_5 := (HB.out.cell (World.block_lt_of_cell? w _ hx261_5)).trans hx261_5
       replace hx261_6 := (HB.out.cell (World.block_lt_of_cell? w _ hx261_6)).trans hx261_6
       replace hx261_7 := (HB.out.cell (World.block_lt_of_cell? w _ hx261_7)).trans hx261_7
       replace hx261_8 := (HB.out.cell (World.block_lt_of_cell? w _ hx261_8)).trans hx261_8
       replace hx261_9 := (HB.out.cell (World.block_lt_of_cell? w _ hx261_9)).trans hx261_9
       replace p261 := eq_true p261
       replace q261 := eq_true q261
       refine start_ (n := 13) (S := fun w' => w'.cell? (ad261.add ((x8_1).toNat * 10)) = some (.int .u32 ((rd_T44 l0 x8_1).f0)) ∧ w'.cell? ⟨(ad261.add ((x8_1).toNat * 10)).block, (ad261.add ((x8_1).toNat * 10)).off + 1, none⟩ = some (.int .i32 ((rd_T44 l0 x8_1).f1)) ∧ w'.cell? ⟨(ad261.add ((x8_1).toNat * 10)).block, (ad261.add ((x8_1).toNat * 10)).off + 2, none⟩ = some (.int .i32 ((rd_T44 l0 x8_1).f2.f0)) ∧ w'.cell? ⟨(ad261.add ((x8_1).toNat * 10)).block, (ad261.add ((x8_1).toNat * 10)).off + 3, none⟩ = some (.int .i32 ((rd_T44 l0 x8_1).f2.f1)) ∧ w'.cell? ⟨(ad261.add ((x8_1).toNat * 10)).block, (ad261.add ((x8_1).toNat * 10)).off + 4, none⟩ = some (.int .i32 ((rd_T44 l0 x8_1).f3)) ∧ w'.cell? ⟨(ad261.add ((x8_1).toNat * 10)).block, (ad261.add ((x8_1).toNat * 10)).off + 5, none⟩ = some (.int .i32 ((rd_T44 l0 x8_1).f4)) ∧ w'.cell? ⟨(ad261.add ((x8_1).toNat * 10)).block, (ad261.add ((x8_1).toNat * 10)).off + 6, none⟩ = some (.int .i32 ((rd_T44 l0 x8_1).f5.f0)) ∧ w'.cell? ⟨(ad261.add ((x8_1).toNat * 10)).block, (ad261.add ((x8_1).toNat * 10)).off + 7, none⟩ = some (.int .i32 ((rd_T44 l0 x8_1).f5.f1)) ∧ w'.cell? ⟨(ad261.add ((x8_1).toNat * 10)).block, (ad261.add ((x8_1).toNat * 10)).off + 8, none⟩ = some (.int .i32 ((rd_T44 l0 x8_1).f6.f0)) ∧ w'.cell? ⟨(ad261.add ((x8_1).toNat * 10)).block, (ad261.add ((x8_1).toNat * 10)).off + 9, none⟩ = some (.int .i32 ((rd_T44 l0 x8_1).f6.f1))) (ds := []) #[F,F,F,F,F,F,F,F,F,F,F,F,F] (by kernel_rfl) rfl rfl ⟨((HB.out.cell (World.block_lt_of_cell? w _ hw261_0)).trans hw261_0), ((HB.out.cell (World.block_lt_of_cell? w _ hw261_1)).trans hw261_1), ((HB.out.cell (World.block_lt_of_cell? w _ hw261_2)).trans hw261_2), ((HB.out.cell (World.block_lt_of_cell? w _ hw261_3)).trans hw261_3), ((HB.out.cell (World.block_lt_of_cell? w _ hw261_4)).trans hw261_4), ((HB.out.cell (World.block_lt_of_cell? w _ hw261_5)).trans hw261_5), ((HB.out.cell (World.block_lt_of_cell? w _ hw261_6)).trans hw261_6), ((HB.out.cell (World.block_lt_of_cell? w _ hw261_7)).trans hw261_7), ((HB.out.cell (World.block_lt_of_cell? w _ hw261_8)).trans hw261_8), ((HB.out.cell (World.block_lt_of_cell? w _ hw261_9)).trans hw261_9)⟩ (fun hHeld => ?_); refine with_tabW billiardref17_Round.tab6 billiardref17_Round.bits6 (fun HT_ HW_ => ?_)
       generalize wr.drew = w11 at HO_6 HB hx261_0 hx261_1 hx261_2 hx261_3 hx261_4 hx261_5 hx261_6 hx261_7 hx261_8 hx261_9 hHeld ⊢
       refine pure_ (i := 0) (N := some 18) (v := ?_) (a' := ?_) #[T,F,F,F,F,F,F,F,F,F,F,F,F] rfl rfl (any_of HT_.out (by kernel_rfl)) (fun _ _ _ h => h) (Or.inl ⟨by rfl, ?_⟩) ?_ ?_
       rotate_left
       ·intro w'
        go_simp
        with_reducible rfl
       rotate_left
       ·simp only [Act.put, sA, sB, sC, i64_w, i32_w]
        rfl
       refine pure_ (i := 1) (N := some 19) (v := ?_) (a' := ?_) #[T,T,F,F,F,F,F,F,F,F,F,F,F] rfl rfl (any_of HT_.out (by kernel_rfl)) (fun _ _ _ h => h) (Or.inl ⟨by rfl, ?_⟩) ?_ ?_
       rotate_left
       ·intro w'
        go_simp
        with_reducible rfl
       rotate_left
       ·simp only [Act.put, sA, sB, sC, i64_w, i32_w]
        rfl
       refine pure_ (i := 2) (N := some 20) (v := ?_) (a' := ?_) #[T,T,T,F,F,F,F,F,F,F,F,F,F] rfl rfl (any_of HT_.out (by kernel_rfl)) (fun _ _ _ h => h) (Or.inl ⟨by rfl, ?_⟩) ?_ ?_
       rotate_left
       ·intro w'
        go_simp
        with_reducible rfl
       rotate_left
       ·simp only [Act.put, sA, sB, sC, i64_w, i32_w]
        rfl
       refine pure_ (i := 3) (N := some 21) (v := ?_) (a' := ?_) #[T,T,T,T,F,F,F,F,F,F,F,F,F] rfl rfl (any_of HT_.out (by kernel_rfl)) (fun _ _ _ h => h) (Or.inl ⟨by rfl, ?_⟩) ?_ ?_
       rotate_left
       ·intro w'
        go_simp
        with_reducible rfl
       rotate_left
       ·simp only [Act.put, sA, sB, sC, i64_w, i32_w]
        rfl
       refine pure_ (i := 4) (N := some 22) (v := ?_) (a' := ?_) #[T,T,T,T,T,F,F,F,F,F,F,F,F] rfl rfl (any_of HT_.out (by kernel_rfl)) (fun _ _ _ h => h) (Or.inl ⟨by rfl, ?_⟩) ?_ ?_
       rotate_left
       ·intro w'
        go_simp
        with_reducible rfl
       rotate_left
       ·simp only [Act.put, sA, sB, sC, i64_w, i32_w]
        rfl
       refine pure_ (i := 7) (N := some 25) (v := ?_) (a' := ?_) #[T,T,T,T,T,F,F,T,F,F,F,F,F] rfl rfl (any_of HT_.out (by kernel_rfl)) (fun _ _ _ h => h) (Or.inl ⟨by rfl, ?_⟩) ?_ ?_
       rotate_left
       ·intro w'
        go_simp
        with_reducible rfl
       rotate_left
       ·simp only [Act.put, sA, sB, sC, i64_w, i32_w]
        rfl
       refine pure_ (i := 8) (N := some 26) (v := ?_) (a' := ?_) #[T,T,T,T,T,F,F,T,T,F,F,F,F] rfl rfl (any_of HT_.out (by kernel_rfl)) (fun _ _ _ h => h) (Or.inl ⟨by rfl, ?_⟩) ?_ ?_
       rotate_left
       ·intro w'
        go_simp
        with_reducible rfl
       rotate_left
       ·simp only [Act.put, sA, sB, sC, i64_w, i32_w]
        rfl
       refine pure_ (i := 9) (N := some 27) (v := ?_) (a' := ?_) #[T,T,T,T,T,F,F,T,T,T,F,F,F] rfl rfl (any_of HT_.out (by kernel_rfl)) (fun _ _ _ h => h) (Or.inl ⟨by rfl, ?_⟩) ?_ ?_
       rotate_left
       ·intro w'
        go_simp
        with_reducible rfl
       rotate_left
       ·simp only [Act.put, sA, sB, sC, i64_w, i32_w]
        rfl
       refine take_ (i := 5) (N := some 23) (v := ?_) (a' := ?_) #[T,T,T,T,T,T,F,T,T,T,F,F,F] rfl rfl (take_ofW HT_.out HW_.out (by kernel_rfl)) (fun _ _ _ h => h) (Or.inl ⟨by rfl, ?_⟩) hHeld ?_ ?_
       rotate_left
       ·rintro w' ⟨s0, s1, s2, s3, s4, s5, s6, s7, s8, s9⟩
        go_simp
        with_reducible rfl
       rotate_left
       ·simp only [Act.put, sA, sB, sC, i64_w, i32_w]
        rfl
       refine pure_ (i := 6) (N := some 24) (v := ?_) (a' := ?_) #[T,T,T,T,T,T,T,T,T,T,F,F,F] rfl rfl (any_of HT_.out (by kernel_rfl)) (fun _ _ _ h => h) (Or.inl ⟨by rfl, ?_⟩) ?_ ?_
       rotate_left
       ·intro w'
        go_simp
        with_reducible rfl
       rotate_left
       ·simp only [Act.put, sA, sB, sC, i64_w, i32_w]
        rfl
       refine one_ (i := 10) (N := some 28) #[T,T,T,T,T,T,T,T,T,T,T,F,F] rfl rfl (one_of HT_.out (by kernel_rfl)) (by decide) (fun K hK => ?_)
       refine goes_ Try.func24 (by kernel_rfl) rfl #[.slice (some ad261) l0.length c0, .slice A1 l1.length c1, .int .i64 x8_1, .bool false] (by rfl) rfl rfl (by (try simp only [List.map_toArray, List.map_cons, List.map_nil]); first | done | rfl | (simp only [List.length_drop, List.length_take]; rfl)) ?_
       with_reducible refine (billiardref17_sum.calls k1 _ _ l0 _ _ l1 x8_1 false t262 _ ?side1 ?side2 ?side3 ?side4 A5.out).mono ?_
       (case side1 => repeat (first | exact (Kd.C_below HR0.out HB.out) | (with_reducible refine Kd.C_alloc ?_ _) | (with_reducible refine Kd.C_drewN ?_ _) | (with_reducible refine Kd.C_drew ?_)))
       (case side2 => exact HC0.out)
       (case side3 => repeat (first | exact (Kd.C_below HR1.out HB.out) | (with_reducible refine Kd.C_alloc ?_ _) | (with_reducible refine Kd.C_drewN ?_ _) | (with_reducible refine Kd.C_drew ?_)))
       (case side4 => exact HC1.out)
       rintro e w12 ⟨rfl, hb⟩
       refine ⟨_, rfl, ?_⟩
       have n0_ := aM (Kd.R_below (by (with_reducible repeat (first | apply Kd.R_alloc | apply Kd.R_drewN | apply Kd.R_drew)); exact HO_6.out) hb)
       have n1_ := aM (lT (by repeat (first | (with_reducible first | exact HB.out | apply lA | apply lN | apply lD) | exact HB.out)) hb)
       clear HO_6
       clear HB
       have HO_6 := n0_
       have HB := n1_
       clear n0_ n1_
       (try clear hb)
       (try clear hb2)
       (try clear hk)
       (try clear hi)
       refine hK.out _ _ ⟨((HB.out.cell (World.block_lt_of_cell? w _ hw261_0)).trans hw261_0), ((HB.out.cell (World.block_lt_of_cell? w _ hw261_1)).trans hw261_1), ((HB.out.cell (World.block_lt_of_cell? w _ hw261_2)).trans hw261_2), ((HB.out.cell (World.block_lt_of_cell? w _ hw261_3)).trans hw261_3), ((HB.out.cell (World.block_lt_of_cell? w _ hw261_4)).trans hw261_4), ((HB.out.cell (World.block_lt_of_cell? w _ hw261_5)).trans hw261_5), ((HB.out.cell (World.block_lt_of_cell? w _ hw261_6)).trans hw261_6), ((HB.out.cell (World.block_lt_of_cell? w _ hw261_7)).trans hw261_7), ((HB.out.cell (World.block_lt_of_cell? w _ hw261_8)).trans hw261_8), ((HB.out.cell (World.block_lt_of_cell? w _ hw261_9)).trans hw261_9)⟩ (fun hHeld => ?_)
       clear hK K
       refine norm_ (a' := ?_) ?_ ?_
       rotate_left
       ·show Act.put _ (some 28) _ = _
        simp only [Act.put, sA, sB, sC, i64_w, i32_w]
        rfl
       refine pure_ (i := 11) (N := some 29) (v := ?_) (a' := ?_) #[T,T,T,T,T,T,T,T,T,T,T,T,F] rfl rfl (any_of HT_.out (by kernel_rfl)) (fun _ _ _ h => h) (Or.inl ⟨by rfl, ?_⟩) ?_ ?_
       rotate_left
       ·intro w'
        go_simp
        with_reducible rfl
       rotate_left
       ·simp only [Act.put, sA, sB, sC, i64_w, i32_w]
        rfl
       refine pure_ (i := 12) (N := some 9) (v := ?_) (a' := ?_) #[T,T,T,T,T,T,T,T,T,T,T,T,T] rfl rfl (any_of HT_.out (by kernel_rfl)) (fun _ _ _ h => h) (Or.inl ⟨by rfl, ?_⟩) ?_ ?_
       rotate_left
       ·intro w'
        go_simp
        with_reducible rfl
       rotate_left
       ·simp only [Act.put, sA, sB, sC, i64_w, i32_w]
        rfl
       refine done_ (done_of HT_.out (by kernel_rfl)) ?_
       try go_wp2
       have n0_ := aM (Kd.R_drew HO_6.out)
       have n1_ := aM (lD HB.out)
       clear HO_6
       clear HB
       have HO_6 := n0_
       have HB := n1_
       clear n0_ n1_
       have p263 : 0 ≤ (x8_1 : Int) := of_decide_eq_true (by first | (with_reducible assumption) | assumption)
       have q263 : x8_1 < (l0.length : Int) := of_decide_eq_true (by first | (with_reducible assumption) | assumption)
       obtain ⟨ad263, e263, hx263_0, hx263_1, hx263_2, hx263_3, hx263_4, hx263_5, hx263_6, hx263_7, hx263_8, hx263_9⟩ := at_T44 HR0.out x8_1 p263 q263
       have hw263_9 := hx263_9
       have hw263_8 := hx263_8
       have hw263_7 := hx263_7
       have hw263_6 := hx263_6
       have hw263_5 := hx263_5
       have hw263_4 := hx263_4
       have hw263_3 := hx263_3
       have hw263_2 := hx263_2
       have hw263_1 := hx263_1
       have hw263_0 := hx263_0
       obtain rfl : ad261 = ad263 := (by injection e263)
       replace hx263_0 := (HB.out.cell (World.block_lt_of_cell? w _ hx263_0)).trans hx263_0
       replace hx263_1 := (HB.out.cell (World.block_lt_of_cell? w _ hx263_1)).trans hx263_1
       replace hx263_2 := (HB.out.cell (World.block_lt_of_cell? w _ hx263_2)).trans hx263_2
       replace hx263_3 := (HB.out.cell (World.block_lt_of_cell? w _ hx263_3)).trans hx263_3
       replace hx263_4 := (HB.out.cell (World.block_lt_of_cell? w _ hx263_4)).trans hx263_4
       replace hx263_5 := (HB.out.cell (World.block_lt_of_cell? w _ hx263_5)).trans hx263_5
       replace hx263_6 := (HB.out.cell (World.block_lt_of_cell? w _ hx263_6)).trans hx263_6
       replace hx263_7 := (HB.out.cell (World.block_lt_of_cell? w _ hx263_7)).trans hx263_7
       replace hx263_8 := (HB.out.cell (World.block_lt_of_cell? w _ hx263_8)).trans hx263_8
       replace hx263_9 := (HB.out.cell (World.block_lt_of_cell? w _ hx263_9)).trans hx263_9
       replace p263 := eq_true p263
       replace q263 := eq_true q263
       refine start_ (n := 13) (S := fun w' => w'.cell? (ad261.add ((x8_1).toNat * 10)) = some (.int .u32 ((rd_T44 l0 x8_1).f0)) ∧ w'.cell? ⟨(ad261.add ((x8_1).toNat * 10)).block, (ad261.add ((x8_1).toNat * 10)).off + 1, none⟩ = some (.int .i32 ((rd_T44 l0 x8_1).f1)) ∧ w'.cell? ⟨(ad261.add ((x8_1).toNat * 10)).block, (ad261.add ((x8_1).toNat * 10)).off + 2, none⟩ = some (.int .i32 ((rd_T44 l0 x8_1).f2.f0)) ∧ w'.cell? ⟨(ad261.add ((x8_1).toNat * 10)).block, (ad261.add ((x8_1).toNat * 10)).off + 3, none⟩ = some (.int .i32 ((rd_T44 l0 x8_1).f2.f1)) ∧ w'.cell? ⟨(ad261.add ((x8_1).toNat * 10)).block, (ad261.add ((x8_1).toNat * 10)).off + 4, none⟩ = some (.int .i32 ((rd_T44 l0 x8_1).f3)) ∧ w'.cell? ⟨(ad261.add ((x8_1).toNat * 10)).block, (ad261.add ((x8_1).toNat * 10)).off + 5, none⟩ = some (.int .i32 ((rd_T44 l0 x8_1).f4)) ∧ w'.cell? ⟨(ad261.add ((x8_1).toNat * 10)).block, (ad261.add ((x8_1).toNat * 10)).off + 6, none⟩ = some (.int .i32 ((rd_T44 l0 x8_1).f5.f0)) ∧ w'.cell? ⟨(ad261.add ((x8_1).toNat * 10)).block, (ad261.add ((x8_1).toNat * 10)).off + 7, none⟩ = some (.int .i32 ((rd_T44 l0 x8_1).f5.f1)) ∧ w'.cell? ⟨(ad261.add ((x8_1).toNat * 10)).block, (ad261.add ((x8_1).toNat * 10)).off + 8, none⟩ = some (.int .i32 ((rd_T44 l0 x8_1).f6.f0)) ∧ w'.cell? ⟨(ad261.add ((x8_1).toNat * 10)).block, (ad261.add ((x8_1).toNat * 10)).off + 9, none⟩ = some (.int .i32 ((rd_T44 l0 x8_1).f6.f1))) (ds := []) #[F,F,F,F,F,F,F,F,F,F,F,F,F] (by kernel_rfl) rfl rfl ⟨((HB.out.cell (World.block_lt_of_cell? w _ hw263_0)).trans hw263_0), ((HB.out.cell (World.block_lt_of_cell? w _ hw263_1)).trans hw263_1), ((HB.out.cell (World.block_lt_of_cell? w _ hw263_2)).trans hw263_2), ((HB.out.cell (World.block_lt_of_cell? w _ hw263_3)).trans hw263_3), ((HB.out.cell (World.block_lt_of_cell? w _ hw263_4)).trans hw263_4), ((HB.out.cell (World.block_lt_of_cell? w _ hw263_5)).trans hw263_5), ((HB.out.cell (World.block_lt_of_cell? w _ hw263_6)).trans hw263_6), ((HB.out.cell (World.block_lt_of_cell? w _ hw263_7)).trans hw263_7), ((HB.out.cell (World.block_lt_of_cell? w _ hw263_8)).trans hw263_8), ((HB.out.cell (World.block_lt_of_cell? w _ hw263_9)).trans hw263_9)⟩ (fun hHeld => ?_); refine with_tabW billiardref17_Round.tab7 billiardref17_Round.bits7 (fun HT_ HW_ => ?_)
       generalize w12.drew = w13 at HO_6 HB hx263_0 hx263_1 hx263_2 hx263_3 hx263_4 hx263_5 hx263_6 hx263_7 hx263_8 hx263_9 hHeld ⊢
       refine pure_ (i := 0) (N := some 30) (v := ?_) (a' := ?_) #[T,F,F,F,F,F,F,F,F,F,F,F,F] rfl rfl (any_of HT_.out (by kernel_rfl)) (fun _ _ _ h => h) (Or.inl ⟨by rfl, ?_⟩) ?_ ?_
       rotate_left
       ·intro w'
        go_simp
        with_reducible rfl
       rotate_left
       ·simp only [Act.put, sA, sB, sC, i64_w, i32_w]
        rfl
       refine pure_ (i := 1) (N := some 31) (v := ?_) (a' := ?_) #[T,T,F,F,F,F,F,F,F,F,F,F,F] rfl rfl (any_of HT_.out (by kernel_rfl)) (fun _ _ _ h => h) (Or.inl ⟨by rfl, ?_⟩) ?_ ?_
       rotate_left
       ·intro w'
        go_simp
        with_reducible rfl
       rotate_left
       ·simp only [Act.put, sA, sB, sC, i64_w, i32_w]
        rfl
       refine pure_ (i := 2) (N := some 32) (v := ?_) (a' := ?_) #[T,T,T,F,F,F,F,F,F,F,F,F,F] rfl rfl (any_of HT_.out (by kernel_rfl)) (fun _ _ _ h => h) (Or.inl ⟨by rfl, ?_⟩) ?_ ?_
       rotate_left
       ·intro w'
        go_simp
        with_reducible rfl
       rotate_left
       ·simp only [Act.put, sA, sB, sC, i64_w, i32_w]
        rfl
       refine pure_ (i := 3) (N := some 33) (v := ?_) (a' := ?_) #[T,T,T,T,F,F,F,F,F,F,F,F,F] rfl rfl (any_of HT_.out (by kernel_rfl)) (fun _ _ _ h => h) (Or.inl ⟨by rfl, ?_⟩) ?_ ?_
       rotate_left
       ·intro w'
        go_simp
        with_reducible rfl
       rotate_left
       ·simp only [Act.put, sA, sB, sC, i64_w, i32_w]
        rfl
       refine pure_ (i := 4) (N := some 34) (v := ?_) (a' := ?_) #[T,T,T,T,T,F,F,F,F,F,F,F,F] rfl rfl (any_of HT_.out (by kernel_rfl)) (fun _ _ _ h => h) (Or.inl ⟨by rfl, ?_⟩) ?_ ?_
       rotate_left
       ·intro w'
        go_simp
        with_reducible rfl
       rotate_left
       ·simp only [Act.put, sA, sB, sC, i64_w, i32_w]
        rfl
       refine pure_ (i := 7) (N := some 37) (v := ?_) (a' := ?_) #[T,T,T,T,T,F,F,T,F,F,F,F,F] rfl rfl (any_of HT_.out (by kernel_rfl)) (fun _ _ _ h => h) (Or.inl ⟨by rfl, ?_⟩) ?_ ?_
       rotate_left
       ·intro w'
        go_simp
        with_reducible rfl
       rotate_left
       ·simp only [Act.put, sA, sB, sC, i64_w, i32_w]
        rfl
       refine pure_ (i := 8) (N := some 38) (v := ?_) (a' := ?_) #[T,T,T,T,T,F,F,T,T,F,F,F,F] rfl rfl (any_of HT_.out (by kernel_rfl)) (fun _ _ _ h => h) (Or.inl ⟨by rfl, ?_⟩) ?_ ?_
       rotate_left
       ·intro w'
        go_simp
        with_reducible rfl
       rotate_left
       ·simp only [Act.put, sA, sB, sC, i64_w, i32_w]
        rfl
       refine pure_ (i := 9) (N := some 39) (v := ?_) (a' := ?_) #[T,T,T,T,T,F,F,T,T,T,F,F,F] rfl rfl (any_of HT_.out (by kernel_rfl)) (fun _ _ _ h => h) (Or.inl ⟨by rfl, ?_⟩) ?_ ?_
       rotate_left
       ·intro w'
        go_simp
        with_reducible rfl
       rotate_left
       ·simp only [Act.put, sA, sB, sC, i64_w, i32_w]
        rfl
       refine take_ (i := 5) (N := some 35) (v := ?_) (a' := ?_) #[T,T,T,T,T,T,F,T,T,T,F,F,F] rfl rfl (take_ofW HT_.out HW_.out (by kernel_rfl)) (fun _ _ _ h => h) (Or.inl ⟨by rfl, ?_⟩) hHeld ?_ ?_
       rotate_left
       ·rintro w' ⟨s0, s1, s2, s3, s4, s5, s6, s7, s8, s9⟩
        go_simp
        with_reducible rfl
       rotate_left
       ·simp only [Act.put, sA, sB, sC, i64_w, i32_w]
        rfl
       refine pure_ (i := 6) (N := some 36) (v := ?_) (a' := ?_) #[T,T,T,T,T,T,T,T,T,T,F,F,F] rfl rfl (any_of HT_.out (by kernel_rfl)) (fun _ _ _ h => h) (Or.inl ⟨by rfl, ?_⟩) ?_ ?_
       rotate_left
       ·intro w'
        go_simp
        with_reducible rfl
       rotate_left
       ·simp only [Act.put, sA, sB, sC, i64_w, i32_w]
        rfl
       refine one_ (i := 10) (N := some 40) #[T,T,T,T,T,T,T,T,T,T,T,F,F] rfl rfl (one_of HT_.out (by kernel_rfl)) (by decide) (fun K hK => ?_)
       refine goes_ Try.func24 (by kernel_rfl) rfl #[.slice (some ad261) l0.length c0, .slice A1 l1.length c1, .int .i64 x8_1, .bool true] (by rfl) rfl rfl (by (try simp only [List.map_toArray, List.map_cons, List.map_nil]); first | done | rfl | (simp only [List.length_drop, List.length_take]; rfl)) ?_
       with_reducible refine (billiardref17_sum.calls k1 _ _ l0 _ _ l1 x8_1 true t264 _ ?side1 ?side2 ?side3 ?side4 A6.out).mono ?_
       (case side1 => repeat (first | exact (Kd.C_below HR0.out HB.out) | (with_reducible refine Kd.C_alloc ?_ _) | (with_reducible refine Kd.C_drewN ?_ _) | (with_reducible refine Kd.C_drew ?_)))
       (case side2 => exact HC0.out)
       (case side3 => repeat (first | exact (Kd.C_below HR1.out HB.out) | (with_reducible refine Kd.C_alloc ?_ _) | (with_reducible refine Kd.C_drewN ?_ _) | (with_reducible refine Kd.C_drew ?_)))
       (case side4 => exact HC1.out)
       rintro e w14 ⟨rfl, hb⟩
       refine ⟨_, rfl, ?_⟩
       have n0_ := aM (Kd.R_below (by (with_reducible repeat (first | apply Kd.R_alloc | apply Kd.R_drewN | apply Kd.R_drew)); exact HO_6.out) hb)
       have n1_ := aM (lT (by repeat (first | (with_reducible first | exact HB.out | apply lA | apply lN | apply lD) | exact HB.out)) hb)
       clear HO_6
       clear HB
       have HO_6 := n0_
       have HB := n1_
       clear n0_ n1_
       (try clear hb)
       (try clear hb2)
       (try clear hk)
       (try clear hi)
       refine hK.out _ _ ⟨((HB.out.cell (World.block_lt_of_cell? w _ hw263_0)).trans hw263_0), ((HB.out.cell (World.block_lt_of_cell? w _ hw263_1)).trans hw263_1), ((HB.out.cell (World.block_lt_of_cell? w _ hw263_2)).trans hw263_2), ((HB.out.cell (World.block_lt_of_cell? w _ hw263_3)).trans hw263_3), ((HB.out.cell (World.block_lt_of_cell? w _ hw263_4)).trans hw263_4), ((HB.out.cell (World.block_lt_of_cell? w _ hw263_5)).trans hw263_5), ((HB.out.cell (World.block_lt_of_cell? w _ hw263_6)).trans hw263_6), ((HB.out.cell (World.block_lt_of_cell? w _ hw263_7)).trans hw263_7), ((HB.out.cell (World.block_lt_of_cell? w _ hw263_8)).trans hw263_8), ((HB.out.cell (World.block_lt_of_cell? w _ hw263_9)).trans hw263_9)⟩ (fun hHeld => ?_)
       clear hK K
       refine norm_ (a' := ?_) ?_ ?_
       rotate_left
       ·show Act.put _ (some 40) _ = _
        simp only [Act.put, sA, sB, sC, i64_w, i32_w]
        rfl
       refine pure_ (i := 11) (N := some 41) (v := ?_) (a' := ?_) #[T,T,T,T,T,T,T,T,T,T,T,T,F] rfl rfl (any_of HT_.out (by kernel_rfl)) (fun _ _ _ h => h) (Or.inl ⟨by rfl, ?_⟩) ?_ ?_
       rotate_left
       ·intro w'
        go_simp
        with_reducible rfl
       rotate_left
       ·simp only [Act.put, sA, sB, sC, i64_w, i32_w]
        rfl
       refine pure_ (i := 12) (N := some 10) (v := ?_) (a' := ?_) #[T,T,T,T,T,T,T,T,T,T,T,T,T] rfl rfl (any_of HT_.out (by kernel_rfl)) (fun _ _ _ h => h) (Or.inl ⟨by rfl, ?_⟩) ?_ ?_
       rotate_left
       ·intro w'
        go_simp
        with_reducible rfl
       rotate_left
       ·simp only [Act.put, sA, sB, sC, i64_w, i32_w]
        rfl
       refine done_ (done_of HT_.out (by kernel_rfl)) ?_
       have p265 : 0 ≤ (x8_1 : Int) := of_decide_eq_true (by first | (with_reducible assumption) | assumption)
       have q265 : x8_1 < (l0.length : Int) := of_decide_eq_true (by first | (with_reducible assumption) | assumption)
       obtain ⟨ad265, e265, hx265_0, hx265_1, hx265_2, hx265_3, hx265_4, hx265_5, hx265_6, hx265_7, hx265_8, hx265_9⟩ := at_T44 HR0.out x8_1 p265 q265
       obtain rfl : ad261 = ad265 := (by injection e265)
       replace hx265_0 := (HB.out.cell (World.block_lt_of_cell? w _ hx265_0)).trans hx265_0
       replace hx265_1 := (HB.out.cell (World.block_lt_of_cell? w _ hx265_1)).trans hx265_1
       replace hx265_2 := (HB.out.cell (World.block_lt_of_cell? w _ hx265_2)).trans hx265_2
       replace hx265_3 := (HB.out.cell (World.block_lt_of_cell? w _ hx265_3)).trans hx265_3
       replace hx265_4 := (HB.out.cell (World.block_lt_of_cell? w _ hx265_4)).trans hx265_4
       replace hx265_5 := (HB.out.cell (World.block_lt_of_cell? w _ hx265_5)).trans hx265_5
       replace hx265_6 := (HB.out.cell (World.block_lt_of_cell? w _ hx265_6)).trans hx265_6
       replace hx265_7 := (HB.out.cell (World.block_lt_of_cell? w _ hx265_7)).trans hx265_7
       replace hx265_8 := (HB.out.cell (World.block_lt_of_cell? w _ hx265_8)).trans hx265_8
       replace hx265_9 := (HB.out.cell (World.block_lt_of_cell? w _ hx265_9)).trans hx265_9
       replace p265 := eq_true p265
       replace q265 := eq_true q265
       go_wp2_with (first | ((with_reducible refine gate_callee (f := 25) rfl ?_); refine goesL_ (some 47) rfl rfl Try.func25 (by kernel_rfl) rfl #[.int .i64 (wrap64 ((wrap64 ((rd_T44 l0 x8_1).f6.f0)) + t262)), .int .i64 16777216] rfl (by (try simp only [List.map_toArray, List.map_cons, List.map_nil]); first | done | rfl | (simp only [List.length_drop, List.length_take]; rfl)) ?_; (with_reducible refine (billiardref02_Limit.calls (wrap64 ((wrap64 ((rd_T44 l0 x8_1).f6.f0)) + t262)) 16777216 t267 _ A7.out).mono ?_); rintro e w' ⟨rfl, ⟨nd, rfl⟩⟩; refine ⟨_, rfl, ?_⟩) | ((with_reducible refine gate_callee (f := 25) rfl ?_); refine goesL_ (some 50) rfl rfl Try.func25 (by kernel_rfl) rfl #[.int .i64 (wrap64 ((wrap64 ((rd_T44 l0 x8_1).f6.f1)) + t264)), .int .i64 16777216] rfl (by (try simp only [List.map_toArray, List.map_cons, List.map_nil]); first | done | rfl | (simp only [List.length_drop, List.length_take]; rfl)) ?_; (with_reducible refine (billiardref02_Limit.calls (wrap64 ((wrap64 ((rd_T44 l0 x8_1).f6.f1)) + t264)) 16777216 t268 _ A8.out).mono ?_); rintro e w' ⟨rfl, ⟨nd, rfl⟩⟩; refine ⟨_, rfl, ?_⟩) | ((with_reducible refine gate_builtin (b := .append) (xs := #[.tmp 71, .tmp 73]) rfl ?_); at_builtin; refine Kd.R_append k44 (w0 := w) w.heap.size rfl (.tmp 71) (.tmp 73) 22 44 (.agg #[(.int .u32 0), (.int .i32 0), (.int .i32 0), (.int .i32 0), (.int .i32 0), (.int .i32 0), (.int .i32 0), (.int .i32 0), (.int .i32 0), (.int .i32 0)]) 40 rfl Try.underlying22 info44 rfl (by decide) (by omega) u6 x6_1 (⟨(rd_T44 l0 x8_1).f0, (rd_T44 l0 x8_1).f1, (⟨(rd_T44 l0 x8_1).f2.f0, (rd_T44 l0 x8_1).f2.f1⟩ : S39), (rd_T44 l0 x8_1).f3, (rd_T44 l0 x8_1).f4, (⟨(rd_T44 l0 x8_1).f5.f0, (rd_T44 l0 x8_1).f5.f1⟩ : S39), (⟨wrap32 (t267), wrap32 (t268)⟩ : S39)⟩ : S44) [.int .u32 ((rd_T44 l0 x8_1).f0), .int .i32 ((rd_T44 l0 x8_1).f1), .int .i32 ((rd_T44 l0 x8_1).f2.f0), .int .i32 ((rd_T44 l0 x8_1).f2.f1), .int .i32 ((rd_T44 l0 x8_1).f3), .int .i32 ((rd_T44 l0 x8_1).f4), .int .i32 ((rd_T44 l0 x8_1).f5.f0), .int .i32 ((rd_T44 l0 x8_1).f5.f1), .int .i32 (wrap32 (t267)), .int .i32 (wrap32 (t268))] (fun _ => True) (fun _ => False) rfl (by first | (go_simp; done) | (go_simp; rfl)) ?aP (fun _ hk => hk.elim) ?aF ?aO ?aB ?aS ?aL ?_; (case aP => exact k44_mkM _ _ _ (⟨(rd_T44 l0 x8_1).f0, (rd_T44 l0 x8_1).f1, (⟨(rd_T44 l0 x8_1).f2.f0, (rd_T44 l0 x8_1).f2.f1⟩ : S39), (rd_T44 l0 x8_1).f3, (rd_T44 l0 x8_1).f4, (⟨(rd_T44 l0 x8_1).f5.f0, (rd_T44 l0 x8_1).f5.f1⟩ : S39), (⟨wrap32 (t267), wrap32 (t268)⟩ : S39)⟩ : S44)); (case aB => exact (lS (lS (lN (lA HB.out _) _) (lZ HB.out)) (lZ HB.out))); (case aF => exact fun _ _ => trivial); (case aO => exact Kd.R_mono (Kd.R_far (p := ⟨_, 9, none⟩) (Kd.R_far (p := ⟨_, 8, none⟩) (Kd.R_drewN (Kd.R_alloc (Kd.R_elderB HO_6.out _ (Nat.le_refl _)) _) _) (fun _ hk => hk.2) _) (fun _ hk => hk.2) _) (fun _ _ => trivial)); (case aS => exact lZ (lS (lS (lN (lA HB.out _) _) (lZ HB.out)) (lZ HB.out))); (case aL => have := LMc10.out; omega); intro v270 w17 ho hb hg hat; rw [← Ny269.out] at ho; have n1_ := aM (hb); have n2_ := aM (ho); clear HB HO_6; have HB := n1_; have HO271 := n2_; clear n1_ n2_ ho hb hg hat))
       go_roundg k1
       case measure => have := HK1.out; omega
       case rel => exact ⟨(y269), (true), (wrap64 (x8_1 + 1)), (by first | rfl | (simp; done) | (simp [*]; done)), (by first | rfl | (simp; done) | (simp [*]; done)), H', ⟨by have := HK1.out; omega⟩, ⟨by (with_reducible repeat (first | apply Kd.R_alloc | apply Kd.R_drewN | apply Kd.R_drew)); exact Kd.R_mono HO271.out (fun _ hk => trivial)⟩, ⟨by repeat (first | (with_reducible first | exact HB.out | apply lA | apply lN | apply lD) | exact HB.out)⟩⟩
      ·rw [if_neg c10] at H
       exact absurd H (by simp)
     ·replace c9 := Bool.eq_false_iff.mpr c9
      subst c9
      rw [if_neg (show ¬ (false = true) by decide)] at H
      by_cases c18 : (wrap64 (wrap32 (t267))) = (wrap64 ((wrap64 ((rd_T44 l0 x8_1).f6.f0)) + t262))
      ·rw [if_pos c18] at H
       have c18b0 : ((wrap64 (wrap32 (t267))) == (wrap64 ((wrap64 ((rd_T44 l0 x8_1).f6.f0)) + t262))) = true := beq_iff_eq.mpr c18
       have c18b1 : ((wrap64 (wrap32 (t267))) != (wrap64 ((wrap64 ((rd_T44 l0 x8_1).f6.f0)) + t262))) = false := bne_eq_false_iff_eq.mpr c18
       clear c18
       by_cases c19 : x6_1.length < 3518437208883
       ·rw [if_pos c19] at H
        have LMc19 := aM c19
        clear c19
        obtain ⟨y272, hy272⟩ : ∃ y_ : List (S44), y_ = (x6_1 ++ [(⟨(rd_T44 l0 x8_1).f0, (rd_T44 l0 x8_1).f1, (⟨(rd_T44 l0 x8_1).f2.f0, (rd_T44 l0 x8_1).f2.f1⟩ : S39), (rd_T44 l0 x8_1).f3, (rd_T44 l0 x8_1).f4, (⟨(rd_T44 l0 x8_1).f5.f0, (rd_T44 l0 x8_1).f5.f1⟩ : S39), (⟨wrap32 (t267), wrap32 (t268)⟩ : S39)⟩ : S44)]) := ⟨_, rfl⟩
        replace H : (billiardref17_Round.l0 k1 l0 l1 y272 ((wrap64 (wrap32 (t268))) != (wrap64 ((wrap64 ((rd_T44 l0 x8_1).f6.f1)) + t264))) (wrap64 (x8_1 + 1))) = some (r1, r2) := by first | (rw [hy272]; with_reducible exact H) | (have H2_ := (Option.bind_some _ _).symm.trans H; rw [hy272]; with_reducible exact H2_) | (have H2_ := (Option.bind_some _ _).symm.trans H; with_reducible exact H2_) | with_reducible exact H | (rw [hy272]; exact H) | exact H
        have Ny272 := aM hy272
        clear hy272
        have H' := aM H
        clear H
        try go_wp2
        have n0_ := aM (Kd.R_drew HO_6.out)
        have n1_ := aM (lD HB.out)
        clear HO_6
        clear HB
        have HO_6 := n0_
        have HB := n1_
        clear n0_ n1_
        have p261 : 0 ≤ (x8_1 : Int) := of_decide_eq_true (by first | (with_reducible assumption) | assumption)
        have q261 : x8_1 < (l0.length : Int) := of_decide_eq_true (by first | (with_reducible assumption) | assumption)
        obtain ⟨ad261, e261, hx261_0, hx261_1, hx261_2, hx261_3, hx261_4, hx261_5, hx261_6, hx261_7, hx261_8, hx261_9⟩ := at_T44 HR0.out x8_1 p261 q261
        have hw261_9 := hx261_9
        have hw261_8 := hx261_8
        have hw261_7 := hx261_7
        have hw261_6 := hx261_6
        have hw261_5 := hx261_5
        have hw261_4 := hx261_4
        have hw261_3 := hx261_3
        have hw261_2 := hx261_2
        have hw261_1 := hx261_1
        have hw261_0 := hx261_0
        cases e261
        replace hx261_0 := (HB.out.cell (World.block_lt_of_cell? w _ hx261_0)).trans hx261_0
        replace hx261_1 := (HB.out.cell (World.block_lt_of_cell? w _ hx261_1)).trans hx261_1
        replace hx261_2 := (HB.out.cell (World.block_lt_of_cell? w _ hx261_2)).trans hx261_2
        replace hx261_3 := (HB.out.cell (World.block_lt_of_cell? w _ hx261_3)).trans hx261_3
        replace hx261_4 := (HB.out.cell (World.block_lt_of_cell? w _ hx261_4)).trans hx261_4
        replace hx261_5 := (HB.out.cell (World.block_lt_of_cell? w _ hx261_5)).trans hx261_5
        replace hx261_6 := (HB.out.cell (World.block_lt_of_cell? w _ hx261_6)).trans hx261_6
        replace hx261_7 := (HB.out.cell (World.block_lt_of_cell? w _ hx261_7)).trans hx261_7
        replace hx261_8 := (HB.out.cell (World.block_lt_of_cell? w _ hx261_8)).trans hx261_8
        replace hx261_9 := (HB.out.cell (World.block_lt_of_cell? w _ hx261_9)).trans hx261_9
        replace p261 := eq_true p261
        replace q261 := eq_true q261
        refine start_ (n := 13) (S := fun w' => w'.cell? (ad261.add ((x8_1).toNat * 10)) = some (.int .u32 ((rd_T44 l0 x8_1).f0)) ∧ w'.cell? ⟨(ad261.add ((x8_1).toNat * 10)).block, (ad261.add ((x8_1).toNat * 10)).off + 1, none⟩ = some (.int .i32 ((rd_T44 l0 x8_1).f1)) ∧ w'.cell? ⟨(ad261.add ((x8_1).toNat * 10)).block, (ad261.add ((x8_1).toNat * 10)).off + 2, none⟩ = some (.int .i32 ((rd_T44 l0 x8_1).f2.f0)) ∧ w'.cell? ⟨(ad261.add ((x8_1).toNat * 10)).block, (ad261.add ((x8_1).toNat * 10)).off + 3, none⟩ = some (.int .i32 ((rd_T44 l0 x8_1).f2.f1)) ∧ w'.cell? ⟨(ad261.add ((x8_1).toNat * 10)).block, (ad261.add ((x8_1).toNat * 10)).off + 4, none⟩ = some (.int .i32 ((rd_T44 l0 x8_1).f3)) ∧ w'.cell? ⟨(ad261.add ((x8_1).toNat * 10)).block, (ad261.add ((x8_1).toNat * 10)).off + 5, none⟩ = some (.int .i32 ((rd_T44 l0 x8_1).f4)) ∧ w'.cell? ⟨(ad261.add ((x8_1).toNat * 10)).block, (ad261.add ((x8_1).toNat * 10)).off + 6, none⟩ = some (.int .i32 ((rd_T44 l0 x8_1).f5.f0)) ∧ w'.cell? ⟨(ad261.add ((x8_1).toNat * 10)).block, (ad261.add ((x8_1).toNat * 10)).off + 7, none⟩ = some (.int .i32 ((rd_T44 l0 x8_1).f5.f1)) ∧ w'.cell? ⟨(ad261.add ((x8_1).toNat * 10)).block, (ad261.add ((x8_1).toNat * 10)).off + 8, none⟩ = some (.int .i32 ((rd_T44 l0 x8_1).f6.f0)) ∧ w'.cell? ⟨(ad261.add ((x8_1).toNat * 10)).block, (ad261.add ((x8_1).toNat * 10)).off + 9, none⟩ = some (.int .i32 ((rd_T44 l0 x8_1).f6.f1))) (ds := []) #[F,F,F,F,F,F,F,F,F,F,F,F,F] (by kernel_rfl) rfl rfl ⟨((HB.out.cell (World.block_lt_of_cell? w _ hw261_0)).trans hw261_0), ((HB.out.cell (World.block_lt_of_cell? w _ hw261_1)).trans hw261_1), ((HB.out.cell (World.block_lt_of_cell? w _ hw261_2)).trans hw261_2), ((HB.out.cell (World.block_lt_of_cell? w _ hw261_3)).trans hw261_3), ((HB.out.cell (World.block_lt_of_cell? w _ hw261_4)).trans hw261_4), ((HB.out.cell (World.block_lt_of_cell? w _ hw261_5)).trans hw261_5), ((HB.out.cell (World.block_lt_of_cell? w _ hw261_6)).trans hw261_6), ((HB.out.cell (World.block_lt_of_cell? w _ hw261_7)).trans hw261_7), ((HB.out.cell (World.block_lt_of_cell? w _ hw261_8)).trans hw261_8), ((HB.out.cell (World.block_lt_of_cell? w _ hw261_9)).trans hw261_9)⟩ (fun hHeld => ?_); refine with_tabW billiardref17_Round.tab6 billiardref17_Round.bits6 (fun HT_ HW_ => ?_)
        generalize wr.drew = w20 at HO_6 HB hx261_0 hx261_1 hx261_2 hx261_3 hx261_4 hx261_5 hx261_6 hx261_7 hx261_8 hx261_9 hHeld ⊢
        refine pure_ (i := 0) (N := some 18) (v := ?_) (a' := ?_) #[T,F,F,F,F,F,F,F,F,F,F,F,F] rfl rfl (any_of HT_.out (by kernel_rfl)) (fun _ _ _ h => h) (Or.inl ⟨by rfl, ?_⟩) ?_ ?_
        rotate_left
        ·intro w'
         go_simp
         with_reducible rfl
        rotate_left
        ·simp only [Act.put, sA, sB, sC, i64_w, i32_w]
         rfl
        refine pure_ (i := 1) (N := some 19) (v := ?_) (a' := ?_) #[T,T,F,F,F,F,F,F,F,F,F,F,F] rfl rfl (any_of HT_.out (by kernel_rfl)) (fun _ _ _ h => h) (Or.inl ⟨by rfl, ?_⟩) ?_ ?_
        rotate_left
        ·intro w'
         go_simp
         with_reducible rfl
        rotate_left
        ·simp only [Act.put, sA, sB, sC, i64_w, i32_w]
         rfl
        refine pure_ (i := 2) (N := some 20) (v := ?_) (a' := ?_) #[T,T,T,F,F,F,F,F,F,F,F,F,F] rfl rfl (any_of HT_.out (by kernel_rfl)) (fun _ _ _ h => h) (Or.inl ⟨by rfl, ?_⟩) ?_ ?_
        rotate_left
        ·intro w'
         go_simp
         with_reducible rfl
        rotate_left
        ·simp only [Act.put, sA, sB, sC, i64_w, i32_w]
         rfl
        refine pure_ (i := 3) (N := some 21) (v := ?_) (a' := ?_) #[T,T,T,T,F,F,F,F,F,F,F,F,F] rfl rfl (any_of HT_.out (by kernel_rfl)) (fun _ _ _ h => h) (Or.inl ⟨by rfl, ?_⟩) ?_ ?_
        rotate_left
        ·intro w'
         go_simp
         with_reducible rfl
        rotate_left
        ·simp only [Act.put, sA, sB, sC, i64_w, i32_w]
         rfl
        refine pure_ (i := 4) (N := some 22) (v := ?_) (a' := ?_) #[T,T,T,T,T,F,F,F,F,F,F,F,F] rfl rfl (any_of HT_.out (by kernel_rfl)) (fun _ _ _ h => h) (Or.inl ⟨by rfl, ?_⟩) ?_ ?_
        rotate_left
        ·intro w'
         go_simp
         with_reducible rfl
        rotate_left
        ·simp only [Act.put, sA, sB, sC, i64_w, i32_w]
         rfl
        refine pure_ (i := 7) (N := some 25) (v := ?_) (a' := ?_) #[T,T,T,T,T,F,F,T,F,F,F,F,F] rfl rfl (any_of HT_.out (by kernel_rfl)) (fun _ _ _ h => h) (Or.inl ⟨by rfl, ?_⟩) ?_ ?_
        rotate_left
        ·intro w'
         go_simp
         with_reducible rfl
        rotate_left
        ·simp only [Act.put, sA, sB, sC, i64_w, i32_w]
         rfl
        refine pure_ (i := 8) (N := some 26) (v := ?_) (a' := ?_) #[T,T,T,T,T,F,F,T,T,F,F,F,F] rfl rfl (any_of HT_.out (by kernel_rfl)) (fun _ _ _ h => h) (Or.inl ⟨by rfl, ?_⟩) ?_ ?_
        rotate_left
        ·intro w'
         go_simp
         with_reducible rfl
        rotate_left
        ·simp only [Act.put, sA, sB, sC, i64_w, i32_w]
         rfl
        refine pure_ (i := 9) (N := some 27) (v := ?_) (a' := ?_) #[T,T,T,T,T,F,F,T,T,T,F,F,F] rfl rfl (any_of HT_.out (by kernel_rfl)) (fun _ _ _ h => h) (Or.inl ⟨by rfl, ?_⟩) ?_ ?_
        rotate_left
        ·intro w'
         go_simp
         with_reducible rfl
        rotate_left
        ·simp only [Act.put, sA, sB, sC, i64_w, i32_w]
         rfl
        refine take_ (i := 5) (N := some 23) (v := ?_) (a' := ?_) #[T,T,T,T,T,T,F,T,T,T,F,F,F] rfl rfl (take_ofW HT_.out HW_.out (by kernel_rfl)) (fun _ _ _ h => h) (Or.inl ⟨by rfl, ?_⟩) hHeld ?_ ?_
        rotate_left
        ·rintro w' ⟨s0, s1, s2, s3, s4, s5, s6, s7, s8, s9⟩
         go_simp
         with_reducible rfl
        rotate_left
        ·simp only [Act.put, sA, sB, sC, i64_w, i32_w]
         rfl
        refine pure_ (i := 6) (N := some 24) (v := ?_) (a' := ?_) #[T,T,T,T,T,T,T,T,T,T,F,F,F] rfl rfl (any_of HT_.out (by kernel_rfl)) (fun _ _ _ h => h) (Or.inl ⟨by rfl, ?_⟩) ?_ ?_
        rotate_left
        ·intro w'
         go_simp
         with_reducible rfl
        rotate_left
        ·simp only [Act.put, sA, sB, sC, i64_w, i32_w]
         rfl
        refine one_ (i := 10) (N := some 28) #[T,T,T,T,T,T,T,T,T,T,T,F,F] rfl rfl (one_of HT_.out (by kernel_rfl)) (by decide) (fun K hK => ?_)
        refine goes_ Try.func24 (by kernel_rfl) rfl #[.slice (some ad261) l0.length c0, .slice A1 l1.length c1, .int .i64 x8_1, .bool false] (by rfl) rfl rfl (by (try simp only [List.map_toArray, List.map_cons, List.map_nil]); first | done | rfl | (simp only [List.length_drop, List.length_take]; rfl)) ?_
        with_reducible refine (billiardref17_sum.calls k1 _ _ l0 _ _ l1 x8_1 false t262 _ ?side1 ?side2 ?side3 ?side4 A5.out).mono ?_
        (case side1 => repeat (first | exact (Kd.C_below HR0.out HB.out) | (with_reducible refine Kd.C_alloc ?_ _) | (with_reducible refine Kd.C_drewN ?_ _) | (with_reducible refine Kd.C_drew ?_)))
        (case side2 => exact HC0.out)
        (case side3 => repeat (first | exact (Kd.C_below HR1.out HB.out) | (with_reducible refine Kd.C_alloc ?_ _) | (with_reducible refine Kd.C_drewN ?_ _) | (with_reducible refine Kd.C_drew ?_)))
        (case side4 => exact HC1.out)
        rintro e w21 ⟨rfl, hb⟩
        refine ⟨_, rfl, ?_⟩
        have n0_ := aM (Kd.R_below (by (with_reducible repeat (first | apply Kd.R_alloc | apply Kd.R_drewN | apply Kd.R_drew)); exact HO_6.out) hb)
        have n1_ := aM (lT (by repeat (first | (with_reducible first | exact HB.out | apply lA | apply lN | apply lD) | exact HB.out)) hb)
        clear HO_6
        clear HB
        have HO_6 := n0_
        have HB := n1_
        clear n0_ n1_
        (try clear hb)
        (try clear hb2)
        (try clear hk)
        (try clear hi)
        refine hK.out _ _ ⟨((HB.out.cell (World.block_lt_of_cell? w _ hw261_0)).trans hw261_0), ((HB.out.cell (World.block_lt_of_cell? w _ hw261_1)).trans hw261_1), ((HB.out.cell (World.block_lt_of_cell? w _ hw261_2)).trans hw261_2), ((HB.out.cell (World.block_lt_of_cell? w _ hw261_3)).trans hw261_3), ((HB.out.cell (World.block_lt_of_cell? w _ hw261_4)).trans hw261_4), ((HB.out.cell (World.block_lt_of_cell? w _ hw261_5)).trans hw261_5), ((HB.out.cell (World.block_lt_of_cell? w _ hw261_6)).trans hw261_6), ((HB.out.cell (World.block_lt_of_cell? w _ hw261_7)).trans hw261_7), ((HB.out.cell (World.block_lt_of_cell? w _ hw261_8)).trans hw261_8), ((HB.out.cell (World.block_lt_of_cell? w _ hw261_9)).trans hw261_9)⟩ (fun hHeld => ?_)
        clear hK K
        refine norm_ (a' := ?_) ?_ ?_
        rotate_left
        ·show Act.put _ (some 28) _ = _
         simp only [Act.put, sA, sB, sC, i64_w, i32_w]
         rfl
        refine pure_ (i := 11) (N := some 29) (v := ?_) (a' := ?_) #[T,T,T,T,T,T,T,T,T,T,T,T,F] rfl rfl (any_of HT_.out (by kernel_rfl)) (fun _ _ _ h => h) (Or.inl ⟨by rfl, ?_⟩) ?_ ?_
        rotate_left
        ·intro w'
         go_simp
         with_reducible rfl
        rotate_left
        ·simp only [Act.put, sA, sB, sC, i64_w, i32_w]
         rfl
        refine pure_ (i := 12) (N := some 9) (v := ?_) (a' := ?_) #[T,T,T,T,T,T,T,T,T,T,T,T,T] rfl rfl (any_of HT_.out (by kernel_rfl)) (fun _ _ _ h => h) (Or.inl ⟨by rfl, ?_⟩) ?_ ?_
        rotate_left
        ·intro w'
         go_simp
         with_reducible rfl
        rotate_left
        ·simp only [Act.put, sA, sB, sC, i64_w, i32_w]
         rfl
        refine done_ (done_of HT_.out (by kernel_rfl)) ?_
        try go_wp2
        have n0_ := aM (Kd.R_drew HO_6.out)
        have n1_ := aM (lD HB.out)
        clear HO_6
        clear HB
        have HO_6 := n0_
        have HB := n1_
        clear n0_ n1_
        have p263 : 0 ≤ (x8_1 : Int) := of_decide_eq_true (by first | (with_reducible assumption) | assumption)
        have q263 : x8_1 < (l0.length : Int) := of_decide_eq_true (by first | (with_reducible assumption) | assumption)
        obtain ⟨ad263, e263, hx263_0, hx263_1, hx263_2, hx263_3, hx263_4, hx263_5, hx263_6, hx263_7, hx263_8, hx263_9⟩ := at_T44 HR0.out x8_1 p263 q263
        have hw263_9 := hx263_9
        have hw263_8 := hx263_8
        have hw263_7 := hx263_7
        have hw263_6 := hx263_6
        have hw263_5 := hx263_5
        have hw263_4 := hx263_4
        have hw263_3 := hx263_3
        have hw263_2 := hx263_2
        have hw263_1 := hx263_1
        have hw263_0 := hx263_0
        obtain rfl : ad261 = ad263 := (by injection e263)
        replace hx263_0 := (HB.out.cell (World.block_lt_of_cell? w _ hx263_0)).trans hx263_0
        replace hx263_1 := (HB.out.cell (World.block_lt_of_cell? w _ hx263_1)).trans hx263_1
        replace hx263_2 := (HB.out.cell (World.block_lt_of_cell? w _ hx263_2)).trans hx263_2
        replace hx263_3 := (HB.out.cell (World.block_lt_of_cell? w _ hx263_3)).trans hx263_3
        replace hx263_4 := (HB.out.cell (World.block_lt_of_cell? w _ hx263_4)).trans hx263_4
        replace hx263_5 := (HB.out.cell (World.block_lt_of_cell? w _ hx263_5)).trans hx263_5
        replace hx263_6 := (HB.out.cell (World.block_lt_of_cell? w _ hx263_6)).trans hx263_6
        replace hx263_7 := (HB.out.cell (World.block_lt_of_cell? w _ hx263_7)).trans hx263_7
        replace hx263_8 := (HB.out.cell (World.block_lt_of_cell? w _ hx263_8)).trans hx263_8
        replace hx263_9 := (HB.out.cell (World.block_lt_of_cell? w _ hx263_9)).trans hx263_9
        replace p263 := eq_true p263
        replace q263 := eq_true q263
        refine start_ (n := 13) (S := fun w' => w'.cell? (ad261.add ((x8_1).toNat * 10)) = some (.int .u32 ((rd_T44 l0 x8_1).f0)) ∧ w'.cell? ⟨(ad261.add ((x8_1).toNat * 10)).block, (ad261.add ((x8_1).toNat * 10)).off + 1, none⟩ = some (.int .i32 ((rd_T44 l0 x8_1).f1)) ∧ w'.cell? ⟨(ad261.add ((x8_1).toNat * 10)).block, (ad261.add ((x8_1).toNat * 10)).off + 2, none⟩ = some (.int .i32 ((rd_T44 l0 x8_1).f2.f0)) ∧ w'.cell? ⟨(ad261.add ((x8_1).toNat * 10)).block, (ad261.add ((x8_1).toNat * 10)).off + 3, none⟩ = some (.int .i32 ((rd_T44 l0 x8_1).f2.f1)) ∧ w'.cell? ⟨(ad261.add ((x8_1).toNat * 10)).block, (ad261.add ((x8_1).toNat * 10)).off + 4, none⟩ = some (.int .i32 ((rd_T44 l0 x8_1).f3)) ∧ w'.cell? ⟨(ad261.add ((x8_1).toNat * 10)).block, (ad261.add ((x8_1).toNat * 10)).off + 5, none⟩ = some (.int .i32 ((rd_T44 l0 x8_1).f4)) ∧ w'.cell? ⟨(ad261.add ((x8_1).toNat * 10)).block, (ad261.add ((x8_1).toNat * 10)).off + 6, none⟩ = some (.int .i32 ((rd_T44 l0 x8_1).f5.f0)) ∧ w'.cell? ⟨(ad261.add ((x8_1).toNat * 10)).block, (ad261.add ((x8_1).toNat * 10)).off + 7, none⟩ = some (.int .i32 ((rd_T44 l0 x8_1).f5.f1)) ∧ w'.cell? ⟨(ad261.add ((x8_1).toNat * 10)).block, (ad261.add ((x8_1).toNat * 10)).off + 8, none⟩ = some (.int .i32 ((rd_T44 l0 x8_1).f6.f0)) ∧ w'.cell? ⟨(ad261.add ((x8_1).toNat * 10)).block, (ad261.add ((x8_1).toNat * 10)).off + 9, none⟩ = some (.int .i32 ((rd_T44 l0 x8_1).f6.f1))) (ds := []) #[F,F,F,F,F,F,F,F,F,F,F,F,F] (by kernel_rfl) rfl rfl ⟨((HB.out.cell (World.block_lt_of_cell? w _ hw263_0)).trans hw263_0), ((HB.out.cell (World.block_lt_of_cell? w _ hw263_1)).trans hw263_1), ((HB.out.cell (World.block_lt_of_cell? w _ hw263_2)).trans hw263_2), ((HB.out.cell (World.block_lt_of_cell? w _ hw263_3)).trans hw263_3), ((HB.out.cell (World.block_lt_of_cell? w _ hw263_4)).trans hw263_4), ((HB.out.cell (World.block_lt_of_cell? w _ hw263_5)).trans hw263_5), ((HB.out.cell (World.block_lt_of_cell? w _ hw263_6)).trans hw263_6), ((HB.out.cell (World.block_lt_of_cell? w _ hw263_7)).trans hw263_7), ((HB.out.cell (World.block_lt_of_cell? w _ hw263_8)).trans hw263_8), ((HB.out.cell (World.block_lt_of_cell? w _ hw263_9)).trans hw263_9)⟩ (fun hHeld => ?_); refine with_tabW billiardref17_Round.tab7 billiardref17_Round.bits7 (fun HT_ HW_ => ?_)
        generalize w21.drew = w22 at HO_6 HB hx263_0 hx263_1 hx263_2 hx263_3 hx263_4 hx263_5 hx263_6 hx263_7 hx263_8 hx263_9 hHeld ⊢
        refine pure_ (i := 0) (N := some 30) (v := ?_) (a' := ?_) #[T,F,F,F,F,F,F,F,F,F,F,F,F] rfl rfl (any_of HT_.out (by kernel_rfl)) (fun _ _ _ h => h) (Or.inl ⟨by rfl, ?_⟩) ?_ ?_
        rotate_left
        ·intro w'
         go_simp
         with_reducible rfl
        rotate_left
        ·simp only [Act.put, sA, sB, sC, i64_w, i32_w]
         rfl
        refine pure_ (i := 1) (N := some 31) (v := ?_) (a' := ?_) #[T,T,F,F,F,F,F,F,F,F,F,F,F] rfl rfl (any_of HT_.out (by kernel_rfl)) (fun _ _ _ h => h) (Or.inl ⟨by rfl, ?_⟩) ?_ ?_
        rotate_left
        ·intro w'
         go_simp
         with_reducible rfl
        rotate_left
        ·simp only [Act.put, sA, sB, sC, i64_w, i32_w]
         rfl
        refine pure_ (i := 2) (N := some 32) (v := ?_) (a' := ?_) #[T,T,T,F,F,F,F,F,F,F,F,F,F] rfl rfl (any_of HT_.out (by kernel_rfl)) (fun _ _ _ h => h) (Or.inl ⟨by rfl, ?_⟩) ?_ ?_
        rotate_left
        ·intro w'
         go_simp
         with_reducible rfl
        rotate_left
        ·simp only [Act.put, sA, sB, sC, i64_w, i32_w]
         rfl
        refine pure_ (i := 3) (N := some 33) (v := ?_) (a' := ?_) #[T,T,T,T,F,F,F,F,F,F,F,F,F] rfl rfl (any_of HT_.out (by kernel_rfl)) (fun _ _ _ h => h) (Or.inl ⟨by rfl, ?_⟩) ?_ ?_
        rotate_left
        ·intro w'
         go_simp
         with_reducible rfl
        rotate_left
        ·simp only [Act.put, sA, sB, sC, i64_w, i32_w]
         rfl
        refine pure_ (i := 4) (N := some 34) (v := ?_) (a' := ?_) #[T,T,T,T,T,F,F,F,F,F,F,F,F] rfl rfl (any_of HT_.out (by kernel_rfl)) (fun _ _ _ h => h) (Or.inl ⟨by rfl, ?_⟩) ?_ ?_
        rotate_left
        ·intro w'
         go_simp
         with_reducible rfl
        rotate_left
        ·simp only [Act.put, sA, sB, sC, i64_w, i32_w]
         rfl
        refine pure_ (i := 7) (N := some 37) (v := ?_) (a' := ?_) #[T,T,T,T,T,F,F,T,F,F,F,F,F] rfl rfl (any_of HT_.out (by kernel_rfl)) (fun _ _ _ h => h) (Or.inl ⟨by rfl, ?_⟩) ?_ ?_
        rotate_left
        ·intro w'
         go_simp
         with_reducible rfl
        rotate_left
        ·simp only [Act.put, sA, sB, sC, i64_w, i32_w]
         rfl
        refine pure_ (i := 8) (N := some 38) (v := ?_) (a' := ?_) #[T,T,T,T,T,F,F,T,T,F,F,F,F] rfl rfl (any_of HT_.out (by kernel_rfl)) (fun _ _ _ h => h) (Or.inl ⟨by rfl, ?_⟩) ?_ ?_
        rotate_left
        ·intro w'
         go_simp
         with_reducible rfl
        rotate_left
        ·simp only [Act.put, sA, sB, sC, i64_w, i32_w]
         rfl
        refine pure_ (i := 9) (N := some 39) (v := ?_) (a' := ?_) #[T,T,T,T,T,F,F,T,T,T,F,F,F] rfl rfl (any_of HT_.out (by kernel_rfl)) (fun _ _ _ h => h) (Or.inl ⟨by rfl, ?_⟩) ?_ ?_
        rotate_left
        ·intro w'
         go_simp
         with_reducible rfl
        rotate_left
        ·simp only [Act.put, sA, sB, sC, i64_w, i32_w]
         rfl
        refine take_ (i := 5) (N := some 35) (v := ?_) (a' := ?_) #[T,T,T,T,T,T,F,T,T,T,F,F,F] rfl rfl (take_ofW HT_.out HW_.out (by kernel_rfl)) (fun _ _ _ h => h) (Or.inl ⟨by rfl, ?_⟩) hHeld ?_ ?_
        rotate_left
        ·rintro w' ⟨s0, s1, s2, s3, s4, s5, s6, s7, s8, s9⟩
         go_simp
         with_reducible rfl
        rotate_left
        ·simp only [Act.put, sA, sB, sC, i64_w, i32_w]
         rfl
        refine pure_ (i := 6) (N := some 36) (v := ?_) (a' := ?_) #[T,T,T,T,T,T,T,T,T,T,F,F,F] rfl rfl (any_of HT_.out (by kernel_rfl)) (fun _ _ _ h => h) (Or.inl ⟨by rfl, ?_⟩) ?_ ?_
        rotate_left
        ·intro w'
         go_simp
         with_reducible rfl
        rotate_left
        ·simp only [Act.put, sA, sB, sC, i64_w, i32_w]
         rfl
        refine one_ (i := 10) (N := some 40) #[T,T,T,T,T,T,T,T,T,T,T,F,F] rfl rfl (one_of HT_.out (by kernel_rfl)) (by decide) (fun K hK => ?_)
        refine goes_ Try.func24 (by kernel_rfl) rfl #[.slice (some ad261) l0.length c0, .slice A1 l1.length c1, .int .i64 x8_1, .bool true] (by rfl) rfl rfl (by (try simp only [List.map_toArray, List.map_cons, List.map_nil]); first | done | rfl | (simp only [List.length_drop, List.length_take]; rfl)) ?_
        with_reducible refine (billiardref17_sum.calls k1 _ _ l0 _ _ l1 x8_1 true t264 _ ?side1 ?side2 ?side3 ?side4 A6.out).mono ?_
        (case side1 => repeat (first | exact (Kd.C_below HR0.out HB.out) | (with_reducible refine Kd.C_alloc ?_ _) | (with_reducible refine Kd.C_drewN ?_ _) | (with_reducible refine Kd.C_drew ?_)))
        (case side2 => exact HC0.out)
        (case side3 => repeat (first | exact (Kd.C_below HR1.out HB.out) | (with_reducible refine Kd.C_alloc ?_ _) | (with_reducible refine Kd.C_drewN ?_ _) | (with_reducible refine Kd.C_drew ?_)))
        (case side4 => exact HC1.out)
        rintro e w23 ⟨rfl, hb⟩
        refine ⟨_, rfl, ?_⟩
        have n0_ := aM (Kd.R_below (by (with_reducible repeat (first | apply Kd.R_alloc | apply Kd.R_drewN | apply Kd.R_drew)); exact HO_6.out) hb)
        have n1_ := aM (lT (by repeat (first | (with_reducible first | exact HB.out | apply lA | apply lN | apply lD) | exact HB.out)) hb)
        clear HO_6
        clear HB
        have HO_6 := n0_
        have HB := n1_
        clear n0_ n1_
        (try clear hb)
        (try clear hb2)
        (try clear hk)
        (try clear hi)
        refine hK.out _ _ ⟨((HB.out.cell (World.block_lt_of_cell? w _ hw263_0)).trans hw263_0), ((HB.out.cell (World.block_lt_of_cell? w _ hw263_1)).trans hw263_1), ((HB.out.cell (World.block_lt_of_cell? w _ hw263_2)).trans hw263_2), ((HB.out.cell (World.block_lt_of_cell? w _ hw263_3)).trans hw263_3), ((HB.out.cell (World.block_lt_of_cell? w _ hw263_4)).trans hw263_4), ((HB.out.cell (World.block_lt_of_cell? w _ hw263_5)).trans hw263_5), ((HB.out.cell (World.block_lt_of_cell? w _ hw263_6)).trans hw263_6), ((HB.out.cell (World.block_lt_of_cell? w _ hw263_7)).trans hw263_7), ((HB.out.cell (World.block_lt_of_cell? w _ hw263_8)).trans hw263_8), ((HB.out.cell (World.block_lt_of_cell? w _ hw263_9)).trans hw263_9)⟩ (fun hHeld => ?_)
        clear hK K
        refine norm_ (a' := ?_) ?_ ?_
        rotate_left
        ·show Act.put _ (some 40) _ = _
         simp only [Act.put, sA, sB, sC, i64_w, i32_w]
         rfl
        refine pure_ (i := 11) (N := some 41) (v := ?_) (a' := ?_) #[T,T,T,T,T,T,T,T,T,T,T,T,F] rfl rfl (any_of HT_.out (by kernel_rfl)) (fun _ _ _ h => h) (Or.inl ⟨by rfl, ?_⟩) ?_ ?_
        rotate_left
        ·intro w'
         go_simp
         with_reducible rfl
        rotate_left
        ·simp only [Act.put, sA, sB, sC, i64_w, i32_w]
         rfl
        refine pure_ (i := 12) (N := some 10) (v := ?_) (a' := ?_) #[T,T,T,T,T,T,T,T,T,T,T,T,T] rfl rfl (any_of HT_.out (by kernel_rfl)) (fun _ _ _ h => h) (Or.inl ⟨by rfl, ?_⟩) ?_ ?_
        rotate_left
        ·intro w'
         go_simp
         with_reducible rfl
        rotate_left
        ·simp only [Act.put, sA, sB, sC, i64_w, i32_w]
         rfl
        refine done_ (done_of HT_.out (by kernel_rfl)) ?_
        have p265 : 0 ≤ (x8_1 : Int) := of_decide_eq_true (by first | (with_reducible assumption) | assumption)
        have q265 : x8_1 < (l0.length : Int) := of_decide_eq_true (by first | (with_reducible assumption) | assumption)
        obtain ⟨ad265, e265, hx265_0, hx265_1, hx265_2, hx265_3, hx265_4, hx265_5, hx265_6, hx265_7, hx265_8, hx265_9⟩ := at_T44 HR0.out x8_1 p265 q265
        obtain rfl : ad261 = ad265 := (by injection e265)
        replace hx265_0 := (HB.out.cell (World.block_lt_of_cell? w _ hx265_0)).trans hx265_0
        replace hx265_1 := (HB.out.cell (World.block_lt_of_cell? w _ hx265_1)).trans hx265_1
        replace hx265_2 := (HB.out.cell (World.block_lt_of_cell? w _ hx265_2)).trans hx265_2
        replace hx265_3 := (HB.out.cell (World.block_lt_of_cell? w _ hx265_3)).trans hx265_3
        replace hx265_4 := (HB.out.cell (World.block_lt_of_cell? w _ hx265_4)).trans hx265_4
        replace hx265_5 := (HB.out.cell (World.block_lt_of_cell? w _ hx265_5)).trans hx265_5
        replace hx265_6 := (HB.out.cell (World.block_lt_of_cell? w _ hx265_6)).trans hx265_6
        replace hx265_7 := (HB.out.cell (World.block_lt_of_cell? w _ hx265_7)).trans hx265_7
        replace hx265_8 := (HB.out.cell (World.block_lt_of_cell? w _ hx265_8)).trans hx265_8
        replace hx265_9 := (HB.out.cell (World.block_lt_of_cell? w _ hx265_9)).trans hx265_9
        replace p265 := eq_true p265
        replace q265 := eq_true q265
        go_wp2_with (first | ((with_reducible refine gate_callee (f := 25) rfl ?_); refine goesL_ (some 47) rfl rfl Try.func25 (by kernel_rfl) rfl #[.int .i64 (wrap64 ((wrap64 ((rd_T44 l0 x8_1).f6.f0)) + t262)), .int .i64 16777216] rfl (by (try simp only [List.map_toArray, List.map_cons, List.map_nil]); first | done | rfl | (simp only [List.length_drop, List.length_take]; rfl)) ?_; (with_reducible refine (billiardref02_Limit.calls (wrap64 ((wrap64 ((rd_T44 l0 x8_1).f6.f0)) + t262)) 16777216 t267 _ A7.out).mono ?_); rintro e w' ⟨rfl, ⟨nd, rfl⟩⟩; refine ⟨_, rfl, ?_⟩) | ((with_reducible refine gate_callee (f := 25) rfl ?_); refine goesL_ (some 50) rfl rfl Try.func25 (by kernel_rfl) rfl #[.int .i64 (wrap64 ((wrap64 ((rd_T44 l0 x8_1).f6.f1)) + t264)), .int .i64 16777216] rfl (by (try simp only [List.map_toArray, List.map_cons, List.map_nil]); first | done | rfl | (simp only [List.length_drop, List.length_take]; rfl)) ?_; (with_reducible refine (billiardref02_Limit.calls (wrap64 ((wrap64 ((rd_T44 l0 x8_1).f6.f1)) + t264)) 16777216 t268 _ A8.out).mono ?_); rintro e w' ⟨rfl, ⟨nd, rfl⟩⟩; refine ⟨_, rfl, ?_⟩) | ((with_reducible refine gate_builtin (b := .append) (xs := #[.tmp 71, .tmp 73]) rfl ?_); at_builtin; refine Kd.R_append k44 (w0 := w) w.heap.size rfl (.tmp 71) (.tmp 73) 22 44 (.agg #[(.int .u32 0), (.int .i32 0), (.int .i32 0), (.int .i32 0), (.int .i32 0), (.int .i32 0), (.int .i32 0), (.int .i32 0), (.int .i32 0), (.int .i32 0)]) 40 rfl Try.underlying22 info44 rfl (by decide) (by omega) u6 x6_1 (⟨(rd_T44 l0 x8_1).f0, (rd_T44 l0 x8_1).f1, (⟨(rd_T44 l0 x8_1).f2.f0, (rd_T44 l0 x8_1).f2.f1⟩ : S39), (rd_T44 l0 x8_1).f3, (rd_T44 l0 x8_1).f4, (⟨(rd_T44 l0 x8_1).f5.f0, (rd_T44 l0 x8_1).f5.f1⟩ : S39), (⟨wrap32 (t267), wrap32 (t268)⟩ : S39)⟩ : S44) [.int .u32 ((rd_T44 l0 x8_1).f0), .int .i32 ((rd_T44 l0 x8_1).f1), .int .i32 ((rd_T44 l0 x8_1).f2.f0), .int .i32 ((rd_T44 l0 x8_1).f2.f1), .int .i32 ((rd_T44 l0 x8_1).f3), .int .i32 ((rd_T44 l0 x8_1).f4), .int .i32 ((rd_T44 l0 x8_1).f5.f0), .int .i32 ((rd_T44 l0 x8_1).f5.f1), .int .i32 (wrap32 (t267)), .int .i32 (wrap32 (t268))] (fun _ => True) (fun _ => False) rfl (by first | (go_simp; done) | (go_simp; rfl)) ?aP (fun _ hk => hk.elim) ?aF ?aO ?aB ?aS ?aL ?_; (case aP => exact k44_mkM _ _ _ (⟨(rd_T44 l0 x8_1).f0, (rd_T44 l0 x8_1).f1, (⟨(rd_T44 l0 x8_1).f2.f0, (rd_T44 l0 x8_1).f2.f1⟩ : S39), (rd_T44 l0 x8_1).f3, (rd_T44 l0 x8_1).f4, (⟨(rd_T44 l0 x8_1).f5.f0, (rd_T44 l0 x8_1).f5.f1⟩ : S39), (⟨wrap32 (t267), wrap32 (t268)⟩ : S39)⟩ : S44)); (case aB => exact (lS (lS (lN (lA HB.out _) _) (lZ HB.out)) (lZ HB.out))); (case aF => exact fun _ _ => trivial); (case aO => exact Kd.R_mono (Kd.R_far (p := ⟨_, 9, none⟩) (Kd.R_far (p := ⟨_, 8, none⟩) (Kd.R_drewN (Kd.R_alloc (Kd.R_elderB HO_6.out _ (Nat.le_refl _)) _) _) (fun _ hk => hk.2) _) (fun _ hk => hk.2) _) (fun _ _ => trivial)); (case aS => exact lZ (lS (lS (lN (lA HB.out _) _) (lZ HB.out)) (lZ HB.out))); (case aL => have := LMc19.out; omega); intro v273 w26 ho hb hg hat; rw [← Ny272.out] at ho; have n1_ := aM (hb); have n2_ := aM (ho); clear HB HO_6; have HB := n1_; have HO274 := n2_; clear n1_ n2_ ho hb hg hat))
        go_roundg k1
        case measure => have := HK1.out; omega
        case rel => exact ⟨(y272), (((wrap64 (wrap32 (t268))) != (wrap64 ((wrap64 ((rd_T44 l0 x8_1).f6.f1)) + t264)))), (wrap64 (x8_1 + 1)), (by first | rfl | (simp; done) | (simp [*]; done)), (by first | rfl | (simp; done) | (simp [*]; done)), H', ⟨by have := HK1.out; omega⟩, ⟨by (with_reducible repeat (first | apply Kd.R_alloc | apply Kd.R_drewN | apply Kd.R_drew)); exact Kd.R_mono HO274.out (fun _ hk => trivial)⟩, ⟨by repeat (first | (with_reducible first | exact HB.out | apply lA | apply lN | apply lD) | exact HB.out)⟩⟩
       ·rw [if_neg c19] at H
        exact absurd H (by simp)
      ·rw [if_neg c18] at H
       have c18b0 : ((wrap64 (wrap32 (t267))) == (wrap64 ((wrap64 ((rd_T44 l0 x8_1).f6.f0)) + t262))) = false := beq_eq_false_iff_ne.mpr c18
       have c18b1 : ((wrap64 (wrap32 (t267))) != (wrap64 ((wrap64 ((rd_T44 l0 x8_1).f6.f0)) + t262))) = true := bne_iff_ne.mpr c18
       by_cases c27 : x6_1.length < 3518437208883
       ·rw [if_pos c27] at H
        have LMc27 := aM c27
        clear c27
        obtain ⟨y275, hy275⟩ : ∃ y_ : List (S44), y_ = (x6_1 ++ [(⟨(rd_T44 l0 x8_1).f0, (rd_T44 l0 x8_1).f1, (⟨(rd_T44 l0 x8_1).f2.f0, (rd_T44 l0 x8_1).f2.f1⟩ : S39), (rd_T44 l0 x8_1).f3, (rd_T44 l0 x8_1).f4, (⟨(rd_T44 l0 x8_1).f5.f0, (rd_T44 l0 x8_1).f5.f1⟩ : S39), (⟨wrap32 (t267), wrap32 (t268)⟩ : S39)⟩ : S44)]) := ⟨_, rfl⟩
        replace H : (billiardref17_Round.l0 k1 l0 l1 y275 true (wrap64 (x8_1 + 1))) = some (r1, r2) := by first | (rw [hy275]; with_reducible exact H) | (have H2_ := (Option.bind_some _ _).symm.trans H; rw [hy275]; with_reducible exact H2_) | (have H2_ := (Option.bind_some _ _).symm.trans H; with_reducible exact H2_) | with_reducible exact H | (rw [hy275]; exact H) | exact H
        have Ny275 := aM hy275
        clear hy275
        have H' := aM H
        clear H
        try go_wp2
        have n0_ := aM (Kd.R_drew HO_6.out)
        have n1_ := aM (lD HB.out)
        clear HO_6
        clear HB
        have HO_6 := n0_
        have HB := n1_
        clear n0_ n1_
        have p261 : 0 ≤ (x8_1 : Int) := of_decide_eq_true (by first | (with_reducible assumption) | assumption)
        have q261 : x8_1 < (l0.length : Int) := of_decide_eq_true (by first | (with_reducible assumption) | assumption)
        obtain ⟨ad261, e261, hx261_0, hx261_1, hx261_2, hx261_3, hx261_4, hx261_5, hx261_6, hx261_7, hx261_8, hx261_9⟩ := at_T44 HR0.out x8_1 p261 q261
        have hw261_9 := hx261_9
        have hw261_8 := hx261_8
        have hw261_7 := hx261_7
        have hw261_6 := hx261_6
        have hw261_5 := hx261_5
        have hw261_4 := hx261_4
        have hw261_3 := hx261_3
        have hw261_2 := hx261_2
        have hw261_1 := hx261_1
        have hw261_0 := hx261_0
        cases e261
        replace hx261_0 := (HB.out.cell (World.block_lt_of_cell? w _ hx261_0)).trans hx261_0
        replace hx261_1 := (HB.out.cell (World.block_lt_of_cell? w _ hx261_1)).trans hx261_1
        replace hx261_2 := (HB.out.cell (World.block_lt_of_cell? w _ hx261_2)).trans hx261_2
        replace hx261_3 := (HB.out.cell (World.block_lt_of_cell? w _ hx261_3)).trans hx261_3
        replace hx261_4 := (HB.out.cell (World.block_lt_of_cell? w _ hx261_4)).trans hx261_4
        replace hx261_5 := (HB.out.cell (World.block_lt_of_cell? w _ hx261_5)).trans hx261_5
        replace hx261_6 := (HB.out.cell (World.block_lt_of_cell? w _ hx261_6)).trans hx261_6
        replace hx261_7 := (HB.out.cell (World.block_lt_of_cell? w _ hx261_7)).trans hx261_7
        replace hx261_8 := (HB.out.cell (World.block_lt_of_cell? w _ hx261_8)).trans hx261_8
        replace hx261_9 := (HB.out.cell (World.block_lt_of_cell? w _ hx261_9)).trans hx261_9
        replace p261 := eq_true p261
        replace q261 := eq_true q261
        refine start_ (n := 13) (S := fun w' => w'.cell? (ad261.add ((x8_1).toNat * 10)) = some (.int .u32 ((rd_T44 l0 x8_1).f0)) ∧ w'.cell? ⟨(ad261.add ((x8_1).toNat * 10)).block, (ad261.add ((x8_1).toNat * 10)).off + 1, none⟩ = some (.int .i32 ((rd_T44 l0 x8_1).f1)) ∧ w'.cell? ⟨(ad261.add ((x8_1).toNat * 10)).block, (ad261.add ((x8_1).toNat * 10)).off + 2, none⟩ = some (.int .i32 ((rd_T44 l0 x8_1).f2.f0)) ∧ w'.cell? ⟨(ad261.add ((x8_1).toNat * 10)).block, (ad261.add ((x8_1).toNat * 10)).off + 3, none⟩ = some (.int .i32 ((rd_T44 l0 x8_1).f2.f1)) ∧ w'.cell? ⟨(ad261.add ((x8_1).toNat * 10)).block, (ad261.add ((x8_1).toNat * 10)).off + 4, none⟩ = some (.int .i32 ((rd_T44 l0 x8_1).f3)) ∧ w'.cell? ⟨(ad261.add ((x8_1).toNat * 10)).block, (ad261.add ((x8_1).toNat * 10)).off + 5, none⟩ = some (.int .i32 ((rd_T44 l0 x8_1).f4)) ∧ w'.cell? ⟨(ad261.add ((x8_1).toNat * 10)).block, (ad261.add ((x8_1).toNat * 10)).off + 6, none⟩ = some (.int .i32 ((rd_T44 l0 x8_1).f5.f0)) ∧ w'.cell? ⟨(ad261.add ((x8_1).toNat * 10)).block, (ad261.add ((x8_1).toNat * 10)).off + 7, none⟩ = some (.int .i32 ((rd_T44 l0 x8_1).f5.f1)) ∧ w'.cell? ⟨(ad261.add ((x8_1).toNat * 10)).block, (ad261.add ((x8_1).toNat * 10)).off + 8, none⟩ = some (.int .i32 ((rd_T44 l0 x8_1).f6.f0)) ∧ w'.cell? ⟨(ad261.add ((x8_1).toNat * 10)).block, (ad261.add ((x8_1).toNat * 10)).off + 9, none⟩ = some (.int .i32 ((rd_T44 l0 x8_1).f6.f1))) (ds := []) #[F,F,F,F,F,F,F,F,F,F,F,F,F] (by kernel_rfl) rfl rfl ⟨((HB.out.cell (World.block_lt_of_cell? w _ hw261_0)).trans hw261_0), ((HB.out.cell (World.block_lt_of_cell? w _ hw261_1)).trans hw261_1), ((HB.out.cell (World.block_lt_of_cell? w _ hw261_2)).trans hw261_2), ((HB.out.cell (World.block_lt_of_cell? w _ hw261_3)).trans hw261_3), ((HB.out.cell (World.block_lt_of_cell? w _ hw261_4)).trans hw261_4), ((HB.out.cell (World.block_lt_of_cell? w _ hw261_5)).trans hw261_5), ((HB.out.cell (World.block_lt_of_cell? w _ hw261_6)).trans hw261_6), ((HB.out.cell (World.block_lt_of_cell? w _ hw261_7)).trans hw261_7), ((HB.out.cell (World.block_lt_of_cell? w _ hw261_8)).trans hw261_8), ((HB.out.cell (World.block_lt_of_cell? w _ hw261_9)).trans hw261_9)⟩ (fun hHeld => ?_); refine with_tabW billiardref17_Round.tab6 billiardref17_Round.bits6 (fun HT_ HW_ => ?_)
        generalize wr.drew = w28 at HO_6 HB hx261_0 hx261_1 hx261_2 hx261_3 hx261_4 hx261_5 hx261_6 hx261_7 hx261_8 hx261_9 hHeld ⊢
        refine pure_ (i := 0) (N := some 18) (v := ?_) (a' := ?_) #[T,F,F,F,F,F,F,F,F,F,F,F,F] rfl rfl (any_of HT_.out (by kernel_rfl)) (fun _ _ _ h => h) (Or.inl ⟨by rfl, ?_⟩) ?_ ?_
        rotate_left
        ·intro w'
         go_simp
         with_reducible rfl
        rotate_left
        ·simp only [Act.put, sA, sB, sC, i64_w, i32_w]
         rfl
        refine pure_ (i := 1) (N := some 19) (v := ?_) (a' := ?_) #[T,T,F,F,F,F,F,F,F,F,F,F,F] rfl rfl (any_of HT_.out (by kernel_rfl)) (fun _ _ _ h => h) (Or.inl ⟨by rfl, ?_⟩) ?_ ?_
        rotate_left
        ·intro w'
         go_simp
         with_reducible rfl
        rotate_left
        ·simp only [Act.put, sA, sB, sC, i64_w, i32_w]
         rfl
        refine pure_ (i := 2) (N := some 20) (v := ?_) (a' := ?_) #[T,T,T,F,F,F,F,F,F,F,F,F,F] rfl rfl (any_of HT_.out (by kernel_rfl)) (fun _ _ _ h => h) (Or.inl ⟨by rfl, ?_⟩) ?_ ?_
        rotate_left
        ·intro w'
         go_simp
         with_reducible rfl
        rotate_left
        ·simp only [Act.put, sA, sB, sC, i64_w, i32_w]
         rfl
        refine pure_ (i := 3) (N := some 21) (v := ?_) (a' := ?_) #[T,T,T,T,F,F,F,F,F,F,F,F,F] rfl rfl (any_of HT_.out (by kernel_rfl)) (fun _ _ _ h => h) (Or.inl ⟨by rfl, ?_⟩) ?_ ?_
        rotate_left
        ·intro w'
         go_simp
         with_reducible rfl
        rotate_left
        ·simp only [Act.put, sA, sB, sC, i64_w, i32_w]
         rfl
        refine pure_ (i := 4) (N := some 22) (v := ?_) (a' := ?_) #[T,T,T,T,T,F,F,F,F,F,F,F,F] rfl rfl (any_of HT_.out (by kernel_rfl)) (fun _ _ _ h => h) (Or.inl ⟨by rfl, ?_⟩) ?_ ?_
        rotate_left
        ·intro w'
         go_simp
         with_reducible rfl
        rotate_left
        ·simp only [Act.put, sA, sB, sC, i64_w, i32_w]
         rfl
        refine pure_ (i := 7) (N := some 25) (v := ?_) (a' := ?_) #[T,T,T,T,T,F,F,T,F,F,F,F,F] rfl rfl (any_of HT_.out (by kernel_rfl)) (fun _ _ _ h => h) (Or.inl ⟨by rfl, ?_⟩) ?_ ?_
        rotate_left
        ·intro w'
         go_simp
         with_reducible rfl
        rotate_left
        ·simp only [Act.put, sA, sB, sC, i64_w, i32_w]
         rfl
        refine pure_ (i := 8) (N := some 26) (v := ?_) (a' := ?_) #[T,T,T,T,T,F,F,T,T,F,F,F,F] rfl rfl (any_of HT_.out (by kernel_rfl)) (fun _ _ _ h => h) (Or.inl ⟨by rfl, ?_⟩) ?_ ?_
        rotate_left
        ·intro w'
         go_simp
         with_reducible rfl
        rotate_left
        ·simp only [Act.put, sA, sB, sC, i64_w, i32_w]
         rfl
        refine pure_ (i := 9) (N := some 27) (v := ?_) (a' := ?_) #[T,T,T,T,T,F,F,T,T,T,F,F,F] rfl rfl (any_of HT_.out (by kernel_rfl)) (fun _ _ _ h => h) (Or.inl ⟨by rfl, ?_⟩) ?_ ?_
        rotate_left
        ·intro w'
         go_simp
         with_reducible rfl
        rotate_left
        ·simp only [Act.put, sA, sB, sC, i64_w, i32_w]
         rfl
        refine take_ (i := 5) (N := some 23) (v := ?_) (a' := ?_) #[T,T,T,T,T,T,F,T,T,T,F,F,F] rfl rfl (take_ofW HT_.out HW_.out (by kernel_rfl)) (fun _ _ _ h => h) (Or.inl ⟨by rfl, ?_⟩) hHeld ?_ ?_
        rotate_left
        ·rintro w' ⟨s0, s1, s2, s3, s4, s5, s6, s7, s8, s9⟩
         go_simp
         with_reducible rfl
        rotate_left
        ·simp only [Act.put, sA, sB, sC, i64_w, i32_w]
         rfl
        refine pure_ (i := 6) (N := some 24) (v := ?_) (a' := ?_) #[T,T,T,T,T,T,T,T,T,T,F,F,F] rfl rfl (any_of HT_.out (by kernel_rfl)) (fun _ _ _ h => h) (Or.inl ⟨by rfl, ?_⟩) ?_ ?_
        rotate_left
        ·intro w'
         go_simp
         with_reducible rfl
        rotate_left
        ·simp only [Act.put, sA, sB, sC, i64_w, i32_w]
         rfl
        refine one_ (i := 10) (N := some 28) #[T,T,T,T,T,T,T,T,T,T,T,F,F] rfl rfl (one_of HT_.out (by kernel_rfl)) (by decide) (fun K hK => ?_)
        refine goes_ Try.func24 (by kernel_rfl) rfl #[.slice (some ad261) l0.length c0, .slice A1 l1.length c1, .int .i64 x8_1, .bool false] (by rfl) rfl rfl (by (try simp only [List.map_toArray, List.map_cons, List.map_nil]); first | done | rfl | (simp only [List.length_drop, List.length_take]; rfl)) ?_
        with_reducible refine (billiardref17_sum.calls k1 _ _ l0 _ _ l1 x8_1 false t262 _ ?side1 ?side2 ?side3 ?side4 A5.out).mono ?_
        (case side1 => repeat (first | exact (Kd.C_below HR0.out HB.out) | (with_reducible refine Kd.C_alloc ?_ _) | (with_reducible refine Kd.C_drewN ?_ _) | (with_reducible refine Kd.C_drew ?_)))
        (case side2 => exact HC0.out)
        (case side3 => repeat (first | exact (Kd.C_below HR1.out HB.out) | (with_reducible refine Kd.C_alloc ?_ _) | (with_reducible refine Kd.C_drewN ?_ _) | (with_reducible refine Kd.C_drew ?_)))
        (case side4 => exact HC1.out)
        rintro e w29 ⟨rfl, hb⟩
        refine ⟨_, rfl, ?_⟩
        have n0_ := aM (Kd.R_below (by (with_reducible repeat (first | apply Kd.R_alloc | apply Kd.R_drewN | apply Kd.R_drew)); exact HO_6.out) hb)
        have n1_ := aM (lT (by repeat (first | (with_reducible first | exact HB.out | apply lA | apply lN | apply lD) | exact HB.out)) hb)
        clear HO_6
        clear HB
        have HO_6 := n0_
        have HB := n1_
        clear n0_ n1_
        (try clear hb)
        (try clear hb2)
        (try clear hk)
        (try clear hi)
        refine hK.out _ _ ⟨((HB.out.cell (World.block_lt_of_cell? w _ hw261_0)).trans hw261_0), ((HB.out.cell (World.block_lt_of_cell? w _ hw261_1)).trans hw261_1), ((HB.out.cell (World.block_lt_of_cell? w _ hw261_2)).trans hw261_2), ((HB.out.cell (World.block_lt_of_cell? w _ hw261_3)).trans hw261_3), ((HB.out.cell (World.block_lt_of_cell? w _ hw261_4)).trans hw261_4), ((HB.out.cell (World.block_lt_of_cell? w _ hw261_5)).trans hw261_5), ((HB.out.cell (World.block_lt_of_cell? w _ hw261_6)).trans hw261_6), ((HB.out.cell (World.block_lt_of_cell? w _ hw261_7)).trans hw261_7), ((HB.out.cell (World.block_lt_of_cell? w _ hw261_8)).trans hw261_8), ((HB.out.cell (World.block_lt_of_cell? w _ hw261_9)).trans hw261_9)⟩ (fun hHeld => ?_)
        clear hK K
        refine norm_ (a' := ?_) ?_ ?_
        rotate_left
        ·show Act.put _ (some 28) _ = _
         simp only [Act.put, sA, sB, sC, i64_w, i32_w]
         rfl
        refine pure_ (i := 11) (N := some 29) (v := ?_) (a' := ?_) #[T,T,T,T,T,T,T,T,T,T,T,T,F] rfl rfl (any_of HT_.out (by kernel_rfl)) (fun _ _ _ h => h) (Or.inl ⟨by rfl, ?_⟩) ?_ ?_
        rotate_left
        ·intro w'
         go_simp
         with_reducible rfl
        rotate_left
        ·simp only [Act.put, sA, sB, sC, i64_w, i32_w]
         rfl
        refine pure_ (i := 12) (N := some 9) (v := ?_) (a' := ?_) #[T,T,T,T,T,T,T,T,T,T,T,T,T] rfl rfl (any_of HT_.out (by kernel_rfl)) (fun _ _ _ h => h) (Or.inl ⟨by rfl, ?_⟩) ?_ ?_
        rotate_left
        ·intro w'
         go_simp
         with_reducible rfl
        rotate_left
        ·simp only [Act.put, sA, sB, sC, i64_w, i32_w]
         rfl
        refine done_ (done_of HT_.out (by kernel_rfl)) ?_
        try go_wp2
        have n0_ := aM (Kd.R_drew HO_6.out)
        have n1_ := aM (lD HB.out)
        clear HO_6
        clear HB
        have HO_6 := n0_
        have HB := n1_
        clear n0_ n1_
        have p263 : 0 ≤ (x8_1 : Int) := of_decide_eq_true (by first | (with_reducible assumption) | assumption)
        have q263 : x8_1 < (l0.length : Int) := of_decide_eq_true (by first | (with_reducible assumption) | assumption)
        obtain ⟨ad263, e263, hx263_0, hx263_1, hx263_2, hx263_3, hx263_4, hx263_5, hx263_6, hx263_7, hx263_8, hx263_9⟩ := at_T44 HR0.out x8_1 p263 q263
        have hw263_9 := hx263_9
        have hw263_8 := hx263_8
        have hw263_7 := hx263_7
        have hw263_6 := hx263_6
        have hw263_5 := hx263_5
        have hw263_4 := hx263_4
        have hw263_3 := hx263_3
        have hw263_2 := hx263_2
        have hw263_1 := hx263_1
        have hw263_0 := hx263_0
        obtain rfl : ad261 = ad263 := (by injection e263)
        replace hx263_0 := (HB.out.cell (World.block_lt_of_cell? w _ hx263_0)).trans hx263_0
        replace hx263_1 := (HB.out.cell (World.block_lt_of_cell? w _ hx263_1)).trans hx263_1
        replace hx263_2 := (HB.out.cell (World.block_lt_of_cell? w _ hx263_2)).trans hx263_2
        replace hx263_3 := (HB.out.cell (World.block_lt_of_cell? w _ hx263_3)).trans hx263_3
        replace hx263_4 := (HB.out.cell (World.block_lt_of_cell? w _ hx263_4)).trans hx263_4
        replace hx263_5 := (HB.out.cell (World.block_lt_of_cell? w _ hx263_5)).trans hx263_5
        replace hx263_6 := (HB.out.cell (World.block_lt_of_cell? w _ hx263_6)).trans hx263_6
        replace hx263_7 := (HB.out.cell (World.block_lt_of_cell? w _ hx263_7)).trans hx263_7
        replace hx263_8 := (HB.out.cell (World.block_lt_of_cell? w _ hx263_8)).trans hx263_8
        replace hx263_9 := (HB.out.cell (World.block_lt_of_cell? w _ hx263_9)).trans hx263_9
        replace p263 := eq_true p263
        replace q263 := eq_true q263
        refine start_ (n := 13) (S := fun w' => w'.cell? (ad261.add ((x8_1).toNat * 10)) = some (.int .u32 ((rd_T44 l0 x8_1).f0)) ∧ w'.cell? ⟨(ad261.add ((x8_1).toNat * 10)).block, (ad261.add ((x8_1).toNat * 10)).off + 1, none⟩ = some (.int .i32 ((rd_T44 l0 x8_1).f1)) ∧ w'.cell? ⟨(ad261.add ((x8_1).toNat * 10)).block, (ad261.add ((x8_1).toNat * 10)).off + 2, none⟩ = some (.int .i32 ((rd_T44 l0 x8_1).f2.f0)) ∧ w'.cell? ⟨(ad261.add ((x8_1).toNat * 10)).block, (ad261.add ((x8_1).toNat * 10)).off + 3, none⟩ = some (.int .i32 ((rd_T44 l0 x8_1).f2.f1)) ∧ w'.cell? ⟨(ad261.add ((x8_1).toNat * 10)).block, (ad261.add ((x8_1).toNat * 10)).off + 4, none⟩ = some (.int .i32 ((rd_T44 l0 x8_1).f3)) ∧ w'.cell? ⟨(ad261.add ((x8_1).toNat * 10)).block, (ad261.add ((x8_1).toNat * 10)).off + 5, none⟩ = some (.int .i32 ((rd_T44 l0 x8_1).f4)) ∧ w'.cell? ⟨(ad261.add ((x8_1).toNat * 10)).block, (ad261.add ((x8_1).toNat * 10)).off + 6, none⟩ = some (.int .i32 ((rd_T44 l0 x8_1).f5.f0)) ∧ w'.cell? ⟨(ad261.add ((x8_1).toNat * 10)).block, (ad261.add ((x8_1).toNat * 10)).off + 7, none⟩ = some (.int .i32 ((rd_T44 l0 x8_1).f5.f1)) ∧ w'.cell? ⟨(ad261.add ((x8_1).toNat * 10)).block, (ad261.add ((x8_1).toNat * 10)).off + 8, none⟩ = some (.int .i32 ((rd_T44 l0 x8_1).f6.f0)) ∧ w'.cell? ⟨(ad261.add ((x8_1).toNat * 10)).block, (ad261.add ((x8_1).toNat * 10)).off + 9, none⟩ = some (.int .i32 ((rd_T44 l0 x8_1).f6.f1))) (ds := []) #[F,F,F,F,F,F,F,F,F,F,F,F,F] (by kernel_rfl) rfl rfl ⟨((HB.out.cell (World.block_lt_of_cell? w _ hw263_0)).trans hw263_0), ((HB.out.cell (World.block_lt_of_cell? w _ hw263_1)).trans hw263_1), ((HB.out.cell (World.block_lt_of_cell? w _ hw263_2)).trans hw263_2), ((HB.out.cell (World.block_lt_of_cell? w _ hw263_3)).trans hw263_3), ((HB.out.cell (World.block_lt_of_cell? w _ hw263_4)).trans hw263_4), ((HB.out.cell (World.block_lt_of_cell? w _ hw263_5)).trans hw263_5), ((HB.out.cell (World.block_lt_of_cell? w _ hw263_6)).trans hw263_6), ((HB.out.cell (World.block_lt_of_cell? w _ hw263_7)).trans hw263_7), ((HB.out.cell (World.block_lt_of_cell? w _ hw263_8)).trans hw263_8), ((HB.out.cell (World.block_lt_of_cell? w _ hw263_9)).trans hw263_9)⟩ (fun hHeld => ?_); refine with_tabW billiardref17_Round.tab7 billiardref17_Round.bits7 (fun HT_ HW_ => ?_)
        generalize w29.drew = w30 at HO_6 HB hx263_0 hx263_1 hx263_2 hx263_3 hx263_4 hx263_5 hx263_6 hx263_7 hx263_8 hx263_9 hHeld ⊢
        refine pure_ (i := 0) (N := some 30) (v := ?_) (a' := ?_) #[T,F,F,F,F,F,F,F,F,F,F,F,F] rfl rfl (any_of HT_.out (by kernel_rfl)) (fun _ _ _ h => h) (Or.inl ⟨by rfl, ?_⟩) ?_ ?_
        rotate_left
        ·intro w'
         go_simp
         with_reducible rfl
        rotate_left
        ·simp only [Act.put, sA, sB, sC, i64_w, i32_w]
         rfl
        refine pure_ (i := 1) (N := some 31) (v := ?_) (a' := ?_) #[T,T,F,F,F,F,F,F,F,F,F,F,F] rfl rfl (any_of HT_.out (by kernel_rfl)) (fun _ _ _ h => h) (Or.inl ⟨by rfl, ?_⟩) ?_ ?_
        rotate_left
        ·intro w'
         go_simp
         with_reducible rfl
        rotate_left
        ·simp only [Act.put, sA, sB, sC, i64_w, i32_w]
         rfl
        refine pure_ (i := 2) (N := some 32) (v := ?_) (a' := ?_) #[T,T,T,F,F,F,F,F,F,F,F,F,F] rfl rfl (any_of HT_.out (by kernel_rfl)) (fun _ _ _ h => h) (Or.inl ⟨by rfl, ?_⟩) ?_ ?_
        rotate_left
        ·intro w'
         go_simp
         with_reducible rfl
        rotate_left
        ·simp only [Act.put, sA, sB, sC, i64_w, i32_w]
         rfl
        refine pure_ (i := 3) (N := some 33) (v := ?_) (a' := ?_) #[T,T,T,T,F,F,F,F,F,F,F,F,F] rfl rfl (any_of HT_.out (by kernel_rfl)) (fun _ _ _ h => h) (Or.inl ⟨by rfl, ?_⟩) ?_ ?_
        rotate_left
        ·intro w'
         go_simp
         with_reducible rfl
        rotate_left
        ·simp only [Act.put, sA, sB, sC, i64_w, i32_w]
         rfl
        refine pure_ (i := 4) (N := some 34) (v := ?_) (a' := ?_) #[T,T,T,T,T,F,F,F,F,F,F,F,F] rfl rfl (any_of HT_.out (by kernel_rfl)) (fun _ _ _ h => h) (Or.inl ⟨by rfl, ?_⟩) ?_ ?_
        rotate_left
        ·intro w'
         go_simp
         with_reducible rfl
        rotate_left
        ·simp only [Act.put, sA, sB, sC, i64_w, i32_w]
         rfl
        refine pure_ (i := 7) (N := some 37) (v := ?_) (a' := ?_) #[T,T,T,T,T,F,F,T,F,F,F,F,F] rfl rfl (any_of HT_.out (by kernel_rfl)) (fun _ _ _ h => h) (Or.inl ⟨by rfl, ?_⟩) ?_ ?_
        rotate_left
        ·intro w'
         go_simp
         with_reducible rfl
        rotate_left
        ·simp only [Act.put, sA, sB, sC, i64_w, i32_w]
         rfl
        refine pure_ (i := 8) (N := some 38) (v := ?_) (a' := ?_) #[T,T,T,T,T,F,F,T,T,F,F,F,F] rfl rfl (any_of HT_.out (by kernel_rfl)) (fun _ _ _ h => h) (Or.inl ⟨by rfl, ?_⟩) ?_ ?_
        rotate_left
        ·intro w'
         go_simp
         with_reducible rfl
        rotate_left
        ·simp only [Act.put, sA, sB, sC, i64_w, i32_w]
         rfl
        refine pure_ (i := 9) (N := some 39) (v := ?_) (a' := ?_) #[T,T,T,T,T,F,F,T,T,T,F,F,F] rfl rfl (any_of HT_.out (by kernel_rfl)) (fun _ _ _ h => h) (Or.inl ⟨by rfl, ?_⟩) ?_ ?_
        rotate_left
        ·intro w'
         go_simp
         with_reducible rfl
        rotate_left
        ·simp only [Act.put, sA, sB, sC, i64_w, i32_w]
         rfl
        refine take_ (i := 5) (N := some 35) (v := ?_) (a' := ?_) #[T,T,T,T,T,T,F,T,T,T,F,F,F] rfl rfl (take_ofW HT_.out HW_.out (by kernel_rfl)) (fun _ _ _ h => h) (Or.inl ⟨by rfl, ?_⟩) hHeld ?_ ?_
        rotate_left
        ·rintro w' ⟨s0, s1, s2, s3, s4, s5, s6, s7, s8, s9⟩
         go_simp
         with_reducible rfl
        rotate_left
        ·simp only [Act.put, sA, sB, sC, i64_w, i32_w]
         rfl
        refine pure_ (i := 6) (N := some 36) (v := ?_) (a' := ?_) #[T,T,T,T,T,T,T,T,T,T,F,F,F] rfl rfl (any_of HT_.out (by kernel_rfl)) (fun _ _ _ h => h) (Or.inl ⟨by rfl, ?_⟩) ?_ ?_
        rotate_left
        ·intro w'
         go_simp
         with_reducible rfl
        rotate_left
        ·simp only [Act.put, sA, sB, sC, i64_w, i32_w]
         rfl
        refine one_ (i := 10) (N := some 40) #[T,T,T,T,T,T,T,T,T,T,T,F,F] rfl rfl (one_of HT_.out (by kernel_rfl)) (by decide) (fun K hK => ?_)
        refine goes_ Try.func24 (by kernel_rfl) rfl #[.slice (some ad261) l0.length c0, .slice A1 l1.length c1, .int .i64 x8_1, .bool true] (by rfl) rfl rfl (by (try simp only [List.map_toArray, List.map_cons, List.map_nil]); first | done | rfl | (simp only [List.length_drop, List.length_take]; rfl)) ?_
        with_reducible refine (billiardref17_sum.calls k1 _ _ l0 _ _ l1 x8_1 true t264 _ ?side1 ?side2 ?side3 ?side4 A6.out).mono ?_
        (case side1 => repeat (first | exact (Kd.C_below HR0.out HB.out) | (with_reducible refine Kd.C_alloc ?_ _) | (with_reducible refine Kd.C_drewN ?_ _) | (with_reducible refine Kd.C_drew ?_)))
        (case side2 => exact HC0.out)
        (case side3 => repeat (first | exact (Kd.C_below HR1.out HB.out) | (with_reducible refine Kd.C_alloc ?_ _) | (with_reducible refine Kd.C_drewN ?_ _) | (with_reducible refine Kd.C_drew ?_)))
        (case side4 => exact HC1.out)
        rintro e w31 ⟨rfl, hb⟩
        refine ⟨_, rfl, ?_⟩
        have n0_ := aM (Kd.R_below (by (with_reducible repeat (first | apply Kd.R_alloc | apply Kd.R_drewN | apply Kd.R_drew)); exact HO_6.out) hb)
        have n1_ := aM (lT (by repeat (first | (with_reducible first | exact HB.out | apply lA | apply lN | apply lD) | exact HB.out)) hb)
        clear HO_6
        clear HB
        have HO_6 := n0_
        have HB := n1_
        clear n0_ n1_
        (try clear hb)
        (try clear hb2)
        (try clear hk)
        (try clear hi)
        refine hK.out _ _ ⟨((HB.out.cell (World.block_lt_of_cell? w _ hw263_0)).trans hw263_0), ((HB.out.cell (World.block_lt_of_cell? w _ hw263_1)).trans hw263_1), ((HB.out.cell (World.block_lt_of_cell? w _ hw263_2)).trans hw263_2), ((HB.out.cell (World.block_lt_of_cell? w _ hw263_3)).trans hw263_3), ((HB.out.cell (World.block_lt_of_cell? w _ hw263_4)).trans hw263_4), ((HB.out.cell (World.block_lt_of_cell? w _ hw263_5)).trans hw263_5), ((HB.out.cell (World.block_lt_of_cell? w _ hw263_6)).trans hw263_6), ((HB.out.cell (World.block_lt_of_cell? w _ hw263_7)).trans hw263_7), ((HB.out.cell (World.block_lt_of_cell? w _ hw263_8)).trans hw263_8), ((HB.out.cell (World.block_lt_of_cell? w _ hw263_9)).trans hw263_9)⟩ (fun hHeld => ?_)
        clear hK K
        refine norm_ (a' := ?_) ?_ ?_
        rotate_left
        ·show Act.put _ (some 40) _ = _
         simp only [Act.put, sA, sB, sC, i64_w, i32_w]
         rfl
        refine pure_ (i := 11) (N := some 41) (v := ?_) (a' := ?_) #[T,T,T,T,T,T,T,T,T,T,T,T,F] rfl rfl (any_of HT_.out (by kernel_rfl)) (fun _ _ _ h => h) (Or.inl ⟨by rfl, ?_⟩) ?_ ?_
        rotate_left
        ·intro w'
         go_simp
         with_reducible rfl
        rotate_left
        ·simp only [Act.put, sA, sB, sC, i64_w, i32_w]
         rfl
        refine pure_ (i := 12) (N := some 10) (v := ?_) (a' := ?_) #[T,T,T,T,T,T,T,T,T,T,T,T,T] rfl rfl (any_of HT_.out (by kernel_rfl)) (fun _ _ _ h => h) (Or.inl ⟨by rfl, ?_⟩) ?_ ?_
        rotate_left
        ·intro w'
         go_simp
         with_reducible rfl
        rotate_left
        ·simp only [Act.put, sA, sB, sC, i64_w, i32_w]
         rfl
        refine done_ (done_of HT_.out (by kernel_rfl)) ?_
        have p265 : 0 ≤ (x8_1 : Int) := of_decide_eq_true (by first | (with_reducible assumption) | assumption)
        have q265 : x8_1 < (l0.length : Int) := of_decide_eq_true (by first | (with_reducible assumption) | assumption)
        obtain ⟨ad265, e265, hx265_0, hx265_1, hx265_2, hx265_3, hx265_4, hx265_5, hx265_6, hx265_7, hx265_8, hx265_9⟩ := at_T44 HR0.out x8_1 p265 q265
        obtain rfl : ad261 = ad265 := (by injection e265)
        replace hx265_0 := (HB.out.cell (World.block_lt_of_cell? w _ hx265_0)).trans hx265_0
        replace hx265_1 := (HB.out.cell (World.block_lt_of_cell? w _ hx265_1)).trans hx265_1
        replace hx265_2 := (HB.out.cell (World.block_lt_of_cell? w _ hx265_2)).trans hx265_2
        replace hx265_3 := (HB.out.cell (World.block_lt_of_cell? w _ hx265_3)).trans hx265_3
        replace hx265_4 := (HB.out.cell (World.block_lt_of_cell? w _ hx265_4)).trans hx265_4
        replace hx265_5 := (HB.out.cell (World.block_lt_of_cell? w _ hx265_5)).trans hx265_5
        replace hx265_6 := (HB.out.cell (World.block_lt_of_cell? w _ hx265_6)).trans hx265_6
        replace hx265_7 := (HB.out.cell (World.block_lt_of_cell? w _ hx265_7)).trans hx265_7
        replace hx265_8 := (HB.out.cell (World.block_lt_of_cell? w _ hx265_8)).trans hx265_8
        replace hx265_9 := (HB.out.cell (World.block_lt_of_cell? w _ hx265_9)).trans hx265_9
        replace p265 := eq_true p265
        replace q265 := eq_true q265
        go_wp2_with (first | ((with_reducible refine gate_callee (f := 25) rfl ?_); refine goesL_ (some 47) rfl rfl Try.func25 (by kernel_rfl) rfl #[.int .i64 (wrap64 ((wrap64 ((rd_T44 l0 x8_1).f6.f0)) + t262)), .int .i64 16777216] rfl (by (try simp only [List.map_toArray, List.map_cons, List.map_nil]); first | done | rfl | (simp only [List.length_drop, List.length_take]; rfl)) ?_; (with_reducible refine (billiardref02_Limit.calls (wrap64 ((wrap64 ((rd_T44 l0 x8_1).f6.f0)) + t262)) 16777216 t267 _ A7.out).mono ?_); rintro e w' ⟨rfl, ⟨nd, rfl⟩⟩; refine ⟨_, rfl, ?_⟩) | ((with_reducible refine gate_callee (f := 25) rfl ?_); refine goesL_ (some 50) rfl rfl Try.func25 (by kernel_rfl) rfl #[.int .i64 (wrap64 ((wrap64 ((rd_T44 l0 x8_1).f6.f1)) + t264)), .int .i64 16777216] rfl (by (try simp only [List.map_toArray, List.map_cons, List.map_nil]); first | done | rfl | (simp only [List.length_drop, List.length_take]; rfl)) ?_; (with_reducible refine (billiardref02_Limit.calls (wrap64 ((wrap64 ((rd_T44 l0 x8_1).f6.f1)) + t264)) 16777216 t268 _ A8.out).mono ?_); rintro e w' ⟨rfl, ⟨nd, rfl⟩⟩; refine ⟨_, rfl, ?_⟩) | ((with_reducible refine gate_builtin (b := .append) (xs := #[.tmp 71, .tmp 73]) rfl ?_); at_builtin; refine Kd.R_append k44 (w0 := w) w.heap.size rfl (.tmp 71) (.tmp 73) 22 44 (.agg #[(.int .u32 0), (.int .i32 0), (.int .i32 0), (.int .i32 0), (.int .i32 0), (.int .i32 0), (.int .i32 0), (.int .i32 0), (.int .i32 0), (.int .i32 0)]) 40 rfl Try.underlying22 info44 rfl (by decide) (by omega) u6 x6_1 (⟨(rd_T44 l0 x8_1).f0, (rd_T44 l0 x8_1).f1, (⟨(rd_T44 l0 x8_1).f2.f0, (rd_T44 l0 x8_1).f2.f1⟩ : S39), (rd_T44 l0 x8_1).f3, (rd_T44 l0 x8_1).f4, (⟨(rd_T44 l0 x8_1).f5.f0, (rd_T44 l0 x8_1).f5.f1⟩ : S39), (⟨wrap32 (t267), wrap32 (t268)⟩ : S39)⟩ : S44) [.int .u32 ((rd_T44 l0 x8_1).f0), .int .i32 ((rd_T44 l0 x8_1).f1), .int .i32 ((rd_T44 l0 x8_1).f2.f0), .int .i32 ((rd_T44 l0 x8_1).f2.f1), .int .i32 ((rd_T44 l0 x8_1).f3), .int .i32 ((rd_T44 l0 x8_1).f4), .int .i32 ((rd_T44 l0 x8_1).f5.f0), .int .i32 ((rd_T44 l0 x8_1).f5.f1), .int .i32 (wrap32 (t267)), .int .i32 (wrap32 (t268))] (fun _ => True) (fun _ => False) rfl (by first | (go_simp; done) | (go_simp; rfl)) ?aP (fun _ hk => hk.elim) ?aF ?aO ?aB ?aS ?aL ?_; (case aP => exact k44_mkM _ _ _ (⟨(rd_T44 l0 x8_1).f0, (rd_T44 l0 x8_1).f1, (⟨(rd_T44 l0 x8_1).f2.f0, (rd_T44 l0 x8_1).f2.f1⟩ : S39), (rd_T44 l0 x8_1).f3, (rd_T44 l0 x8_1).f4, (⟨(rd_T44 l0 x8_1).f5.f0, (rd_T44 l0 x8_1).f5.f1⟩ : S39), (⟨wrap32 (t267), wrap32 (t268)⟩ : S39)⟩ : S44)); (case aB => exact (lS (lS (lN (lA HB.out _) _) (lZ HB.out)) (lZ HB.out))); (case aF => exact fun _ _ => trivial); (case aO => exact Kd.R_mono (Kd.R_far (p := ⟨_, 9, none⟩) (Kd.R_far (p := ⟨_, 8, none⟩) (Kd.R_drewN (Kd.R_alloc (Kd.R_elderB HO_6.out _ (Nat.le_refl _)) _) _) (fun _ hk => hk.2) _) (fun _ hk => hk.2) _) (fun _ _ => trivial)); (case aS => exact lZ (lS (lS (lN (lA HB.out _) _) (lZ HB.out)) (lZ HB.out))); (case aL => have := LMc27.out; omega); intro v276 w34 ho hb hg hat; rw [← Ny275.out] at ho; have n1_ := aM (hb); have n2_ := aM (ho); clear HB HO_6; have HB := n1_; have HO277 := n2_; clear n1_ n2_ ho hb hg hat))
        go_roundg k1
        case measure => have := HK1.out; omega
        case rel => exact ⟨(y275), (true), (wrap64 (x8_1 + 1)), (by first | rfl | (simp; done) | (simp [*]; done)), (by first | rfl | (simp; done) | (simp [*]; done)), H', ⟨by have := HK1.out; omega⟩, ⟨by (with_reducible repeat (first | apply Kd.R_alloc | apply Kd.R_drewN | apply Kd.R_drew)); exact Kd.R_mono HO277.out (fun _ hk => trivial)⟩, ⟨by repeat (first | (with_reducible first | exact HB.out | apply lA | apply lN | apply lD) | exact HB.out)⟩⟩
       ·rw [if_neg c27] at H
        exact absurd H (by simp)
    ·rw [if_neg c4] at H
     exact absurd H (by simp)
   ·rw [if_neg c3] at H
    have c3b0 : decide (x8_1 < (l0.length : Int)) = false := decide_eq_false c3
    clear c3
    simp only [Option.some.injEq, Prod.mk.injEq] at H
    obtain ⟨rfl, rfl⟩ := H
    go_wp2
    go_ret2
    exact ⟨_, by first | rfl | (simp [errW_none, errW_some] <;> rfl) | (simp [*, errW_none, errW_some] <;> rfl), by (with_reducible repeat (first | apply Kd.R_alloc | apply Kd.R_drewN | apply Kd.R_drew)); exact HO_6.out, by repeat (first | (with_reducible first | exact HB.out | apply lA | apply lN | apply lD) | exact HB.out)⟩

/-! ### billiardref17_Solve: function 15 -/
def billiardref17_Solve.l0 : Nat → List (S44) → List (S41) → Bool → Int → Option ((List (S44)) × Bool)
 | 0, _, _, _, _ => none
 | k + 1, x0, x1, x6, x7 => if x7 < 4 then ((billiardref17_Round.f k x0 x1).bind fun bt278 => (if x6 = true then (billiardref17_Solve.l0 k bt278.1 x1 true (wrap64 (x7 + 1))) else (billiardref17_Solve.l0 k bt278.1 x1 bt278.2 (wrap64 (x7 + 1))))) else (some (x0, x6))
def billiardref17_Solve.f (k : Nat) (l0 : List (S44)) (l1 : List (S41)) : Option ((List (S44)) × Bool) := billiardref17_Solve.l0 k l0 l1 false 0
theorem billiardref17_Solve.mono_l : ∀ k, (∀ y0 y1 y2 y3, LeO (billiardref17_Solve.l0 k y0 y1 y2 y3) (billiardref17_Solve.l0 (k + 1) y0 y1 y2 y3))
 | 0 => fun _ _ _ _ r h => by simp [billiardref17_Solve.l0] at h
 | k + 1 => by
  have ih0 := billiardref17_Solve.mono_l k
  ·intro y0 y1 y2 y3
   unfold billiardref17_Solve.l0
   repeat' first
   | (with_reducible exact ih0 _ _ _ _)
   | (with_reducible exact billiardref17_Round.mono _ _ _)
   | (with_reducible exact LeO.refl _)
   | (with_reducible exact LeO.none _)
   | (with_reducible refine LeO.ite ?_ ?_)
   | (with_reducible refine LeO.bind ?_ (fun _ => ?_))
   | exact ih0 _ _ _ _
   | exact billiardref17_Round.mono _ _ _
   | exact LeO.none _
   | refine LeO.ite ?_ ?_
   | refine LeO.bind ?_ (fun _ => ?_)
theorem billiardref17_Solve.mono : ∀ a0 a1 k, LeO (billiardref17_Solve.f k a0 a1) (billiardref17_Solve.f (k + 1) a0 a1) := by
 intro a0 a1 k
 have ih0 := billiardref17_Solve.mono_l k
 unfold billiardref17_Solve.f
 repeat' first
   | (with_reducible exact ih0 _ _ _ _)
   | (with_reducible exact billiardref17_Round.mono _ _ _)
   | (with_reducible exact LeO.refl _)
   | (with_reducible exact LeO.none _)
   | (with_reducible refine LeO.ite ?_ ?_)
   | (with_reducible refine LeO.bind ?_ (fun _ => ?_))
   | exact ih0 _ _ _ _
   | exact billiardref17_Round.mono _ _ _
   | exact LeO.none _
   | refine LeO.ite ?_ ?_
   | refine LeO.bind ?_ (fun _ => ?_)
set_option maxHeartbeats 8000000 in
set_option maxRecDepth 100000 in
theorem billiardref17_Solve.calls (k : Nat) (P0_ : Nat → Prop) (A0 : Option Addr) (c0 : Nat) (l0 : List (S44)) (A1 : Option Addr) (c1 : Nat) (l1 : List (S41)) (r1 : List (S44)) (r2 : Bool) (w : World) (hs0 : Kd.V k44 44 w w.heap.size (fun k_ => P0_ k_) (.slice A0 l0.length c0) l0) (hr1 : Kd.C k41 w A1 l1.length l1) (hc1 : l1.length ≤ c1) (h : billiardref17_Solve.f k l0 l1 = some (r1, r2)) :
  Calls Try.prog 15 #[.slice A0 l0.length c0, .slice A1 l1.length c1] w fun e w' => ∃ v0_ : Value, e = .returned (.tuple #[v0_, .bool r2]) ∧ Kd.V k44 44 w' w.heap.size (fun k_ => (P0_ k_ ∨ w.heap.size ≤ k_)) v0_ r1 ∧ Below w.heap.size w w' := by
 have HO0 := aM (show Kd.V k44 44 w w.heap.size (fun k_ => (P0_ k_ ∨ w.heap.size ≤ k_)) (.slice A0 l0.length c0) l0 from Kd.V_mono hs0 (fun k_ hk => .inl hk))
 have HR1 := aM hr1
 have HC1 := aM hc1
 clear hr1 hc1
 have HB := aM (Below.refl w.heap.size w)
 have H : (billiardref17_Solve.l0 k l0 l1 false 0) = some (r1, r2) := h
 clear h
 have H' := aM H
 clear H
 go_enter Try.func15, Try.ntmps15
 go_wp2
 go_loopg [0, 6, 7] k (fun kq v0 v6 v7 w' => ∃ (x0_1 : List (S44)) (x6_1 : Bool) (x7_1 : Int), v6 = .bool x6_1 ∧ v7 = .int .i64 x7_1 ∧ Aside0 (billiardref17_Solve.l0 kq x0_1 l1 x6_1 x7_1 = some (r1, r2)) ∧ Aside0 (kq ≤ k) ∧ Aside0 (Kd.V k44 44 w' w.heap.size (fun k_ => (P0_ k_ ∨ w.heap.size ≤ k_)) v0 x0_1) ∧ Aside0 (Below w.heap.size w w'))
 case atStart => exact ⟨(l0), (false), (0), (by first | rfl | (simp; done) | (simp [*]; done)), (by first | rfl | (simp; done) | (simp [*]; done)), H', ⟨Nat.le_refl _⟩, ⟨by (with_reducible repeat (first | apply Kd.V_alloc | apply Kd.V_drewN | apply Kd.V_drew)); exact HO0.out⟩, ⟨by repeat (first | (with_reducible first | exact HB.out | apply lA | apply lN | apply lD) | exact HB.out)⟩⟩
 case round =>
  clear H'
  try clear c1
  try clear p2
  obtain ⟨x0_1, x6_1, x7_1, rfl, rfl, HA, HK1, HO_0, HB⟩ := hrel
  cases gk with
  | zero => exact absurd HA.out (by simp [billiardref17_Solve.l0])
  | succ k1 =>
   have H := HA.out
   clear HA
   simp only [billiardref17_Solve.l0] at H
   by_cases c3 : x7_1 < 4
   ·rw [if_pos c3] at H
    have c3b0 : decide (x7_1 < 4) = true := decide_eq_true c3
    clear c3
    replace H := Option.bind_eq_some_iff.mp H
    obtain ⟨⟨t278, t279⟩, A40, H⟩ := H
    try dsimp only at H
    have A4 := aM A40
    clear A40
    by_cases c5 : x6_1 = true
    ·subst c5
     rw [if_pos rfl] at H
     have H' := aM H
     clear H
     obtain ⟨Ao6, co6, eo6⟩ := Kd.V_slice HO_0.out
     subst eo6
     go_wp2_with (first | ((with_reducible refine gate_callee (f := 13) rfl ?_); refine goesL_ (some 17) rfl rfl Try.func13 (by kernel_rfl) rfl #[.slice Ao6 x0_1.length co6, .slice A1 l1.length c1] rfl (by (try simp only [List.map_toArray, List.map_cons, List.map_nil]); first | done | rfl | (simp only [List.length_drop, List.length_take]; rfl)) ?_; (with_reducible refine (billiardref17_Round.calls k1 _ _ x0_1 _ _ l1 t278 t279 _ ?side1 ?side2 ?side3 ?side4 A4.out).mono ?_); (case side1 => repeat (first | exact (Kd.V_reads' HO_0.out).2.2 | (with_reducible refine Kd.C_alloc ?_ _) | (with_reducible refine Kd.C_drewN ?_ _) | (with_reducible refine Kd.C_drew ?_))); (case side2 => exact (Kd.V_reads' HO_0.out).2.1); (case side3 => repeat (first | exact (Kd.C_below HR1.out HB.out) | (with_reducible refine Kd.C_alloc ?_ _) | (with_reducible refine Kd.C_drewN ?_ _) | (with_reducible refine Kd.C_drew ?_))); (case side4 => exact HC1.out); rintro e w7 ⟨v280, rfl, ho0, hb⟩; refine ⟨_, rfl, ?_⟩; have n0_ := aM (Kd.V_elder' (by (with_reducible repeat (first | apply Kd.V_alloc | apply Kd.V_drewN | apply Kd.V_drew)); exact HO_0.out) (Kd.R_base ho0) hb); have n1_ := aM (Kd.R_lower (Kd.R_newM (M := fun k_ => (w.heap.size ≤ k_)) ho0 (lZ (by repeat (first | (with_reducible first | exact HB.out | apply lA | apply lN | apply lD) | exact HB.out))) (fun k_ h_ => h_)) (lZ (by repeat (first | (with_reducible first | exact HB.out | apply lA | apply lN | apply lD) | exact HB.out)))); have n2_ := aM (lT (by repeat (first | (with_reducible first | exact HB.out | apply lA | apply lN | apply lD) | exact HB.out)) hb); clear HO_0; clear HB; have HO_0 := n0_; have HO281 := n1_; have HB := n2_; clear n0_ n1_ n2_; (try clear hb); (try clear hb2); (try clear hk); (try clear hi); (try clear ho0)))
     go_roundg k1
     case measure => have := HK1.out; omega
     case rel => exact ⟨(t278), (true), (wrap64 (x7_1 + 1)), (by first | rfl | (simp; done) | (simp [*]; done)), (by first | rfl | (simp; done) | (simp [*]; done)), H', ⟨by have := HK1.out; omega⟩, ⟨Kd.V_mono (Kd.R_V (by (with_reducible repeat (first | apply Kd.R_alloc | apply Kd.R_drewN | apply Kd.R_drew)); exact Kd.R_mono HO281.out (fun _ hk => hk.1))) (fun k_ hk => by first | exact ⟨(.inr (hk.1)), hk.2⟩ | exact (.inr (hk)))⟩, ⟨by repeat (first | (with_reducible first | exact HB.out | apply lA | apply lN | apply lD) | exact HB.out)⟩⟩
    ·replace c5 := Bool.eq_false_iff.mpr c5
     subst c5
     rw [if_neg (show ¬ (false = true) by decide)] at H
     have H' := aM H
     clear H
     obtain ⟨Ao8, co8, eo8⟩ := Kd.V_slice HO_0.out
     subst eo8
     go_wp2_with (first | ((with_reducible refine gate_callee (f := 13) rfl ?_); refine goesL_ (some 17) rfl rfl Try.func13 (by kernel_rfl) rfl #[.slice Ao8 x0_1.length co8, .slice A1 l1.length c1] rfl (by (try simp only [List.map_toArray, List.map_cons, List.map_nil]); first | done | rfl | (simp only [List.length_drop, List.length_take]; rfl)) ?_; (with_reducible refine (billiardref17_Round.calls k1 _ _ x0_1 _ _ l1 t278 t279 _ ?side1 ?side2 ?side3 ?side4 A4.out).mono ?_); (case side1 => repeat (first | exact (Kd.V_reads' HO_0.out).2.2 | (with_reducible refine Kd.C_alloc ?_ _) | (with_reducible refine Kd.C_drewN ?_ _) | (with_reducible refine Kd.C_drew ?_))); (case side2 => exact (Kd.V_reads' HO_0.out).2.1); (case side3 => repeat (first | exact (Kd.C_below HR1.out HB.out) | (with_reducible refine Kd.C_alloc ?_ _) | (with_reducible refine Kd.C_drewN ?_ _) | (with_reducible refine Kd.C_drew ?_))); (case side4 => exact HC1.out); rintro e w9 ⟨v280, rfl, ho0, hb⟩; refine ⟨_, rfl, ?_⟩; have n0_ := aM (Kd.V_elder' (by (with_reducible repeat (first | apply Kd.V_alloc | apply Kd.V_drewN | apply Kd.V_drew)); exact HO_0.out) (Kd.R_base ho0) hb); have n1_ := aM (Kd.R_lower (Kd.R_newM (M := fun k_ => (w.heap.size ≤ k_)) ho0 (lZ (by repeat (first | (with_reducible first | exact HB.out | apply lA | apply lN | apply lD) | exact HB.out))) (fun k_ h_ => h_)) (lZ (by repeat (first | (with_reducible first | exact HB.out | apply lA | apply lN | apply lD) | exact HB.out)))); have n2_ := aM (lT (by repeat (first | (with_reducible first | exact HB.out | apply lA | apply lN | apply lD) | exact HB.out)) hb); clear HO_0; clear HB; have HO_0 := n0_; have HO281 := n1_; have HB := n2_; clear n0_ n1_ n2_; (try clear hb); (try clear hb2); (try clear hk); (try clear hi); (try clear ho0)))
     go_roundg k1
     case measure => have := HK1.out; omega
     case rel => exact ⟨(t278), (t279), (wrap64 (x7_1 + 1)), (by first | rfl | (simp; done) | (simp [*]; done)), (by first | rfl | (simp; done) | (simp [*]; done)), H', ⟨by have := HK1.out; omega⟩, ⟨Kd.V_mono (Kd.R_V (by (with_reducible repeat (first | apply Kd.R_alloc | apply Kd.R_drewN | apply Kd.R_drew)); exact Kd.R_mono HO281.out (fun _ hk => hk.1))) (fun k_ hk => by first | exact ⟨(.inr (hk.1)), hk.2⟩ | exact (.inr (hk)))⟩, ⟨by repeat (first | (with_reducible first | exact HB.out | apply lA | apply lN | apply lD) | exact HB.out)⟩⟩
   ·rw [if_neg c3] at H
    have c3b0 : decide (x7_1 < 4) = false := decide_eq_false c3
    clear c3
    simp only [Option.some.injEq, Prod.mk.injEq] at H
    obtain ⟨rfl, rfl⟩ := H
    go_wp2
    go_ret2
    exact ⟨_, by first | rfl | (simp [errW_none, errW_some] <;> rfl) | (simp [*, errW_none, errW_some] <;> rfl), by (with_reducible repeat (first | apply Kd.V_alloc | apply Kd.V_drewN | apply Kd.V_drew)); exact HO_0.out, by repeat (first | (with_reducible first | exact HB.out | apply lA | apply lN | apply lD) | exact HB.out)⟩

/-! ### billiardref17_Sums: function 17 -/
def billiardref17_Sums.l0 : Nat → List (S44) → List (S41) → Bool → List Int → Int → Option (List Int)
 | 0, _, _, _, _, _ => none
 | k + 1, x0, x1, x2, x7, x8 => if x8 < (x0.length : Int) then ((billiardref17_sum.f k x0 x1 x8 x2).bind fun t282 => (if x7.length < 17592186044416 then (billiardref17_Sums.l0 k x0 x1 x2 (x7 ++ [t282]) (wrap64 (x8 + 1))) else (none))) else (some x7)
def billiardref17_Sums.f (k : Nat) (l0 : List (S44)) (l1 : List (S41)) (a2 : Bool) : Option (List Int) := billiardref17_Sums.l0 k l0 l1 a2 ([] : List Int) 0
theorem billiardref17_Sums.mono_l : ∀ k, (∀ y0 y1 y2 y3 y4, LeO (billiardref17_Sums.l0 k y0 y1 y2 y3 y4) (billiardref17_Sums.l0 (k + 1) y0 y1 y2 y3 y4))
 | 0 => fun _ _ _ _ _ r h => by simp [billiardref17_Sums.l0] at h
 | k + 1 => by
  have ih0 := billiardref17_Sums.mono_l k
  ·intro y0 y1 y2 y3 y4
   unfold billiardref17_Sums.l0
   repeat' first
   | (with_reducible exact ih0 _ _ _ _ _)
   | (with_reducible exact billiardref17_sum.mono _ _ _ _ _)
   | (with_reducible exact LeO.refl _)
   | (with_reducible exact LeO.none _)
   | (with_reducible refine LeO.ite ?_ ?_)
   | (with_reducible refine LeO.bind ?_ (fun _ => ?_))
   | exact ih0 _ _ _ _ _
   | exact billiardref17_sum.mono _ _ _ _ _
   | exact LeO.none _
   | refine LeO.ite ?_ ?_
   | refine LeO.bind ?_ (fun _ => ?_)
theorem billiardref17_Sums.mono : ∀ a0 a1 a2 k, LeO (billiardref17_Sums.f k a0 a1 a2) (billiardref17_Sums.f (k + 1) a0 a1 a2) := by
 intro a0 a1 a2 k
 have ih0 := billiardref17_Sums.mono_l k
 unfold billiardref17_Sums.f
 repeat' first
   | (with_reducible exact ih0 _ _ _ _ _)
   | (with_reducible exact billiardref17_sum.mono _ _ _ _ _)
   | (with_reducible exact LeO.refl _)
   | (with_reducible exact LeO.none _)
   | (with_reducible refine LeO.ite ?_ ?_)
   | (with_reducible refine LeO.bind ?_ (fun _ => ?_))
   | exact ih0 _ _ _ _ _
   | exact billiardref17_sum.mono _ _ _ _ _
   | exact LeO.none _
   | refine LeO.ite ?_ ?_
   | refine LeO.bind ?_ (fun _ => ?_)
set_option maxHeartbeats 8000000 in
set_option maxRecDepth 100000 in
theorem billiardref17_Sums.calls (k : Nat) (A0 : Option Addr) (c0 : Nat) (l0 : List (S44)) (A1 : Option Addr) (c1 : Nat) (l1 : List (S41)) (a2 : Bool) (r : List Int) (w : World) (hr0 : Kd.C k44 w A0 l0.length l0) (hc0 : l0.length ≤ c0) (hr1 : Kd.C k41 w A1 l1.length l1) (hc1 : l1.length ≤ c1) (h : billiardref17_Sums.f k l0 l1 a2 = some r) :
  Calls Try.prog 17 #[.slice A0 l0.length c0, .slice A1 l1.length c1, .bool a2] w fun e w' => ∃ v0_ : Value, e = .returned (v0_) ∧ Kd.R (Kd.int .i64) 2 w' w.heap.size (fun _ => True) v0_ r ∧ Below w.heap.size w w' := by
 have HR0 := aM hr0
 have HC0 := aM hc0
 clear hr0 hc0
 have HR1 := aM hr1
 have HC1 := aM hc1
 clear hr1 hc1
 have HB := aM (Below.refl w.heap.size w)
 have H : (billiardref17_Sums.l0 k l0 l1 a2 ([] : List Int) 0) = some r := h
 clear h
 have H' := aM H
 clear H
 go_enter Try.func17, Try.ntmps17
 go_wp2
 go_loopg [7, 8] k (fun kq v7 v8 w' => ∃ (x7_1 : List Int) (x8_1 : Int), v8 = .int .i64 x8_1 ∧ Aside0 (billiardref17_Sums.l0 kq l0 l1 a2 x7_1 x8_1 = some r) ∧ Aside0 (kq ≤ k) ∧ Aside0 (Kd.R (Kd.int .i64) 2 w' w.heap.size (fun _ => True) v7 x7_1) ∧ Aside0 (Below w.heap.size w w'))
 case atStart => exact ⟨(([] : List Int)), (0), (by first | rfl | (simp; done) | (simp [*]; done)), H', ⟨Nat.le_refl _⟩, ⟨by first | exact Kd.R_nil _ _ _ _ _ | exact Kd.N_nil _ _ _ _ _ | exact Kd.V_nil _ _ _ _ _ | exact Kd.Q_nil _ _ _ _ _ | exact Kd.S_nil _ _ _ _ _⟩, ⟨by repeat (first | (with_reducible first | exact HB.out | apply lA | apply lN | apply lD) | exact HB.out)⟩⟩
 case round =>
  clear H'
  try clear c1
  try clear p2
  obtain ⟨x7_1, x8_1, rfl, HA, HK1, HO_7, HB⟩ := hrel
  cases gk with
  | zero => exact absurd HA.out (by simp [billiardref17_Sums.l0])
  | succ k1 =>
   have H := HA.out
   clear HA
   simp only [billiardref17_Sums.l0] at H
   by_cases c4 : x8_1 < (l0.length : Int)
   ·rw [if_pos c4] at H
    have c4b0 : decide (x8_1 < (l0.length : Int)) = true := decide_eq_true c4
    clear c4
    replace H := Option.bind_eq_some_iff.mp H
    obtain ⟨t282, A50, H⟩ := H
    try dsimp only at H
    have A5 := aM A50
    clear A50
    by_cases c6 : x7_1.length < 17592186044416
    ·rw [if_pos c6] at H
     have LMc6 := aM c6
     clear c6
     obtain ⟨y283, hy283⟩ : ∃ y_ : List Int, y_ = (x7_1 ++ [t282]) := ⟨_, rfl⟩
     replace H : (billiardref17_Sums.l0 k1 l0 l1 a2 y283 (wrap64 (x8_1 + 1))) = some r := by first | (rw [hy283]; with_reducible exact H) | (have H2_ := (Option.bind_some _ _).symm.trans H; rw [hy283]; with_reducible exact H2_) | (have H2_ := (Option.bind_some _ _).symm.trans H; with_reducible exact H2_) | with_reducible exact H | (rw [hy283]; exact H) | exact H
     have Ny283 := aM hy283
     clear hy283
     have H' := aM H
     clear H
     go_wp2_with (first | ((with_reducible refine gate_callee (f := 24) rfl ?_); refine goesL_ (some 20) rfl rfl Try.func24 (by kernel_rfl) rfl #[.slice A0 l0.length c0, .slice A1 l1.length c1, .int .i64 x8_1, .bool a2] rfl (by (try simp only [List.map_toArray, List.map_cons, List.map_nil]); first | done | rfl | (simp only [List.length_drop, List.length_take]; rfl)) ?_; (with_reducible refine (billiardref17_sum.calls k1 _ _ l0 _ _ l1 x8_1 a2 t282 _ ?side1 ?side2 ?side3 ?side4 A5.out).mono ?_); (case side1 => repeat (first | exact (Kd.C_below HR0.out HB.out) | (with_reducible refine Kd.C_alloc ?_ _) | (with_reducible refine Kd.C_drewN ?_ _) | (with_reducible refine Kd.C_drew ?_))); (case side2 => exact HC0.out); (case side3 => repeat (first | exact (Kd.C_below HR1.out HB.out) | (with_reducible refine Kd.C_alloc ?_ _) | (with_reducible refine Kd.C_drewN ?_ _) | (with_reducible refine Kd.C_drew ?_))); (case side4 => exact HC1.out); rintro e w7 ⟨rfl, hb⟩; refine ⟨_, rfl, ?_⟩; have n0_ := aM (Kd.R_below (by (with_reducible repeat (first | apply Kd.R_alloc | apply Kd.R_drewN | apply Kd.R_drew)); exact HO_7.out) hb); have n1_ := aM (lT (by repeat (first | (with_reducible first | exact HB.out | apply lA | apply lN | apply lD) | exact HB.out)) hb); clear HO_7; clear HB; have HO_7 := n0_; have HB := n1_; clear n0_ n1_; (try clear hb); (try clear hb2); (try clear hk); (try clear hi)) | ((with_reducible refine gate_builtin (b := .append) (xs := #[.tmp 15, .tmp 21]) rfl ?_); at_builtin; refine Kd.R_append (Kd.int .i64) (w0 := w) w.heap.size rfl (.tmp 15) (.tmp 21) 28 2 (.int .i64 0) 8 rfl Try.underlying28 info2 rfl (by decide) (by omega) u7 x7_1 t282 [.int .i64 t282] (fun _ => True) (fun _ => False) rfl rfl ?aP (fun _ hk => hk.elim) ?aF ?aO ?aB ?aS ?aL ?_; (case aP => exact rfl); (case aB => exact (by repeat (first | (with_reducible first | exact HB.out | apply lA | apply lN | apply lD) | exact HB.out))); (case aF => exact (fun _ _ => trivial)); (case aO => exact (by (with_reducible repeat (first | apply Kd.R_alloc | apply Kd.R_drewN | apply Kd.R_drew)); exact HO_7.out)); (case aS => exact (lZ (by repeat (first | (with_reducible first | exact HB.out | apply lA | apply lN | apply lD) | exact HB.out)))); (case aL => have := LMc6.out; omega); intro v284 w8 ho hb hg hat; rw [← Ny283.out] at ho; have n0_ := aM (hb); have n1_ := aM (ho); clear HB; clear HO_7; have HB := n0_; have HO285 := n1_; clear n0_ n1_; clear ho hb hg hat))
     go_roundg k1
     case measure => have := HK1.out; omega
     case rel => exact ⟨(y283), (wrap64 (x8_1 + 1)), (by first | rfl | (simp; done) | (simp [*]; done)), H', ⟨by have := HK1.out; omega⟩, ⟨by (with_reducible repeat (first | apply Kd.R_alloc | apply Kd.R_drewN | apply Kd.R_drew)); exact HO285.out⟩, ⟨by repeat (first | (with_reducible first | exact HB.out | apply lA | apply lN | apply lD) | exact HB.out)⟩⟩
    ·rw [if_neg c6] at H
     exact absurd H (by simp)
   ·rw [if_neg c4] at H
    have c4b0 : decide (x8_1 < (l0.length : Int)) = false := decide_eq_false c4
    clear c4
    obtain rfl := Option.some.inj H
    go_wp2
    go_ret
    exact ⟨_, by first | rfl | (simp [errW_none, errW_some] <;> rfl) | (simp [*, errW_none, errW_some] <;> rfl), by (with_reducible repeat (first | apply Kd.R_alloc | apply Kd.R_drewN | apply Kd.R_drew)); exact HO_7.out, by repeat (first | (with_reducible first | exact HB.out | apply lA | apply lN | apply lD) | exact HB.out)⟩

end Go.Proofs.Ytcbdcgghccjdpaa.Q
