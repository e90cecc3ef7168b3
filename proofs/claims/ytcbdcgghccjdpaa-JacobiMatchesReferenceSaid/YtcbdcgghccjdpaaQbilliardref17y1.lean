-- PRINTED by print.py (a twelfth state) out of the translation. Not trusted: Lean checks it.
import Derived.Test.YtcbdcgghccjdpaaQ0
import Derived.Test.YtcbdcgghccjdpaaMspec
import Derived.Test.YtcbdcgghccjdpaaQbilliardref06
import Derived.Test.YtcbdcgghccjdpaaQbilliardref16
namespace Go.Proofs.Ytcbdcgghccjdpaa.Q
open Go.RowKit.Below renaming refl → lR
open Go.RowKit Go.Proofs.YtcbdcgghccjdpaaW.PrintWords Go.Proofs.YtcbdcgghccjdpaaW.PrintLast Go.Proofs.YtcbdcgghccjdpaaW.PrintMore
open Go.Proofs.YtcbdcgghccjdpaaW.PrintWords renaming blk_drewN → bN, blk_drew → bD, blk_alloc → bA, blk_below → bB, blk_cell → bC, blk_frozen → bF, blk_far → bR, blk_lt → bL, blk_put → bP, cell_far → cF, below_alloc → lA, pw_below_drewN → lN, below_drew1 → lD, below_set → lS, below_step → lT, below_size → lZ, Aside0.mk → aM
open List renaming setIfInBounds_toArray → sA, set_cons_zero → sB, set_cons_succ → sC
open Bool renaming true → T, false → F
attribute [local go_sem] max2_int min2_int max_two min_two max_three min_three max_four min_four   -- for this text's walks alone
set_option linter.unusedVariables false
set_option linter.unusedSimpArgs false

/-! ### billiardref17_sum: function 24 -/
mutual
def billiardref17_sum.l0 : Nat → List (S44) → List (S41) → Int → Bool → Int → Int → Option (Int)
 | 0, _, _, _, _, _, _ => none
 | k + 1, x0, x1, x2, x3, x9, x10 => if x10 < (x1.length : Int) then (if 0 ≤ x10 then (if 0 ≤ x2 then (if x2 < (x0.length : Int) then (if ((rd_T41 x1 x10).f0.f0) = ((rd_T44 x0 x2).f0) then (billiardref17_sum.j1 k x0 x1 x2 x3 x9 x10 false ((rd_T41 x1 x10).f0.f0) ((rd_T41 x1 x10).f0.f1) ((rd_T41 x1 x10).f1.f0) ((rd_T41 x1 x10).f1.f1) ((rd_T41 x1 x10).f2)) else (billiardref17_sum.j1 k x0 x1 x2 x3 x9 x10 (((rd_T41 x1 x10).f0.f1) != ((rd_T44 x0 x2).f0)) ((rd_T41 x1 x10).f0.f0) ((rd_T41 x1 x10).f0.f1) ((rd_T41 x1 x10).f1.f0) ((rd_T41 x1 x10).f1.f1) ((rd_T41 x1 x10).f2))) else (none)) else (none)) else (none)) else (some x9)
def billiardref17_sum.j1 : Nat → List (S44) → List (S41) → Int → Bool → Int → Int → Bool → Int → Int → Int → Int → Int → Option (Int)
 | 0, _, _, _, _, _, _, _, _, _, _, _, _ => none
 | k + 1, x0, x1, x2, x3, x9, x10, x46, x249000, x249001, x249002, x249003, x249004 => if x46 = true then (billiardref17_sum.l0 k x0 x1 x2 x3 x9 (wrap64 (x10 + 1))) else ((billiardref06_Find.f k x0 x249000).bind fun t251 => (if 0 ≤ t251 then (if t251 < (x0.length : Int) then ((billiardref06_Find.f k x0 x249001).bind fun t254 => (if 0 ≤ t254 then (if t254 < (x0.length : Int) then ((billiardref16_Strength.f x249000 x249001 x249002 x249003 x249004 ((rd_T44 x0 t251).f0) ((rd_T44 x0 t251).f1) ((rd_T44 x0 t251).f2.f0) ((rd_T44 x0 t251).f2.f1) ((rd_T44 x0 t251).f3) ((rd_T44 x0 t251).f4) ((rd_T44 x0 t251).f5.f0) ((rd_T44 x0 t251).f5.f1) ((rd_T44 x0 t251).f6.f0) ((rd_T44 x0 t251).f6.f1) ((rd_T44 x0 t254).f0) ((rd_T44 x0 t254).f1) ((rd_T44 x0 t254).f2.f0) ((rd_T44 x0 t254).f2.f1) ((rd_T44 x0 t254).f3) ((rd_T44 x0 t254).f4) ((rd_T44 x0 t254).f5.f0) ((rd_T44 x0 t254).f5.f1) ((rd_T44 x0 t254).f6.f0) ((rd_T44 x0 t254).f6.f1)).bind fun t257 => (if x3 = true then (billiardref17_sum.j2 k x0 x1 x2 x3 x9 x10 t257 x249003 x249000 x249001 x249002 x249003 x249004) else (billiardref17_sum.j2 k x0 x1 x2 x3 x9 x10 t257 x249002 x249000 x249001 x249002 x249003 x249004))) else (none)) else (none))) else (none)) else (none)))
def billiardref17_sum.j2 : Nat → List (S44) → List (S41) → Int → Bool → Int → Int → Int → Int → Int → Int → Int → Int → Int → Option (Int)
 | 0, _, _, _, _, _, _, _, _, _, _, _, _, _ => none
 | k + 1, x0, x1, x2, x3, x9, x10, x14, x15, x249000, x249001, x249002, x249003, x249004 => if 0 ≤ x2 then (if x2 < (x0.length : Int) then ((billiardref16_ChangeX.f x14 ((rd_T44 x0 x2).f3) x15).bind fun t259 => (if x249000 = ((rd_T44 x0 x2).f0) then (billiardref17_sum.l0 k x0 x1 x2 x3 (wrap64 (x9 - t259)) (wrap64 (x10 + 1))) else (billiardref17_sum.l0 k x0 x1 x2 x3 (wrap64 (x9 + t259)) (wrap64 (x10 + 1))))) else (none)) else (none)
end
def billiardref17_sum.f (k : Nat) (l0 : List (S44)) (l1 : List (S41)) (a2 : Int) (a3 : Bool) : Option (Int) := billiardref17_sum.l0 k l0 l1 a2 a3 0 0
theorem billiardref17_sum.mono_l : ∀ k, (∀ y0 y1 y2 y3 y4 y5, LeO (billiardref17_sum.l0 k y0 y1 y2 y3 y4 y5) (billiardref17_sum.l0 (k + 1) y0 y1 y2 y3 y4 y5)) ∧ (∀ y0 y1 y2 y3 y4 y5 y6 y7 y8 y9 y10 y11, LeO (billiardref17_sum.j1 k y0 y1 y2 y3 y4 y5 y6 y7 y8 y9 y10 y11) (billiardref17_sum.j1 (k + 1) y0 y1 y2 y3 y4 y5 y6 y7 y8 y9 y10 y11)) ∧ (∀ y0 y1 y2 y3 y4 y5 y6 y7 y8 y9 y10 y11 y12, LeO (billiardref17_sum.j2 k y0 y1 y2 y3 y4 y5 y6 y7 y8 y9 y10 y11 y12) (billiardref17_sum.j2 (k + 1) y0 y1 y2 y3 y4 y5 y6 y7 y8 y9 y10 y11 y12))
 | 0 => ⟨fun _ _ _ _ _ _ r h => by simp [billiardref17_sum.l0] at h, fun _ _ _ _ _ _ _ _ _ _ _ _ r h => by simp [billiardref17_sum.j1] at h, fun _ _ _ _ _ _ _ _ _ _ _ _ _ r h => by simp [billiardref17_sum.j2] at h⟩
 | k + 1 => by
  obtain ⟨ih0, ih1, ih2⟩ := billiardref17_sum.mono_l k
  refine ⟨?_, ?_, ?_⟩
  ·intro y0 y1 y2 y3 y4 y5
   unfold billiardref17_sum.l0
   repeat' first
   | (with_reducible exact ih0 _ _ _ _ _ _)
   | (with_reducible exact ih1 _ _ _ _ _ _ _ _ _ _ _ _)
   | (with_reducible exact ih2 _ _ _ _ _ _ _ _ _ _ _ _ _)
   | (with_reducible exact billiardref06_Find.mono _ _ _)
   | (with_reducible exact LeO.refl _)
   | (with_reducible exact LeO.none _)
   | (with_reducible refine LeO.ite ?_ ?_)
   | (with_reducible refine LeO.bind ?_ (fun _ => ?_))
   | exact ih0 _ _ _ _ _ _
   | exact ih1 _ _ _ _ _ _ _ _ _ _ _ _
   | exact ih2 _ _ _ _ _ _ _ _ _ _ _ _ _
   | exact billiardref06_Find.mono _ _ _
   | exact LeO.none _
   | refine LeO.ite ?_ ?_
   | refine LeO.bind ?_ (fun _ => ?_)
  ·intro y0 y1 y2 y3 y4 y5 y6 y7 y8 y9 y10 y11
   unfold billiardref17_sum.j1
   repeat' first
   | (with_reducible exact ih0 _ _ _ _ _ _)
   | (with_reducible exact ih1 _ _ _ _ _ _ _ _ _ _ _ _)
   | (with_reducible exact ih2 _ _ _ _ _ _ _ _ _ _ _ _ _)
   | (with_reducible exact billiardref06_Find.mono _ _ _)
   | (with_reducible exact LeO.refl _)
   | (with_reducible exact LeO.none _)
   | (with_reducible refine LeO.ite ?_ ?_)
   | (with_reducible refine LeO.bind ?_ (fun _ => ?_))
   | exact ih0 _ _ _ _ _ _
   | exact ih1 _ _ _ _ _ _ _ _ _ _ _ _
   | exact ih2 _ _ _ _ _ _ _ _ _ _ _ _ _
   | exact billiardref06_Find.mono _ _ _
   | exact LeO.none _
   | refine LeO.ite ?_ ?_
   | refine LeO.bind ?_ (fun _ => ?_)
  ·intro y0 y1 y2 y3 y4 y5 y6 y7 y8 y9 y10 y11 y12
   unfold billiardref17_sum.j2
   repeat' first
   | (with_reducible exact ih0 _ _ _ _ _ _)
   | (with_reducible exact ih1 _ _ _ _ _ _ _ _ _ _ _ _)
   | (with_reducible exact ih2 _ _ _ _ _ _ _ _ _ _ _ _ _)
   | (with_reducible exact billiardref06_Find.mono _ _ _)
   | (with_reducible exact LeO.refl _)
   | (with_reducible exact LeO.none _)
   | (with_reducible refine LeO.ite ?_ ?_)
   | (with_reducible refine LeO.bind ?_ (fun _ => ?_))
   | exact ih0 _ _ _ _ _ _
   | exact ih1 _ _ _ _ _ _ _ _ _ _ _ _
   | exact ih2 _ _ _ _ _ _ _ _ _ _ _ _ _
   | exact billiardref06_Find.mono _ _ _
   | exact LeO.none _
   | refine LeO.ite ?_ ?_
   | refine LeO.bind ?_ (fun _ => ?_)
theorem billiardref17_sum.mono : ∀ a0 a1 a2 a3 k, LeO (billiardref17_sum.f k a0 a1 a2 a3) (billiardref17_sum.f (k + 1) a0 a1 a2 a3) := by
 intro a0 a1 a2 a3 k
 obtain ⟨ih0, ih1, ih2⟩ := billiardref17_sum.mono_l k
 unfold billiardref17_sum.f
 repeat' first
   | (with_reducible exact ih0 _ _ _ _ _ _)
   | (with_reducible exact ih1 _ _ _ _ _ _ _ _ _ _ _ _)
   | (with_reducible exact ih2 _ _ _ _ _ _ _ _ _ _ _ _ _)
   | (with_reducible exact billiardref06_Find.mono _ _ _)
   | (with_reducible exact LeO.refl _)
   | (with_reducible exact LeO.none _)
   | (with_reducible refine LeO.ite ?_ ?_)
   | (with_reducible refine LeO.bind ?_ (fun _ => ?_))
   | exact ih0 _ _ _ _ _ _
   | exact ih1 _ _ _ _ _ _ _ _ _ _ _ _
   | exact ih2 _ _ _ _ _ _ _ _ _ _ _ _ _
   | exact billiardref06_Find.mono _ _ _
   | exact LeO.none _
   | refine LeO.ite ?_ ?_
   | refine LeO.bind ?_ (fun _ => ?_)
set_option maxHeartbeats 30000000 in
set_option maxRecDepth 100000 in
theorem billiardref17_sum.calls (k : Nat) (A0 : Option Addr) (c0 : Nat) (l0 : List (S44)) (A1 : Option Addr) (c1 : Nat) (l1 : List (S41)) (a2 : Int) (a3 : Bool) (r : Int) (w : World) (hr0 : Kd.C k44 w A0 l0.length l0) (hc0 : l0.length ≤ c0) (hr1 : Kd.C k41 w A1 l1.length l1) (hc1 : l1.length ≤ c1) (h : billiardref17_sum.f k l0 l1 a2 a3 = some r) :
  Calls Try.prog 24 #[.slice A0 l0.length c0, .slice A1 l1.length c1, .int .i64 a2, .bool a3] w fun e w' => e = .returned (.int .i64 r) ∧ Below w.heap.size w w' := by
 have hu41 := Try.underlying41
 have hu44 := Try.underlying44
 have HR0 := aM hr0
 have HC0 := aM hc0
 clear hr0 hc0
 have HR1 := aM hr1
 have HC1 := aM hc1
 clear hr1 hc1
 have HB := aM (Below.refl w.heap.size w)
 have H : (billiardref17_sum.l0 k l0 l1 a2 a3 0 0) = some r := h
 clear h
 have H' := aM H
 clear H
 go_enter Try.func24, Try.ntmps24
 go_wp2
 repeat (go_quiet (fail); try go_wp2)
 go_loopg [9, 10] k (fun kq v9 v10 w' => ∃ (x9_1 : Int) (x10_1 : Int), v9 = .int .i64 x9_1 ∧ v10 = .int .i64 x10_1 ∧ Aside0 (billiardref17_sum.l0 kq l0 l1 a2 a3 x9_1 x10_1 = some r) ∧ Aside0 (kq ≤ k) ∧ Aside0 (Below w.heap.size w w'))
 case atStart => exact ⟨(0), (0), (by first | rfl | (simp; done) | (simp [*]; done)), (by first | rfl | (simp; done) | (simp [*]; done)), H', ⟨Nat.le_refl _⟩, ⟨by repeat (first | (with_reducible first | exact HB.out | apply lA | apply lN | apply lD) | exact HB.out)⟩⟩
 case round =>
  clear H'
  try clear c1
  try clear c2
  try clear p2
  obtain ⟨x9_1, x10_1, rfl, rfl, HA, HK1, HB⟩ := hrel
  cases gk with
  | zero => exact absurd HA.out (by simp [billiardref17_sum.l0])
  | succ k1 =>
   have H := HA.out
   clear HA
   simp only [billiardref17_sum.l0] at H
   by_cases c5 : x10_1 < (l1.length : Int)
   ·rw [if_pos c5] at H
    have c5b0 : decide (x10_1 < (l1.length : Int)) = true := decide_eq_true c5
    clear c5
    by_cases c6 : 0 ≤ x10_1
    ·rw [if_pos c6] at H
     have c6b0 : decide (0 ≤ x10_1) = true := decide_eq_true c6
     clear c6
     have HC7 := aM H
     clear H
     have p247 : 0 ≤ (x10_1 : Int) := of_decide_eq_true (by first | (with_reducible assumption) | assumption)
     have q247 : x10_1 < (l1.length : Int) := of_decide_eq_true (by first | (with_reducible assumption) | assumption)
     obtain ⟨ad247, e247, hx247_0, hx247_1, hx247_2, hx247_3, hx247_4⟩ := at_T41 HR1.out x10_1 p247 q247
     cases e247
     replace hx247_0 := (HB.out.cell (World.block_lt_of_cell? w _ hx247_0)).trans hx247_0
     replace hx247_1 := (HB.out.cell (World.block_lt_of_cell? w _ hx247_1)).trans hx247_1
     replace hx247_2 := (HB.out.cell (World.block_lt_of_cell? w _ hx247_2)).trans hx247_2
     replace hx247_3 := (HB.out.cell (World.block_lt_of_cell? w _ hx247_3)).trans hx247_3
     replace hx247_4 := (HB.out.cell (World.block_lt_of_cell? w _ hx247_4)).trans hx247_4
     replace p247 := eq_true p247
     replace q247 := eq_true q247
     go_upto_region 6 with (first | ((with_reducible refine gate_dst (N := 11) rfl ?_); refine box_event ?hg (N := 11) ?hd (cs := #[.int .u32 0, .int .u32 0, .int .i32 0, .int .i32 0, .int .i32 0]) (t := 41) ?hr ?_; (case hd => rfl); (case hg => rfl); (case hr => first | (go_simp; done) | (go_simp; rfl)); intro b248 hg w8 hbox hb; have n0_ := aM (lT (by repeat (first | (with_reducible first | exact HB.out | apply lA | apply lN | apply lD) | exact HB.out)) hb); have n1_ := aM (hbox); have n2_ := aM ((by rw [hg]; exact (lZ (by repeat (first | (with_reducible first | exact HB.out | apply lA | apply lN | apply lD) | exact HB.out))) : w.heap.size ≤ b248)); have n3_ := aM ((by rw [hg]; exact (lZ (by repeat (first | (with_reducible first | exact HB.out | apply lA | apply lN | apply lD) | exact HB.out))) : w.heap.size ≤ b248)); clear HB; have HB := n0_; have BK248 := n1_; have GW248 := n2_; have GE248 := n3_; clear n0_ n1_ n2_ n3_; clear hb hbox hg; obtain ⟨hcz9_0, hcz9_1, hcz9_2, hcz9_3, hcz9_4, hfz9_0, hfz9_1, hfz9_2, hfz9_3, hfz9_4⟩ := kD5 BK248.out))
     (try simp only [Act.put, sA, sB, sC])
     go_cut [46] (fun v46 wc => ∃ (kq : Nat) (x46_6 : Bool), v46 = .bool x46_6 ∧ Aside0 (billiardref17_sum.j1 kq l0 l1 a2 a3 x9_1 x10_1 x46_6 ((rd_T41 l1 x10_1).f0.f0) ((rd_T41 l1 x10_1).f0.f1) ((rd_T41 l1 x10_1).f1.f0) ((rd_T41 l1 x10_1).f1.f1) ((rd_T41 l1 x10_1).f2) = some r) ∧ Aside0 (kq ≤ k1) ∧ Aside0 (wc.heap[b248]? = some (.cells #[.int .u32 ((rd_T41 l1 x10_1).f0.f0), .int .u32 ((rd_T41 l1 x10_1).f0.f1), .int .i32 ((rd_T41 l1 x10_1).f1.f0), .int .i32 ((rd_T41 l1 x10_1).f1.f1), .int .i32 ((rd_T41 l1 x10_1).f2)] 41 (0, 0))) ∧ Aside0 (Below w.heap.size w wc))
     case first =>
      have H := HC7.out
      clear HC7
      by_cases c10 : 0 ≤ a2
      ·rw [if_pos c10] at H
       have c10b0 : decide (0 ≤ a2) = true := decide_eq_true c10
       clear c10
       (first | rw [c10b0] | (simp only [i64_w, i32_w]; rw [c10b0]) | skip)
       by_cases c11 : a2 < (l0.length : Int)
       ·rw [if_pos c11] at H
        have c11b0 : decide (a2 < (l0.length : Int)) = true := decide_eq_true c11
        clear c11
        by_cases c12 : ((rd_T41 l1 x10_1).f0.f0) = ((rd_T44 l0 a2).f0)
        ·rw [if_pos c12] at H
         have c12b0 : (((rd_T41 l1 x10_1).f0.f0) == ((rd_T44 l0 a2).f0)) = true := beq_iff_eq.mpr c12
         have c12b1 : (((rd_T41 l1 x10_1).f0.f0) != ((rd_T44 l0 a2).f0)) = false := bne_eq_false_iff_eq.mpr c12
         clear c12
         have H' := aM H
         clear H
         obtain ⟨hcz13_0, hcz13_1, hcz13_2, hcz13_3, hcz13_4, hfz13_0, hfz13_1, hfz13_2, hfz13_3, hfz13_4⟩ := kD5 BK248.out
         have p249 : 0 ≤ (a2 : Int) := of_decide_eq_true (by first | (with_reducible assumption) | assumption)
         have q249 : a2 < (l0.length : Int) := of_decide_eq_true (by first | (with_reducible assumption) | assumption)
         obtain ⟨ad249, e249, hx249_0, hx249_1, hx249_2, hx249_3, hx249_4, hx249_5, hx249_6, hx249_7, hx249_8, hx249_9⟩ := at_T44 HR0.out a2 p249 q249
         cases e249
         have hn249_0 : ad249.block ≠ b248 := Nat.ne_of_lt (Nat.lt_of_lt_of_le (by have := World.block_lt_of_cell? _ _ hx249_0; first | rwa [add_block] at this | exact this) GW248.out)
         have hn249_1 : ad249.block ≠ b248 := Nat.ne_of_lt (Nat.lt_of_lt_of_le (by have := World.block_lt_of_cell? _ _ hx249_0; first | rwa [add_block] at this | exact this) GW248.out)
         have hn249_2 : ad249.block ≠ b248 := Nat.ne_of_lt (Nat.lt_of_lt_of_le (by have := World.block_lt_of_cell? _ _ hx249_0; first | rwa [add_block] at this | exact this) GW248.out)
         have hn249_3 : ad249.block ≠ b248 := Nat.ne_of_lt (Nat.lt_of_lt_of_le (by have := World.block_lt_of_cell? _ _ hx249_0; first | rwa [add_block] at this | exact this) GW248.out)
         have hn249_4 : ad249.block ≠ b248 := Nat.ne_of_lt (Nat.lt_of_lt_of_le (by have := World.block_lt_of_cell? _ _ hx249_0; first | rwa [add_block] at this | exact this) GW248.out)
         replace hx249_0 := (HB.out.cell (World.block_lt_of_cell? w _ hx249_0)).trans hx249_0
         replace hx249_1 := (HB.out.cell (World.block_lt_of_cell? w _ hx249_1)).trans hx249_1
         replace hx249_2 := (HB.out.cell (World.block_lt_of_cell? w _ hx249_2)).trans hx249_2
         replace hx249_3 := (HB.out.cell (World.block_lt_of_cell? w _ hx249_3)).trans hx249_3
         replace hx249_4 := (HB.out.cell (World.block_lt_of_cell? w _ hx249_4)).trans hx249_4
         replace hx249_5 := (HB.out.cell (World.block_lt_of_cell? w _ hx249_5)).trans hx249_5
         replace hx249_6 := (HB.out.cell (World.block_lt_of_cell? w _ hx249_6)).trans hx249_6
         replace hx249_7 := (HB.out.cell (World.block_lt_of_cell? w _ hx249_7)).trans hx249_7
         replace hx249_8 := (HB.out.cell (World.block_lt_of_cell? w _ hx249_8)).trans hx249_8
         replace hx249_9 := (HB.out.cell (World.block_lt_of_cell? w _ hx249_9)).trans hx249_9
         replace hx249_0 := (cF (p := ⟨b248, 0, none⟩) (by first | exact nA hn249_0 | exact hn249_0) (.int .u32 ((rd_T41 l1 x10_1).f0.f0))).trans hx249_0
         replace hx249_1 := (cF (p := ⟨b248, 0, none⟩) (by first | exact nA hn249_0 | exact hn249_0) (.int .u32 ((rd_T41 l1 x10_1).f0.f0))).trans hx249_1
         replace hx249_2 := (cF (p := ⟨b248, 0, none⟩) (by first | exact nA hn249_0 | exact hn249_0) (.int .u32 ((rd_T41 l1 x10_1).f0.f0))).trans hx249_2
         replace hx249_3 := (cF (p := ⟨b248, 0, none⟩) (by first | exact nA hn249_0 | exact hn249_0) (.int .u32 ((rd_T41 l1 x10_1).f0.f0))).trans hx249_3
         replace hx249_4 := (cF (p := ⟨b248, 0, none⟩) (by first | exact nA hn249_0 | exact hn249_0) (.int .u32 ((rd_T41 l1 x10_1).f0.f0))).trans hx249_4
         replace hx249_5 := (cF (p := ⟨b248, 0, none⟩) (by first | exact nA hn249_0 | exact hn249_0) (.int .u32 ((rd_T41 l1 x10_1).f0.f0))).trans hx249_5
         replace hx249_6 := (cF (p := ⟨b248, 0, none⟩) (by first | exact nA hn249_0 | exact hn249_0) (.int .u32 ((rd_T41 l1 x10_1).f0.f0))).trans hx249_6
         replace hx249_7 := (cF (p := ⟨b248, 0, none⟩) (by first | exact nA hn249_0 | exact hn249_0) (.int .u32 ((rd_T41 l1 x10_1).f0.f0))).trans hx249_7
         replace hx249_8 := (cF (p := ⟨b248, 0, none⟩) (by first | exact nA hn249_0 | exact hn249_0) (.int .u32 ((rd_T41 l1 x10_1).f0.f0))).trans hx249_8
         replace hx249_9 := (cF (p := ⟨b248, 0, none⟩) (by first | exact nA hn249_0 | exact hn249_0) (.int .u32 ((rd_T41 l1 x10_1).f0.f0))).trans hx249_9
         replace hx249_0 := (cF (p := ⟨b248, 1, none⟩) (by first | exact nA hn249_1 | exact hn249_1) (.int .u32 ((rd_T41 l1 x10_1).f0.f1))).trans hx249_0
         replace hx249_1 := (cF (p := ⟨b248, 1, none⟩) (by first | exact nA hn249_1 | exact hn249_1) (.int .u32 ((rd_T41 l1 x10_1).f0.f1))).trans hx249_1
         replace hx249_2 := (cF (p := ⟨b248, 1, none⟩) (by first | exact nA hn249_1 | exact hn249_1) (.int .u32 ((rd_T41 l1 x10_1).f0.f1))).trans hx249_2
         replace hx249_3 := (cF (p := ⟨b248, 1, none⟩) (by first | exact nA hn249_1 | exact hn249_1) (.int .u32 ((rd_T41 l1 x10_1).f0.f1))).trans hx249_3
         replace hx249_4 := (cF (p := ⟨b248, 1, none⟩) (by first | exact nA hn249_1 | exact hn249_1) (.int .u32 ((rd_T41 l1 x10_1).f0.f1))).trans hx249_4
         replace hx249_5 := (cF (p := ⟨b248, 1, none⟩) (by first | exact nA hn249_1 | exact hn249_1) (.int .u32 ((rd_T41 l1 x10_1).f0.f1))).trans hx249_5
         replace hx249_6 := (cF (p := ⟨b248, 1, none⟩) (by first | exact nA hn249_1 | exact hn249_1) (.int .u32 ((rd_T41 l1 x10_1).f0.f1))).trans hx249_6
         replace hx249_7 := (cF (p := ⟨b248, 1, none⟩) (by first | exact nA hn249_1 | exact hn249_1) (.int .u32 ((rd_T41 l1 x10_1).f0.f1))).trans hx249_7
         replace hx249_8 := (cF (p := ⟨b248, 1, none⟩) (by first | exact nA hn249_1 | exact hn249_1) (.int .u32 ((rd_T41 l1 x10_1).f0.f1))).trans hx249_8
         replace hx249_9 := (cF (p := ⟨b248, 1, none⟩) (by first | exact nA hn249_1 | exact hn249_1) (.int .u32 ((rd_T41 l1 x10_1).f0.f1))).trans hx249_9
         replace hx249_0 := (cF (p := ⟨b248, 2, none⟩) (by first | exact nA hn249_2 | exact hn249_2) (.int .i32 ((rd_T41 l1 x10_1).f1.f0))).trans hx249_0
         replace hx249_1 := (cF (p := ⟨b248, 2, none⟩) (by first | exact nA hn249_2 | exact hn249_2) (.int .i32 ((rd_T41 l1 x10_1).f1.f0))).trans hx249_1
         replace hx249_2 := (cF (p := ⟨b248, 2, none⟩) (by first | exact nA hn249_2 | exact hn249_2) (.int .i32 ((rd_T41 l1 x10_1).f1.f0))).trans hx249_2
         replace hx249_3 := (cF (p := ⟨b248, 2, none⟩) (by first | exact nA hn249_2 | exact hn249_2) (.int .i32 ((rd_T41 l1 x10_1).f1.f0))).trans hx249_3
         replace hx249_4 := (cF (p := ⟨b248, 2, none⟩) (by first | exact nA hn249_2 | exact hn249_2) (.int .i32 ((rd_T41 l1 x10_1).f1.f0))).trans hx249_4
         replace hx249_5 := (cF (p := ⟨b248, 2, none⟩) (by first | exact nA hn249_2 | exact hn249_2) (.int .i32 ((rd_T41 l1 x10_1).f1.f0))).trans hx249_5
         replace hx249_6 := (cF (p := ⟨b248, 2, none⟩) (by first | exact nA hn249_2 | exact hn249_2) (.int .i32 ((rd_T41 l1 x10_1).f1.f0))).trans hx249_6
         replace hx249_7 := (cF (p := ⟨b248, 2, none⟩) (by first | exact nA hn249_2 | exact hn249_2) (.int .i32 ((rd_T41 l1 x10_1).f1.f0))).trans hx249_7
         replace hx249_8 := (cF (p := ⟨b248, 2, none⟩) (by first | exact nA hn249_2 | exact hn249_2) (.int .i32 ((rd_T41 l1 x10_1).f1.f0))).trans hx249_8
         replace hx249_9 := (cF (p := ⟨b248, 2, none⟩) (by first | exact nA hn249_2 | exact hn249_2) (.int .i32 ((rd_T41 l1 x10_1).f1.f0))).trans hx249_9
         replace hx249_0 := (cF (p := ⟨b248, 3, none⟩) (by first | exact nA hn249_3 | exact hn249_3) (.int .i32 ((rd_T41 l1 x10_1).f1.f1))).trans hx249_0
         replace hx249_1 := (cF (p := ⟨b248, 3, none⟩) (by first | exact nA hn249_3 | exact hn249_3) (.int .i32 ((rd_T41 l1 x10_1).f1.f1))).trans hx249_1
         replace hx249_2 := (cF (p := ⟨b248, 3, none⟩) (by first | exact nA hn249_3 | exact hn249_3) (.int .i32 ((rd_T41 l1 x10_1).f1.f1))).trans hx249_2
         replace hx249_3 := (cF (p := ⟨b248, 3, none⟩) (by first | exact nA hn249_3 | exact hn249_3) (.int .i32 ((rd_T41 l1 x10_1).f1.f1))).trans hx249_3
         replace hx249_4 := (cF (p := ⟨b248, 3, none⟩) (by first | exact nA hn249_3 | exact hn249_3) (.int .i32 ((rd_T41 l1 x10_1).f1.f1))).trans hx249_4
         replace hx249_5 := (cF (p := ⟨b248, 3, none⟩) (by first | exact nA hn249_3 | exact hn249_3) (.int .i32 ((rd_T41 l1 x10_1).f1.f1))).trans hx249_5
         replace hx249_6 := (cF (p := ⟨b248, 3, none⟩) (by first | exact nA hn249_3 | exact hn249_3) (.int .i32 ((rd_T41 l1 x10_1).f1.f1))).trans hx249_6
         replace hx249_7 := (cF (p := ⟨b248, 3, none⟩) (by first | exact nA hn249_3 | exact hn249_3) (.int .i32 ((rd_T41 l1 x10_1).f1.f1))).trans hx249_7
         replace hx249_8 := (cF (p := ⟨b248, 3, none⟩) (by first | exact nA hn249_3 | exact hn249_3) (.int .i32 ((rd_T41 l1 x10_1).f1.f1))).trans hx249_8
         replace hx249_9 := (cF (p := ⟨b248, 3, none⟩) (by first | exact nA hn249_3 | exact hn249_3) (.int .i32 ((rd_T41 l1 x10_1).f1.f1))).trans hx249_9
         replace hx249_0 := (cF (p := ⟨b248, 4, none⟩) (by first | exact nA hn249_4 | exact hn249_4) (.int .i32 ((rd_T41 l1 x10_1).f2))).trans hx249_0
         replace hx249_1 := (cF (p := ⟨b248, 4, none⟩) (by first | exact nA hn249_4 | exact hn249_4) (.int .i32 ((rd_T41 l1 x10_1).f2))).trans hx249_1
         replace hx249_2 := (cF (p := ⟨b248, 4, none⟩) (by first | exact nA hn249_4 | exact hn249_4) (.int .i32 ((rd_T41 l1 x10_1).f2))).trans hx249_2
         replace hx249_3 := (cF (p := ⟨b248, 4, none⟩) (by first | exact nA hn249_4 | exact hn249_4) (.int .i32 ((rd_T41 l1 x10_1).f2))).trans hx249_3
         replace hx249_4 := (cF (p := ⟨b248, 4, none⟩) (by first | exact nA hn249_4 | exact hn249_4) (.int .i32 ((rd_T41 l1 x10_1).f2))).trans hx249_4
         replace hx249_5 := (cF (p := ⟨b248, 4, none⟩) (by first | exact nA hn249_4 | exact hn249_4) (.int .i32 ((rd_T41 l1 x10_1).f2))).trans hx249_5
         replace hx249_6 := (cF (p := ⟨b248, 4, none⟩) (by first | exact nA hn249_4 | exact hn249_4) (.int .i32 ((rd_T41 l1 x10_1).f2))).trans hx249_6
         replace hx249_7 := (cF (p := ⟨b248, 4, none⟩) (by first | exact nA hn249_4 | exact hn249_4) (.int .i32 ((rd_T41 l1 x10_1).f2))).trans hx249_7
         replace hx249_8 := (cF (p := ⟨b248, 4, none⟩) (by first | exact nA hn249_4 | exact hn249_4) (.int .i32 ((rd_T41 l1 x10_1).f2))).trans hx249_8
         replace hx249_9 := (cF (p := ⟨b248, 4, none⟩) (by first | exact nA hn249_4 | exact hn249_4) (.int .i32 ((rd_T41 l1 x10_1).f2))).trans hx249_9
         clear hn249_0
         clear hn249_1
         clear hn249_2
         clear hn249_3
         clear hn249_4
         replace p249 := eq_true p249
         replace q249 := eq_true q249
         go_wp2
         repeat (go_quiet (fail); try go_wp2)
         go_meet
         case rel => exact ⟨_, (false), (by first | rfl | (simp; done) | (simp [*]; done)), H', ⟨by have := HK1.out; first | omega | exact Nat.le_refl _⟩, ⟨by (with_reducible repeat first | apply bN | apply bD | apply bA); refine bP (cs := #[.int .u32 ((rd_T41 l1 x10_1).f0.f0), .int .u32 ((rd_T41 l1 x10_1).f0.f1), .int .i32 ((rd_T41 l1 x10_1).f1.f0), .int .i32 ((rd_T41 l1 x10_1).f1.f1), .int .i32 0]) ?_ 4 _ rfl; (with_reducible repeat first | apply bN | apply bD | apply bA); refine bP (cs := #[.int .u32 ((rd_T41 l1 x10_1).f0.f0), .int .u32 ((rd_T41 l1 x10_1).f0.f1), .int .i32 ((rd_T41 l1 x10_1).f1.f0), .int .i32 0, .int .i32 0]) ?_ 3 _ rfl; (with_reducible repeat first | apply bN | apply bD | apply bA); refine bP (cs := #[.int .u32 ((rd_T41 l1 x10_1).f0.f0), .int .u32 ((rd_T41 l1 x10_1).f0.f1), .int .i32 0, .int .i32 0, .int .i32 0]) ?_ 2 _ rfl; (with_reducible repeat first | apply bN | apply bD | apply bA); refine bP (cs := #[.int .u32 ((rd_T41 l1 x10_1).f0.f0), .int .u32 0, .int .i32 0, .int .i32 0, .int .i32 0]) ?_ 1 _ rfl; (with_reducible repeat first | apply bN | apply bD | apply bA); refine bP (cs := #[.int .u32 0, .int .u32 0, .int .i32 0, .int .i32 0, .int .i32 0]) ?_ 0 _ rfl; (with_reducible repeat first | apply bN | apply bD | apply bA); exact BK248.out⟩, ⟨by repeat (first | (with_reducible first | exact HB.out | apply lA | apply lN | apply lD | refine lS ?_ GE248.out) | exact HB.out)⟩⟩
        ·rw [if_neg c12] at H
         have c12b0 : (((rd_T41 l1 x10_1).f0.f0) == ((rd_T44 l0 a2).f0)) = false := beq_eq_false_iff_ne.mpr c12
         have c12b1 : (((rd_T41 l1 x10_1).f0.f0) != ((rd_T44 l0 a2).f0)) = true := bne_iff_ne.mpr c12
         have H' := aM H
         clear H
         obtain ⟨hcz14_0, hcz14_1, hcz14_2, hcz14_3, hcz14_4, hfz14_0, hfz14_1, hfz14_2, hfz14_3, hfz14_4⟩ := kD5 BK248.out
         have p249 : 0 ≤ (a2 : Int) := of_decide_eq_true (by first | (with_reducible assumption) | assumption)
         have q249 : a2 < (l0.length : Int) := of_decide_eq_true (by first | (with_reducible assumption) | assumption)
         obtain ⟨ad249, e249, hx249_0, hx249_1, hx249_2, hx249_3, hx249_4, hx249_5, hx249_6, hx249_7, hx249_8, hx249_9⟩ := at_T44 HR0.out a2 p249 q249
         cases e249
         have hn249_0 : ad249.block ≠ b248 := Nat.ne_of_lt (Nat.lt_of_lt_of_le (by have := World.block_lt_of_cell? _ _ hx249_0; first | rwa [add_block] at this | exact this) GW248.out)
         have hn249_1 : ad249.block ≠ b248 := Nat.ne_of_lt (Nat.lt_of_lt_of_le (by have := World.block_lt_of_cell? _ _ hx249_0; first | rwa [add_block] at this | exact this) GW248.out)
         have hn249_2 : ad249.block ≠ b248 := Nat.ne_of_lt (Nat.lt_of_lt_of_le (by have := World.block_lt_of_cell? _ _ hx249_0; first | rwa [add_block] at this | exact this) GW248.out)
         have hn249_3 : ad249.block ≠ b248 := Nat.ne_of_lt (Nat.lt_of_lt_of_le (by have := World.block_lt_of_cell? _ _ hx249_0; first | rwa [add_block] at this | exact this) GW248.out)
         have hn249_4 : ad249.block ≠ b248 := Nat.ne_of_lt (Nat.lt_of_lt_of_le (by have := World.block_lt_of_cell? _ _ hx249_0; first | rwa [add_block] at this | exact this) GW248.out)
         replace hx249_0 := (HB.out.cell (World.block_lt_of_cell? w _ hx249_0)).trans hx249_0
         replace hx249_1 := (HB.out.cell (World.block_lt_of_cell? w _ hx249_1)).trans hx249_1
         replace hx249_2 := (HB.out.cell (World.block_lt_of_cell? w _ hx249_2)).trans hx249_2
         replace hx249_3 := (HB.out.cell (World.block_lt_of_cell? w _ hx249_3)).trans hx249_3
         replace hx249_4 := (HB.out.cell (World.block_lt_of_cell? w _ hx249_4)).trans hx249_4
         replace hx249_5 := (HB.out.cell (World.block_lt_of_cell? w _ hx249_5)).trans hx249_5
         replace hx249_6 := (HB.out.cell (World.block_lt_of_cell? w _ hx249_6)).trans hx249_6
         replace hx249_7 := (HB.out.cell (World.block_lt_of_cell? w _ hx249_7)).trans hx249_7
         replace hx249_8 := (HB.out.cell (World.block_lt_of_cell? w _ hx249_8)).trans hx249_8
         replace hx249_9 := (HB.out.cell (World.block_lt_of_cell? w _ hx249_9)).trans hx249_9
         replace hx249_0 := (cF (p := ⟨b248, 0, none⟩) (by first | exact nA hn249_0 | exact hn249_0) (.int .u32 ((rd_T41 l1 x10_1).f0.f0))).trans hx249_0
         replace hx249_1 := (cF (p := ⟨b248, 0, none⟩) (by first | exact nA hn249_0 | exact hn249_0) (.int .u32 ((rd_T41 l1 x10_1).f0.f0))).trans hx249_1
         replace hx249_2 := (cF (p := ⟨b248, 0, none⟩) (by first | exact nA hn249_0 | exact hn249_0) (.int .u32 ((rd_T41 l1 x10_1).f0.f0))).trans hx249_2
         replace hx249_3 := (cF (p := ⟨b248, 0, none⟩) (by first | exact nA hn249_0 | exact hn249_0) (.int .u32 ((rd_T41 l1 x10_1).f0.f0))).trans hx249_3
         replace hx249_4 := (cF (p := ⟨b248, 0, none⟩) (by first | exact nA hn249_0 | exact hn249_0) (.int .u32 ((rd_T41 l1 x10_1).f0.f0))).trans hx249_4
         replace hx249_5 := (cF (p := ⟨b248, 0, none⟩) (by first | exact nA hn249_0 | exact hn249_0) (.int .u32 ((rd_T41 l1 x10_1).f0.f0))).trans hx249_5
         replace hx249_6 := (cF (p := ⟨b248, 0, none⟩) (by first | exact nA hn249_0 | exact hn249_0) (.int .u32 ((rd_T41 l1 x10_1).f0.f0))).trans hx249_6
         replace hx249_7 := (cF (p := ⟨b248, 0, none⟩) (by first | exact nA hn249_0 | exact hn249_0) (.int .u32 ((rd_T41 l1 x10_1).f0.f0))).trans hx249_7
         replace hx249_8 := (cF (p := ⟨b248, 0, none⟩) (by first | exact nA hn249_0 | exact hn249_0) (.int .u32 ((rd_T41 l1 x10_1).f0.f0))).trans hx249_8
         replace hx249_9 := (cF (p := ⟨b248, 0, none⟩) (by first | exact nA hn249_0 | exact hn249_0) (.int .u32 ((rd_T41 l1 x10_1).f0.f0))).trans hx249_9
         replace hx249_0 := (cF (p := ⟨b248, 1, none⟩) (by first | exact nA hn249_1 | exact hn249_1) (.int .u32 ((rd_T41 l1 x10_1).f0.f1))).trans hx249_0
         replace hx249_1 := (cF (p := ⟨b248, 1, none⟩) (by first | exact nA hn249_1 | exact hn249_1) (.int .u32 ((rd_T41 l1 x10_1).f0.f1))).trans hx249_1
         replace hx249_2 := (cF (p := ⟨b248, 1, none⟩) (by first | exact nA hn249_1 | exact hn249_1) (.int .u32 ((rd_T41 l1 x10_1).f0.f1))).trans hx249_2
         replace hx249_3 := (cF (p := ⟨b248, 1, none⟩) (by first | exact nA hn249_1 | exact hn249_1) (.int .u32 ((rd_T41 l1 x10_1).f0.f1))).trans hx249_3
         replace hx249_4 := (cF (p := ⟨b248, 1, none⟩) (by first | exact nA hn249_1 | exact hn249_1) (.int .u32 ((rd_T41 l1 x10_1).f0.f1))).trans hx249_4
         replace hx249_5 := (cF (p := ⟨b248, 1, none⟩) (by first | exact nA hn249_1 | exact hn249_1) (.int .u32 ((rd_T41 l1 x10_1).f0.f1))).trans hx249_5
         replace hx249_6 := (cF (p := ⟨b248, 1, none⟩) (by first | exact nA hn249_1 | exact hn249_1) (.int .u32 ((rd_T41 l1 x10_1).f0.f1))).trans hx249_6
         replace hx249_7 := (cF (p := ⟨b248, 1, none⟩) (by first | exact nA hn249_1 | exact hn249_1) (.int .u32 ((rd_T41 l1 x10_1).f0.f1))).trans hx249_7
         replace hx249_8 := (cF (p := ⟨b248, 1, none⟩) (by first | exact nA hn249_1 | exact hn249_1) (.int .u32 ((rd_T41 l1 x10_1).f0.f1))).trans hx249_8
         replace hx249_9 := (cF (p := ⟨b248, 1, none⟩) (by first | exact nA hn249_1 | exact hn249_1) (.int .u32 ((rd_T41 l1 x10_1).f0.f1))).trans hx249_9
         replace hx249_0 := (cF (p := ⟨b248, 2, none⟩) (by first | exact nA hn249_2 | exact hn249_2) (.int .i32 ((rd_T41 l1 x10_1).f1.f0))).trans hx249_0
         replace hx249_1 := (cF (p := ⟨b248, 2, none⟩) (by first | exact nA hn249_2 | exact hn249_2) (.int .i32 ((rd_T41 l1 x10_1).f1.f0))).trans hx249_1
         replace hx249_2 := (cF (p := ⟨b248, 2, none⟩) (by first | exact nA hn249_2 | exact hn249_2) (.int .i32 ((rd_T41 l1 x10_1).f1.f0))).trans hx249_2
         replace hx249_3 := (cF (p := ⟨b248, 2, none⟩) (by first | exact nA hn249_2 | exact hn249_2) (.int .i32 ((rd_T41 l1 x10_1).f1.f0))).trans hx249_3
         replace hx249_4 := (cF (p := ⟨b248, 2, none⟩) (by first | exact nA hn249_2 | exact hn249_2) (.int .i32 ((rd_T41 l1 x10_1).f1.f0))).trans hx249_4
         replace hx249_5 := (cF (p := ⟨b248, 2, none⟩) (by first | exact nA hn249_2 | exact hn249_2) (.int .i32 ((rd_T41 l1 x10_1).f1.f0))).trans hx249_5
         replace hx249_6 := (cF (p := ⟨b248, 2, none⟩) (by first | exact nA hn249_2 | exact hn249_2) (.int .i32 ((rd_T41 l1 x10_1).f1.f0))).trans hx249_6
         replace hx249_7 := (cF (p := ⟨b248, 2, none⟩) (by first | exact nA hn249_2 | exact hn249_2) (.int .i32 ((rd_T41 l1 x10_1).f1.f0))).trans hx249_7
         replace hx249_8 := (cF (p := ⟨b248, 2, none⟩) (by first | exact nA hn249_2 | exact hn249_2) (.int .i32 ((rd_T41 l1 x10_1).f1.f0))).trans hx249_8
         replace hx249_9 := (cF (p := ⟨b248, 2, none⟩) (by first | exact nA hn249_2 | exact hn249_2) (.int .i32 ((rd_T41 l1 x10_1).f1.f0))).trans hx249_9
         replace hx249_0 := (cF (p := ⟨b248, 3, none⟩) (by first | exact nA hn249_3 | exact hn249_3) (.int .i32 ((rd_T41 l1 x10_1).f1.f1))).trans hx249_0
         replace hx249_1 := (cF (p := ⟨b248, 3, none⟩) (by first | exact nA hn249_3 | exact hn249_3) (.int .i32 ((rd_T41 l1 x10_1).f1.f1))).trans hx249_1
         replace hx249_2 := (cF (p := ⟨b248, 3, none⟩) (by first | exact nA hn249_3 | exact hn249_3) (.int .i32 ((rd_T41 l1 x10_1).f1.f1))).trans hx249_2
         replace hx249_3 := (cF (p := ⟨b248, 3, none⟩) (by first | exact nA hn249_3 | exact hn249_3) (.int .i32 ((rd_T41 l1 x10_1).f1.f1))).trans hx249_3
         replace hx249_4 := (cF (p := ⟨b248, 3, none⟩) (by first | exact nA hn249_3 | exact hn249_3) (.int .i32 ((rd_T41 l1 x10_1).f1.f1))).trans hx249_4
         replace hx249_5 := (cF (p := ⟨b248, 3, none⟩) (by first | exact nA hn249_3 | exact hn249_3) (.int .i32 ((rd_T41 l1 x10_1).f1.f1))).trans hx249_5
         replace hx249_6 := (cF (p := ⟨b248, 3, none⟩) (by first | exact nA hn249_3 | exact hn249_3) (.int .i32 ((rd_T41 l1 x10_1).f1.f1))).trans hx249_6
         replace hx249_7 := (cF (p := ⟨b248, 3, none⟩) (by first | exact nA hn249_3 | exact hn249_3) (.int .i32 ((rd_T41 l1 x10_1).f1.f1))).trans hx249_7
         replace hx249_8 := (cF (p := ⟨b248, 3, none⟩) (by first | exact nA hn249_3 | exact hn249_3) (.int .i32 ((rd_T41 l1 x10_1).f1.f1))).trans hx249_8
         replace hx249_9 := (cF (p := ⟨b248, 3, none⟩) (by first | exact nA hn249_3 | exact hn249_3) (.int .i32 ((rd_T41 l1 x10_1).f1.f1))).trans hx249_9
         replace hx249_0 := (cF (p := ⟨b248, 4, none⟩) (by first | exact nA hn249_4 | exact hn249_4) (.int .i32 ((rd_T41 l1 x10_1).f2))).trans hx249_0
         replace hx249_1 := (cF (p := ⟨b248, 4, none⟩) (by first | exact nA hn249_4 | exact hn249_4) (.int .i32 ((rd_T41 l1 x10_1).f2))).trans hx249_1
         replace hx249_2 := (cF (p := ⟨b248, 4, none⟩) (by first | exact nA hn249_4 | exact hn249_4) (.int .i32 ((rd_T41 l1 x10_1).f2))).trans hx249_2
         replace hx249_3 := (cF (p := ⟨b248, 4, none⟩) (by first | exact nA hn249_4 | exact hn249_4) (.int .i32 ((rd_T41 l1 x10_1).f2))).trans hx249_3
         replace hx249_4 := (cF (p := ⟨b248, 4, none⟩) (by first | exact nA hn249_4 | exact hn249_4) (.int .i32 ((rd_T41 l1 x10_1).f2))).trans hx249_4
         replace hx249_5 := (cF (p := ⟨b248, 4, none⟩) (by first | exact nA hn249_4 | exact hn249_4) (.int .i32 ((rd_T41 l1 x10_1).f2))).trans hx249_5
         replace hx249_6 := (cF (p := ⟨b248, 4, none⟩) (by first | exact nA hn249_4 | exact hn249_4) (.int .i32 ((rd_T41 l1 x10_1).f2))).trans hx249_6
         replace hx249_7 := (cF (p := ⟨b248, 4, none⟩) (by first | exact nA hn249_4 | exact hn249_4) (.int .i32 ((rd_T41 l1 x10_1).f2))).trans hx249_7
         replace hx249_8 := (cF (p := ⟨b248, 4, none⟩) (by first | exact nA hn249_4 | exact hn249_4) (.int .i32 ((rd_T41 l1 x10_1).f2))).trans hx249_8
         replace hx249_9 := (cF (p := ⟨b248, 4, none⟩) (by first | exact nA hn249_4 | exact hn249_4) (.int .i32 ((rd_T41 l1 x10_1).f2))).trans hx249_9
         clear hn249_0
         clear hn249_1
         clear hn249_2
         clear hn249_3
         clear hn249_4
         replace p249 := eq_true p249
         replace q249 := eq_true q249
         have p250 : 0 ≤ (a2 : Int) := of_decide_eq_true (by first | (with_reducible assumption) | assumption)
         have q250 : a2 < (l0.length : Int) := of_decide_eq_true (by first | (with_reducible assumption) | assumption)
         obtain ⟨ad250, e250, hx250_0, hx250_1, hx250_2, hx250_3, hx250_4, hx250_5, hx250_6, hx250_7, hx250_8, hx250_9⟩ := at_T44 HR0.out a2 p250 q250
         obtain rfl : ad249 = ad250 := (by injection e250)
         have hn250_0 : ad249.block ≠ b248 := Nat.ne_of_lt (Nat.lt_of_lt_of_le (by have := World.block_lt_of_cell? _ _ hx250_0; first | rwa [add_block] at this | exact this) GW248.out)
         have hn250_1 : ad249.block ≠ b248 := Nat.ne_of_lt (Nat.lt_of_lt_of_le (by have := World.block_lt_of_cell? _ _ hx250_0; first | rwa [add_block] at this | exact this) GW248.out)
         have hn250_2 : ad249.block ≠ b248 := Nat.ne_of_lt (Nat.lt_of_lt_of_le (by have := World.block_lt_of_cell? _ _ hx250_0; first | rwa [add_block] at this | exact this) GW248.out)
         have hn250_3 : ad249.block ≠ b248 := Nat.ne_of_lt (Nat.lt_of_lt_of_le (by have := World.block_lt_of_cell? _ _ hx250_0; first | rwa [add_block] at this | exact this) GW248.out)
         have hn250_4 : ad249.block ≠ b248 := Nat.ne_of_lt (Nat.lt_of_lt_of_le (by have := World.block_lt_of_cell? _ _ hx250_0; first | rwa [add_block] at this | exact this) GW248.out)
         replace hx250_0 := (HB.out.cell (World.block_lt_of_cell? w _ hx250_0)).trans hx250_0
         replace hx250_1 := (HB.out.cell (World.block_lt_of_cell? w _ hx250_1)).trans hx250_1
         replace hx250_2 := (HB.out.cell (World.block_lt_of_cell? w _ hx250_2)).trans hx250_2
         replace hx250_3 := (HB.out.cell (World.block_lt_of_cell? w _ hx250_3)).trans hx250_3
         replace hx250_4 := (HB.out.cell (World.block_lt_of_cell? w _ hx250_4)).trans hx250_4
         replace hx250_5 := (HB.out.cell (World.block_lt_of_cell? w _ hx250_5)).trans hx250_5
         replace hx250_6 := (HB.out.cell (World.block_lt_of_cell? w _ hx250_6)).trans hx250_6
         replace hx250_7 := (HB.out.cell (World.block_lt_of_cell? w _ hx250_7)).trans hx250_7
         replace hx250_8 := (HB.out.cell (World.block_lt_of_cell? w _ hx250_8)).trans hx250_8
         replace hx250_9 := (HB.out.cell (World.block_lt_of_cell? w _ hx250_9)).trans hx250_9
         replace hx250_0 := (cF (p := ⟨b248, 0, none⟩) (by first | exact nA hn250_0 | exact hn250_0) (.int .u32 ((rd_T41 l1 x10_1).f0.f0))).trans hx250_0
         replace hx250_1 := (cF (p := ⟨b248, 0, none⟩) (by first | exact nA hn250_0 | exact hn250_0) (.int .u32 ((rd_T41 l1 x10_1).f0.f0))).trans hx250_1
         replace hx250_2 := (cF (p := ⟨b248, 0, none⟩) (by first | exact nA hn250_0 | exact hn250_0) (.int .u32 ((rd_T41 l1 x10_1).f0.f0))).trans hx250_2
         replace hx250_3 := (cF (p := ⟨b248, 0, none⟩) (by first | exact nA hn250_0 | exact hn250_0) (.int .u32 ((rd_T41 l1 x10_1).f0.f0))).trans hx250_3
         replace hx250_4 := (cF (p := ⟨b248, 0, none⟩) (by first | exact nA hn250_0 | exact hn250_0) (.int .u32 ((rd_T41 l1 x10_1).f0.f0))).trans hx250_4
         replace hx250_5 := (cF (p := ⟨b248, 0, none⟩) (by first | exact nA hn250_0 | exact hn250_0) (.int .u32 ((rd_T41 l1 x10_1).f0.f0))).trans hx250_5
         replace hx250_6 := (cF (p := ⟨b248, 0, none⟩) (by first | exact nA hn250_0 | exact hn250_0) (.int .u32 ((rd_T41 l1 x10_1).f0.f0))).trans hx250_6
         replace hx250_7 := (cF (p := ⟨b248, 0, none⟩) (by first | exact nA hn250_0 | exact hn250_0) (.int .u32 ((rd_T41 l1 x10_1).f0.f0))).trans hx250_7
         replace hx250_8 := (cF (p := ⟨b248, 0, none⟩) (by first | exact nA hn250_0 | exact hn250_0) (.int .u32 ((rd_T41 l1 x10_1).f0.f0))).trans hx250_8
         replace hx250_9 := (cF (p := ⟨b248, 0, none⟩) (by first | exact nA hn250_0 | exact hn250_0) (.int .u32 ((rd_T41 l1 x10_1).f0.f0))).trans hx250_9
         replace hx250_0 := (cF (p := ⟨b248, 1, none⟩) (by first | exact nA hn250_1 | exact hn250_1) (.int .u32 ((rd_T41 l1 x10_1).f0.f1))).trans hx250_0
         replace hx250_1 := (cF (p := ⟨b248, 1, none⟩) (by first | exact nA hn250_1 | exact hn250_1) (.int .u32 ((rd_T41 l1 x10_1).f0.f1))).trans hx250_1
         replace hx250_2 := (cF (p := ⟨b248, 1, none⟩) (by first | exact nA hn250_1 | exact hn250_1) (.int .u32 ((rd_T41 l1 x10_1).f0.f1))).trans hx250_2
         replace hx250_3 := (cF (p := ⟨b248, 1, none⟩) (by first | exact nA hn250_1 | exact hn250_1) (.int .u32 ((rd_T41 l1 x10_1).f0.f1))).trans hx250_3
         replace hx250_4 := (cF (p := ⟨b248, 1, none⟩) (by first | exact nA hn250_1 | exact hn250_1) (.int .u32 ((rd_T41 l1 x10_1).f0.f1))).trans hx250_4
         replace hx250_5 := (cF (p := ⟨b248, 1, none⟩) (by first | exact nA hn250_1 | exact hn250_1) (.int .u32 ((rd_T41 l1 x10_1).f0.f1))).trans hx250_5
         replace hx250_6 := (cF (p := ⟨b248, 1, none⟩) (by first | exact nA hn250_1 | exact hn250_1) (.int .u32 ((rd_T41 l1 x10_1).f0.f1))).trans hx250_6
         replace hx250_7 := (cF (p := ⟨b248, 1, none⟩) (by first | exact nA hn250_1 | exact hn250_1) (.int .u32 ((rd_T41 l1 x10_1).f0.f1))).trans hx250_7
         replace hx250_8 := (cF (p := ⟨b248, 1, none⟩) (by first | exact nA hn250_1 | exact hn250_1) (.int .u32 ((rd_T41 l1 x10_1).f0.f1))).trans hx250_8
         replace hx250_9 := (cF (p := ⟨b248, 1, none⟩) (by first | exact nA hn250_1 | exact hn250_1) (.int .u32 ((rd_T41 l1 x10_1).f0.f1))).trans hx250_9
         replace hx250_0 := (cF (p := ⟨b248, 2, none⟩) (by first | exact nA hn250_2 | exact hn250_2) (.int .i32 ((rd_T41 l1 x10_1).f1.f0))).trans hx250_0
         replace hx250_1 := (cF (p := ⟨b248, 2, none⟩) (by first | exact nA hn250_2 | exact hn250_2) (.int .i32 ((rd_T41 l1 x10_1).f1.f0))).trans hx250_1
         replace hx250_2 := (cF (p := ⟨b248, 2, none⟩) (by first | exact nA hn250_2 | exact hn250_2) (.int .i32 ((rd_T41 l1 x10_1).f1.f0))).trans hx250_2
         replace hx250_3 := (cF (p := ⟨b248, 2, none⟩) (by first | exact nA hn250_2 | exact hn250_2) (.int .i32 ((rd_T41 l1 x10_1).f1.f0))).trans hx250_3
         replace hx250_4 := (cF (p := ⟨b248, 2, none⟩) (by first | exact nA hn250_2 | exact hn250_2) (.int .i32 ((rd_T41 l1 x10_1).f1.f0))).trans hx250_4
         replace hx250_5 := (cF (p := ⟨b248, 2, none⟩) (by first | exact nA hn250_2 | exact hn250_2) (.int .i32 ((rd_T41 l1 x10_1).f1.f0))).trans hx250_5
         replace hx250_6 := (cF (p := ⟨b248, 2, none⟩) (by first | exact nA hn250_2 | exact hn250_2) (.int .i32 ((rd_T41 l1 x10_1).f1.f0))).trans hx250_6
         replace hx250_7 := (cF (p := ⟨b248, 2, none⟩) (by first | exact nA hn250_2 | exact hn250_2) (.int .i32 ((rd_T41 l1 x10_1).f1.f0))).trans hx250_7
         replace hx250_8 := (cF (p := ⟨b248, 2, none⟩) (by first | exact nA hn250_2 | exact hn250_2) (.int .i32 ((rd_T41 l1 x10_1).f1.f0))).trans hx250_8
         replace hx250_9 := (cF (p := ⟨b248, 2, none⟩) (by first | exact nA hn250_2 | exact hn250_2) (.int .i32 ((rd_T41 l1 x10_1).f1.f0))).trans hx250_9
         replace hx250_0 := (cF (p := ⟨b248, 3, none⟩) (by first | exact nA hn250_3 | exact hn250_3) (.int .i32 ((rd_T41 l1 x10_1).f1.f1))).trans hx250_0
         replace hx250_1 := (cF (p := ⟨b248, 3, none⟩) (by first | exact nA hn250_3 | exact hn250_3) (.int .i32 ((rd_T41 l1 x10_1).f1.f1))).trans hx250_1
         replace hx250_2 := (cF (p := ⟨b248, 3, none⟩) (by first | exact nA hn250_3 | exact hn250_3) (.int .i32 ((rd_T41 l1 x10_1).f1.f1))).trans hx250_2
         replace hx250_3 := (cF (p := ⟨b248, 3, none⟩) (by first | exact nA hn250_3 | exact hn250_3) (.int .i32 ((rd_T41 l1 x10_1).f1.f1))).trans hx250_3
         replace hx250_4 := (cF (p := ⟨b248, 3, none⟩) (by first | exact nA hn250_3 | exact hn250_3) (.int .i32 ((rd_T41 l1 x10_1).f1.f1))).trans hx250_4
         replace hx250_5 := (cF (p := ⟨b248, 3, none⟩) (by first | exact nA hn250_3 | exact hn250_3) (.int .i32 ((rd_T41 l1 x10_1).f1.f1))).trans hx250_5
         replace hx250_6 := (cF (p := ⟨b248, 3, none⟩) (by first | exact nA hn250_3 | exact hn250_3) (.int .i32 ((rd_T41 l1 x10_1).f1.f1))).trans hx250_6
         replace hx250_7 := (cF (p := ⟨b248, 3, none⟩) (by first | exact nA hn250_3 | exact hn250_3) (.int .i32 ((rd_T41 l1 x10_1).f1.f1))).trans hx250_7
         replace hx250_8 := (cF (p := ⟨b248, 3, none⟩) (by first | exact nA hn250_3 | exact hn250_3) (.int .i32 ((rd_T41 l1 x10_1).f1.f1))).trans hx250_8
         replace hx250_9 := (cF (p := ⟨b248, 3, none⟩) (by first | exact nA hn250_3 | exact hn250_3) (.int .i32 ((rd_T41 l1 x10_1).f1.f1))).trans hx250_9
         replace hx250_0 := (cF (p := ⟨b248, 4, none⟩) (by first | exact nA hn250_4 | exact hn250_4) (.int .i32 ((rd_T41 l1 x10_1).f2))).trans hx250_0
         replace hx250_1 := (cF (p := ⟨b248, 4, none⟩) (by first | exact nA hn250_4 | exact hn250_4) (.int .i32 ((rd_T41 l1 x10_1).f2))).trans hx250_1
         replace hx250_2 := (cF (p := ⟨b248, 4, none⟩) (by first | exact nA hn250_4 | exact hn250_4) (.int .i32 ((rd_T41 l1 x10_1).f2))).trans hx250_2
         replace hx250_3 := (cF (p := ⟨b248, 4, none⟩) (by first | exact nA hn250_4 | exact hn250_4) (.int .i32 ((rd_T41 l1 x10_1).f2))).trans hx250_3
         replace hx250_4 := (cF (p := ⟨b248, 4, none⟩) (by first | exact nA hn250_4 | exact hn250_4) (.int .i32 ((rd_T41 l1 x10_1).f2))).trans hx250_4
         replace hx250_5 := (cF (p := ⟨b248, 4, none⟩) (by first | exact nA hn250_4 | exact hn250_4) (.int .i32 ((rd_T41 l1 x10_1).f2))).trans hx250_5
         replace hx250_6 := (cF (p := ⟨b248, 4, none⟩) (by first | exact nA hn250_4 | exact hn250_4) (.int .i32 ((rd_T41 l1 x10_1).f2))).trans hx250_6
         replace hx250_7 := (cF (p := ⟨b248, 4, none⟩) (by first | exact nA hn250_4 | exact hn250_4) (.int .i32 ((rd_T41 l1 x10_1).f2))).trans hx250_7
         replace hx250_8 := (cF (p := ⟨b248, 4, none⟩) (by first | exact nA hn250_4 | exact hn250_4) (.int .i32 ((rd_T41 l1 x10_1).f2))).trans hx250_8
         replace hx250_9 := (cF (p := ⟨b248, 4, none⟩) (by first | exact nA hn250_4 | exact hn250_4) (.int .i32 ((rd_T41 l1 x10_1).f2))).trans hx250_9
         clear hn250_0
         clear hn250_1
         clear hn250_2
         clear hn250_3
         clear hn250_4
         replace p250 := eq_true p250
         replace q250 := eq_true q250
         go_wp2
         repeat (go_quiet (fail); try go_wp2)
         go_meet
         case rel => exact ⟨_, ((((rd_T41 l1 x10_1).f0.f1) != ((rd_T44 l0 a2).f0))), (by first | rfl | (simp; done) | (simp [*]; done)), H', ⟨by have := HK1.out; first | omega | exact Nat.le_refl _⟩, ⟨by (with_reducible repeat first | apply bN | apply bD | apply bA); refine bP (cs := #[.int .u32 ((rd_T41 l1 x10_1).f0.f0), .int .u32 ((rd_T41 l1 x10_1).f0.f1), .int .i32 ((rd_T41 l1 x10_1).f1.f0), .int .i32 ((rd_T41 l1 x10_1).f1.f1), .int .i32 0]) ?_ 4 _ rfl; (with_reducible repeat first | apply bN | apply bD | apply bA); refine bP (cs := #[.int .u32 ((rd_T41 l1 x10_1).f0.f0), .int .u32 ((rd_T41 l1 x10_1).f0.f1), .int .i32 ((rd_T41 l1 x10_1).f1.f0), .int .i32 0, .int .i32 0]) ?_ 3 _ rfl; (with_reducible repeat first | apply bN | apply bD | apply bA); refine bP (cs := #[.int .u32 ((rd_T41 l1 x10_1).f0.f0), .int .u32 ((rd_T41 l1 x10_1).f0.f1), .int .i32 0, .int .i32 0, .int .i32 0]) ?_ 2 _ rfl; (with_reducible repeat first | apply bN | apply bD | apply bA); refine bP (cs := #[.int .u32 ((rd_T41 l1 x10_1).f0.f0), .int .u32 0, .int .i32 0, .int .i32 0, .int .i32 0]) ?_ 1 _ rfl; (with_reducible repeat first | apply bN | apply bD | apply bA); refine bP (cs := #[.int .u32 0, .int .u32 0, .int .i32 0, .int .i32 0, .int .i32 0]) ?_ 0 _ rfl; (with_reducible repeat first | apply bN | apply bD | apply bA); exact BK248.out⟩, ⟨by repeat (first | (with_reducible first | exact HB.out | apply lA | apply lN | apply lD | refine lS ?_ GE248.out) | exact HB.out)⟩⟩
       ·rw [if_neg c11] at H
        exact absurd H (by simp)
      ·rw [if_neg c10] at H
       exact absurd H (by simp)
     case rest =>
      clear HC7
      try clear c1
      try clear c2
      try clear p2
      try clear q2
      try clear hx2
      try clear c5
      try clear c5b0
      try clear c6
      try clear c6b0
      try clear c10
      try clear c10b0
      try clear c11
      try clear c11b0
      try clear c12
      try clear c12b0
      try clear c12b1
      try clear hcz13_0
      try clear hcz13_1
      try clear hcz13_2
      try clear hcz13_3
      try clear hcz13_4
      try clear hcz14_0
      try clear hcz14_1
      try clear hcz14_2
      try clear hcz14_3
      try clear hcz14_4
      try clear hcz9_0
      try clear hcz9_1
      try clear hcz9_2
      try clear hcz9_3
      try clear hcz9_4
      try clear hfz13_0
      try clear hfz13_1
      try clear hfz13_2
      try clear hfz13_3
      try clear hfz13_4
      try clear hfz14_0
      try clear hfz14_1
      try clear hfz14_2
      try clear hfz14_3
      try clear hfz14_4
      try clear hfz9_0
      try clear hfz9_1
      try clear hfz9_2
      try clear hfz9_3
      try clear hfz9_4
      try clear hx247_0
      try clear hx247_1
      try clear hx247_2
      try clear hx247_3
      try clear hx247_4
      try clear hx249_0
      try clear hx249_1
      try clear hx249_2
      try clear hx249_3
      try clear hx249_4
      try clear hx249_5
      try clear hx249_6
      try clear hx249_7
      try clear hx249_8
      try clear hx249_9
      try clear hx250_0
      try clear hx250_1
      try clear hx250_2
      try clear hx250_3
      try clear hx250_4
      try clear hx250_5
      try clear hx250_6
      try clear hx250_7
      try clear hx250_8
      try clear hx250_9
      try clear p2
      try clear p247
      try clear p249
      try clear p250
      try clear q247
      try clear q249
      try clear q250
      obtain ⟨kq, x46_6, rfl, HA, HJ6, BK248, HB⟩ := hcut
      cases kq with
      | zero => exact absurd HA.out (by simp [billiardref17_sum.j1])
      | succ kj6 =>
       have H := HA.out
       clear HA
       simp only [billiardref17_sum.j1] at H
       by_cases c15 : x46_6 = true
       ·subst c15
        rw [if_pos rfl] at H
        have H' := aM H
        clear H
        go_wp2
        repeat (go_quiet (fail); try go_wp2)
        go_roundg kj6
        case measure => have := HK1.out; have := HJ6.out; omega
        case rel => exact ⟨(x9_1), (wrap64 (x10_1 + 1)), (by first | rfl | (simp; done) | (simp [*]; done)), (by first | rfl | (simp; done) | (simp [*]; done)), H', ⟨by have := HK1.out; have := HJ6.out; omega⟩, ⟨by repeat (first | (with_reducible first | exact HB.out | apply lA | apply lN | apply lD | refine lS ?_ GE248.out) | exact HB.out)⟩⟩
       ·replace c15 := Bool.eq_false_iff.mpr c15
        subst c15
        rw [if_neg (show ¬ (false = true) by decide)] at H
        replace H := Option.bind_eq_some_iff.mp H
        obtain ⟨t251, A160, H⟩ := H
        try dsimp only at H
        have A16 := aM A160
        clear A160
        by_cases c17 : 0 ≤ t251
        ·rw [if_pos c17] at H
         have c17b0 : decide (0 ≤ t251) = true := decide_eq_true c17
         clear c17
         by_cases c18 : t251 < (l0.length : Int)
         ·rw [if_pos c18] at H
          have c18b0 : decide (t251 < (l0.length : Int)) = true := decide_eq_true c18
          clear c18
          replace H := Option.bind_eq_some_iff.mp H
          obtain ⟨t254, A190, H⟩ := H
          try dsimp only at H
          have A19 := aM A190
          clear A190
          by_cases c20 : 0 ≤ t254
          ·rw [if_pos c20] at H
           have c20b0 : decide (0 ≤ t254) = true := decide_eq_true c20
           clear c20
           by_cases c21 : t254 < (l0.length : Int)
           ·rw [if_pos c21] at H
            have c21b0 : decide (t254 < (l0.length : Int)) = true := decide_eq_true c21
            clear c21
            replace H := Option.bind_eq_some_iff.mp H
            obtain ⟨t257, A220, H⟩ := H
            try dsimp only at H
            have A22 := aM A220
            clear A220
            have HC23 := aM H
            clear H
            obtain ⟨hcz24_0, hcz24_1, hcz24_2, hcz24_3, hcz24_4, hfz24_0, hfz24_1, hfz24_2, hfz24_3, hfz24_4⟩ := kD5 BK248.out
            go_upto_if 70 with (first | (go_at_call 20; (with_reducible refine (billiardref06_Find.calls kj6 _ _ l0 ((rd_T41 l1 x10_1).f0.f0) t251 _ ?side1 ?side2 A16.out).mono ?_); (case side1 => repeat (first | exact (Kd.C_below HR0.out HB.out) | (with_reducible refine Kd.C_alloc ?_ _) | (with_reducible refine Kd.C_drewN ?_ _) | (with_reducible refine Kd.C_drew ?_))); (case side2 => exact HC0.out); rintro e w' ⟨rfl, ⟨nd, rfl⟩⟩; (try first | exact ⟨rfl, _, World.drewN_drewN _ _ _⟩ | exact ⟨rfl, _, Eq.trans (World.drewN_drewN _ _ _) (congrArg (World.drewN _) (Nat.add_assoc _ _ _))⟩); have p252 : 0 ≤ (t251 : Int) := of_decide_eq_true (by first | (with_reducible assumption) | assumption); have q252 : t251 < (l0.length : Int) := of_decide_eq_true (by first | (with_reducible assumption) | assumption); obtain ⟨ad252, e252, hx252_0, hx252_1, hx252_2, hx252_3, hx252_4, hx252_5, hx252_6, hx252_7, hx252_8, hx252_9⟩ := at_T44 HR0.out t251 p252 q252; cases e252; replace hx252_0 := (HB.out.cell (World.block_lt_of_cell? w _ hx252_0)).trans hx252_0; replace hx252_1 := (HB.out.cell (World.block_lt_of_cell? w _ hx252_1)).trans hx252_1; replace hx252_2 := (HB.out.cell (World.block_lt_of_cell? w _ hx252_2)).trans hx252_2; replace hx252_3 := (HB.out.cell (World.block_lt_of_cell? w _ hx252_3)).trans hx252_3; replace hx252_4 := (HB.out.cell (World.block_lt_of_cell? w _ hx252_4)).trans hx252_4; replace hx252_5 := (HB.out.cell (World.block_lt_of_cell? w _ hx252_5)).trans hx252_5; replace hx252_6 := (HB.out.cell (World.block_lt_of_cell? w _ hx252_6)).trans hx252_6; replace hx252_7 := (HB.out.cell (World.block_lt_of_cell? w _ hx252_7)).trans hx252_7; replace hx252_8 := (HB.out.cell (World.block_lt_of_cell? w _ hx252_8)).trans hx252_8; replace hx252_9 := (HB.out.cell (World.block_lt_of_cell? w _ hx252_9)).trans hx252_9; replace p252 := eq_true p252; replace q252 := eq_true q252) | ((with_reducible refine gate_dst (N := 12) rfl ?_); refine box_event ?hg (N := 12) ?hd (cs := #[.int .u32 0, .int .i32 0, .int .i32 0, .int .i32 0, .int .i32 0, .int .i32 0, .int .i32 0, .int .i32 0, .int .i32 0, .int .i32 0]) (t := 44) ?hr ?_; (case hd => rfl); (case hg => rfl); (case hr => first | (go_simp; done) | (go_simp; rfl)); intro b253 hg w25 hbox hb; have n0_ := aM (bB (by (with_reducible repeat first | apply bN | apply bD | apply bA); exact BK248.out) hb); have n1_ := aM (lT (by repeat (first | (with_reducible first | exact HB.out | apply lA | apply lN | apply lD | refine lS ?_ GE248.out) | exact HB.out)) hb); have n2_ := aM (hbox); have n3_ := aM ((by rw [hg]; exact (lZ (by repeat (first | (with_reducible first | exact HB.out | apply lA | apply lN | apply lD | refine lS ?_ GE248.out) | exact HB.out))) : w.heap.size ≤ b253)); have n4_ := aM ((by rw [hg]; exact (lZ (by repeat (first | (with_reducible first | exact HB.out | apply lA | apply lN | apply lD | refine lS ?_ GE248.out) | exact HB.out))) : w.heap.size ≤ b253)); have n5_ := aM ((by rw [hg]; exact Nat.ne_of_lt (bL (g := b248) (by (with_reducible repeat first | apply bN | apply bD | apply bA); exact BK248.out)) : b248 ≠ b253)); have n6_ := aM ((by rw [hg]; exact Nat.ne_of_gt (bL (g := b248) (by (with_reducible repeat first | apply bN | apply bD | apply bA); exact BK248.out)) : b253 ≠ b248)); clear BK248; clear HB; have BK248 := n0_; have HB := n1_; have BK253 := n2_; have GW253 := n3_; have GE253 := n4_; have N0_ := n5_; have N1_ := n6_; clear n0_ n1_ n2_ n3_ n4_ n5_ n6_; clear hb hbox hg; have hnb26 := N1_.out; have hnc26 := N0_.out; obtain ⟨hcz27_0, hcz27_1, hcz27_2, hcz27_3, hcz27_4, hcz27_5, hcz27_6, hcz27_7, hcz27_8, hcz27_9, hfz27_0, hfz27_1, hfz27_2, hfz27_3, hfz27_4, hfz27_5, hfz27_6, hfz27_7, hfz27_8, hfz27_9⟩ := kD10 BK253.out; obtain ⟨hcz28_0, hcz28_1, hcz28_2, hcz28_3, hcz28_4, hfz28_0, hfz28_1, hfz28_2, hfz28_3, hfz28_4⟩ := kD5 BK248.out) | (go_at_call 20; (with_reducible refine (billiardref06_Find.calls kj6 _ _ l0 ((rd_T41 l1 x10_1).f0.f1) t254 _ ?side1 ?side2 A19.out).mono ?_); (case side1 => exact Kd.C_below HR0.out (by repeat (first | (with_reducible first | exact HB.out | apply lA | apply lN | apply lD | refine lS ?_ GE248.out | refine lS ?_ GE253.out) | exact HB.out))); (case side2 => exact HC0.out); rintro e w' ⟨rfl, ⟨nd, rfl⟩⟩; (try first | exact ⟨rfl, _, World.drewN_drewN _ _ _⟩ | exact ⟨rfl, _, Eq.trans (World.drewN_drewN _ _ _) (congrArg (World.drewN _) (Nat.add_assoc _ _ _))⟩); have p255 : 0 ≤ (t254 : Int) := of_decide_eq_true (by first | (with_reducible assumption) | assumption); have q255 : t254 < (l0.length : Int) := of_decide_eq_true (by first | (with_reducible assumption) | assumption); obtain ⟨ad255, e255, hx255_0, hx255_1, hx255_2, hx255_3, hx255_4, hx255_5, hx255_6, hx255_7, hx255_8, hx255_9⟩ := at_T44 HR0.out t254 p255 q255; obtain rfl : ad252 = ad255 := (by injection e255); have hn255_0 : ad252.block ≠ b253 := Nat.ne_of_lt (Nat.lt_of_lt_of_le (by have := World.block_lt_of_cell? _ _ hx255_0; first | rwa [add_block] at this | exact this) GW253.out); have hn255_1 := hn255_0; have hn255_2 := hn255_0; have hn255_3 := hn255_0; have hn255_4 := hn255_0; have hn255_5 := hn255_0; have hn255_6 := hn255_0; have hn255_7 := hn255_0; have hn255_8 := hn255_0; have hn255_9 := hn255_0; replace hx255_0 := (HB.out.cell (World.block_lt_of_cell? w _ hx255_0)).trans hx255_0; replace hx255_1 := (HB.out.cell (World.block_lt_of_cell? w _ hx255_1)).trans hx255_1; replace hx255_2 := (HB.out.cell (World.block_lt_of_cell? w _ hx255_2)).trans hx255_2; replace hx255_3 := (HB.out.cell (World.block_lt_of_cell? w _ hx255_3)).trans hx255_3; replace hx255_4 := (HB.out.cell (World.block_lt_of_cell? w _ hx255_4)).trans hx255_4; replace hx255_5 := (HB.out.cell (World.block_lt_of_cell? w _ hx255_5)).trans hx255_5; replace hx255_6 := (HB.out.cell (World.block_lt_of_cell? w _ hx255_6)).trans hx255_6; replace hx255_7 := (HB.out.cell (World.block_lt_of_cell? w _ hx255_7)).trans hx255_7; replace hx255_8 := (HB.out.cell (World.block_lt_of_cell? w _ hx255_8)).trans hx255_8; replace hx255_9 := (HB.out.cell (World.block_lt_of_cell? w _ hx255_9)).trans hx255_9; replace hx255_0 := (cF (p := ⟨b253, 0, none⟩) (by first | exact nA hn255_0 | exact hn255_0) (.int .u32 ((rd_T44 l0 t251).f0))).trans hx255_0; replace hx255_1 := (cF (p := ⟨b253, 0, none⟩) (by first | exact nA hn255_0 | exact hn255_0) (.int .u32 ((rd_T44 l0 t251).f0))).trans hx255_1; replace hx255_2 := (cF (p := ⟨b253, 0, none⟩) (by first | exact nA hn255_0 | exact hn255_0) (.int .u32 ((rd_T44 l0 t251).f0))).trans hx255_2; replace hx255_3 := (cF (p := ⟨b253, 0, none⟩) (by first | exact nA hn255_0 | exact hn255_0) (.int .u32 ((rd_T44 l0 t251).f0))).trans hx255_3; replace hx255_4 := (cF (p := ⟨b253, 0, none⟩) (by first | exact nA hn255_0 | exact hn255_0) (.int .u32 ((rd_T44 l0 t251).f0))).trans hx255_4; replace hx255_5 := (cF (p := ⟨b253, 0, none⟩) (by first | exact nA hn255_0 | exact hn255_0) (.int .u32 ((rd_T44 l0 t251).f0))).trans hx255_5; replace hx255_6 := (cF (p := ⟨b253, 0, none⟩) (by first | exact nA hn255_0 | exact hn255_0) (.int .u32 ((rd_T44 l0 t251).f0))).trans hx255_6; replace hx255_7 := (cF (p := ⟨b253, 0, none⟩) (by first | exact nA hn255_0 | exact hn255_0) (.int .u32 ((rd_T44 l0 t251).f0))).trans hx255_7; replace hx255_8 := (cF (p := ⟨b253, 0, none⟩) (by first | exact nA hn255_0 | exact hn255_0) (.int .u32 ((rd_T44 l0 t251).f0))).trans hx255_8; replace hx255_9 := (cF (p := ⟨b253, 0, none⟩) (by first | exact nA hn255_0 | exact hn255_0) (.int .u32 ((rd_T44 l0 t251).f0))).trans hx255_9; replace hx255_0 := (cF (p := ⟨b253, 1, none⟩) (by first | exact nA hn255_1 | exact hn255_1) (.int .i32 ((rd_T44 l0 t251).f1))).trans hx255_0; replace hx255_1 := (cF (p := ⟨b253, 1, none⟩) (by first | exact nA hn255_1 | exact hn255_1) (.int .i32 ((rd_T44 l0 t251).f1))).trans hx255_1; replace hx255_2 := (cF (p := ⟨b253, 1, none⟩) (by first | exact nA hn255_1 | exact hn255_1) (.int .i32 ((rd_T44 l0 t251).f1))).trans hx255_2; replace hx255_3 := (cF (p := ⟨b253, 1, none⟩) (by first | exact nA hn255_1 | exact hn255_1) (.int .i32 ((rd_T44 l0 t251).f1))).trans hx255_3; replace hx255_4 := (cF (p := ⟨b253, 1, none⟩) (by first | exact nA hn255_1 | exact hn255_1) (.int .i32 ((rd_T44 l0 t251).f1))).trans hx255_4; replace hx255_5 := (cF (p := ⟨b253, 1, none⟩) (by first | exact nA hn255_1 | exact hn255_1) (.int .i32 ((rd_T44 l0 t251).f1))).trans hx255_5; replace hx255_6 := (cF (p := ⟨b253, 1, none⟩) (by first | exact nA hn255_1 | exact hn255_1) (.int .i32 ((rd_T44 l0 t251).f1))).trans hx255_6; replace hx255_7 := (cF (p := ⟨b253, 1, none⟩) (by first | exact nA hn255_1 | exact hn255_1) (.int .i32 ((rd_T44 l0 t251).f1))).trans hx255_7; replace hx255_8 := (cF (p := ⟨b253, 1, none⟩) (by first | exact nA hn255_1 | exact hn255_1) (.int .i32 ((rd_T44 l0 t251).f1))).trans hx255_8; replace hx255_9 := (cF (p := ⟨b253, 1, none⟩) (by first | exact nA hn255_1 | exact hn255_1) (.int .i32 ((rd_T44 l0 t251).f1))).trans hx255_9; replace hx255_0 := (cF (p := ⟨b253, 2, none⟩) (by first | exact nA hn255_2 | exact hn255_2) (.int .i32 ((rd_T44 l0 t251).f2.f0))).trans hx255_0; replace hx255_1 := (cF (p := ⟨b253, 2, none⟩) (by first | exact nA hn255_2 | exact hn255_2) (.int .i32 ((rd_T44 l0 t251).f2.f0))).trans hx255_1; replace hx255_2 := (cF (p := ⟨b253, 2, none⟩) (by first | exact nA hn255_2 | exact hn255_2) (.int .i32 ((rd_T44 l0 t251).f2.f0))).trans hx255_2; replace hx255_3 := (cF (p := ⟨b253, 2, none⟩) (by first | exact nA hn255_2 | exact hn255_2) (.int .i32 ((rd_T44 l0 t251).f2.f0))).trans hx255_3; replace hx255_4 := (cF (p := ⟨b253, 2, none⟩) (by first | exact nA hn255_2 | exact hn255_2) (.int .i32 ((rd_T44 l0 t251).f2.f0))).trans hx255_4; replace hx255_5 := (cF (p := ⟨b253, 2, none⟩) (by first | exact nA hn255_2 | exact hn255_2) (.int .i32 ((rd_T44 l0 t251).f2.f0))).trans hx255_5; replace hx255_6 := (cF (p := ⟨b253, 2, none⟩) (by first | exact nA hn255_2 | exact hn255_2) (.int .i32 ((rd_T44 l0 t251).f2.f0))).trans hx255_6; replace hx255_7 := (cF (p := ⟨b253, 2, none⟩) (by first | exact nA hn255_2 | exact hn255_2) (.int .i32 ((rd_T44 l0 t251).f2.f0))).trans hx255_7; replace hx255_8 := (cF (p := ⟨b253, 2, none⟩) (by first | exact nA hn255_2 | exact hn255_2) (.int .i32 ((rd_T44 l0 t251).f2.f0))).trans hx255_8; replace hx255_9 := (cF (p := ⟨b253, 2, none⟩) (by first | exact nA hn255_2 | exact hn255_2) (.int .i32 ((rd_T44 l0 t251).f2.f0))).trans hx255_9; replace hx255_0 := (cF (p := ⟨b253, 3, none⟩) (by first | exact nA hn255_3 | exact hn255_3) (.int .i32 ((rd_T44 l0 t251).f2.f1))).trans hx255_0; replace hx255_1 := (cF (p := ⟨b253, 3, none⟩) (by first | exact nA hn255_3 | exact hn255_3) (.int .i32 ((rd_T44 l0 t251).f2.f1))).trans hx255_1; replace hx255_2 := (cF (p := ⟨b253, 3, none⟩) (by first | exact nA hn255_3 | exact hn255_3) (.int .i32 ((rd_T44 l0 t251).f2.f1))).trans hx255_2; replace hx255_3 := (cF (p := ⟨b253, 3, none⟩) (by first | exact nA hn255_3 | exact hn255_3) (.int .i32 ((rd_T44 l0 t251).f2.f1))).trans hx255_3; replace hx255_4 := (cF (p := ⟨b253, 3, none⟩) (by first | exact nA hn255_3 | exact hn255_3) (.int .i32 ((rd_T44 l0 t251).f2.f1))).trans hx255_4; replace hx255_5 := (cF (p := ⟨b253, 3, none⟩) (by first | exact nA hn255_3 | exact hn255_3) (.int .i32 ((rd_T44 l0 t251).f2.f1))).trans hx255_5; replace hx255_6 := (cF (p := ⟨b253, 3, none⟩) (by first | exact nA hn255_3 | exact hn255_3) (.int .i32 ((rd_T44 l0 t251).f2.f1))).trans hx255_6; replace hx255_7 := (cF (p := ⟨b253, 3, none⟩) (by first | exact nA hn255_3 | exact hn255_3) (.int .i32 ((rd_T44 l0 t251).f2.f1))).trans hx255_7; replace hx255_8 := (cF (p := ⟨b253, 3, none⟩) (by first | exact nA hn255_3 | exact hn255_3) (.int .i32 ((rd_T44 l0 t251).f2.f1))).trans hx255_8; replace hx255_9 := (cF (p := ⟨b253, 3, none⟩) (by first | exact nA hn255_3 | exact hn255_3) (.int .i32 ((rd_T44 l0 t251).f2.f1))).trans hx255_9; replace hx255_0 := (cF (p := ⟨b253, 4, none⟩) (by first | exact nA hn255_4 | exact hn255_4) (.int .i32 ((rd_T44 l0 t251).f3))).trans hx255_0; replace hx255_1 := (cF (p := ⟨b253, 4, none⟩) (by first | exact nA hn255_4 | exact hn255_4) (.int .i32 ((rd_T44 l0 t251).f3))).trans hx255_1; replace hx255_2 := (cF (p := ⟨b253, 4, none⟩) (by first | exact nA hn255_4 | exact hn255_4) (.int .i32 ((rd_T44 l0 t251).f3))).trans hx255_2; replace hx255_3 := (cF (p := ⟨b253, 4, none⟩) (by first | exact nA hn255_4 | exact hn255_4) (.int .i32 ((rd_T44 l0 t251).f3))).trans hx255_3; replace hx255_4 := (cF (p := ⟨b253, 4, none⟩) (by first | exact nA hn255_4 | exact hn255_4) (.int .i32 ((rd_T44 l0 t251).f3))).trans hx255_4; replace hx255_5 := (cF (p := ⟨b253, 4, none⟩) (by first | exact nA hn255_4 | exact hn255_4) (.int .i32 ((rd_T44 l0 t251).f3))).trans hx255_5; replace hx255_6 := (cF (p := ⟨b253, 4, none⟩) (by first | exact nA hn255_4 | exact hn255_4) (.int .i32 ((rd_T44 l0 t251).f3))).trans hx255_6; replace hx255_7 := (cF (p := ⟨b253, 4, none⟩) (by first | exact nA hn255_4 | exact hn255_4) (.int .i32 ((rd_T44 l0 t251).f3))).trans hx255_7; replace hx255_8 := (cF (p := ⟨b253, 4, none⟩) (by first | exact nA hn255_4 | exact hn255_4) (.int .i32 ((rd_T44 l0 t251).f3))).trans hx255_8; replace hx255_9 := (cF (p := ⟨b253, 4, none⟩) (by first | exact nA hn255_4 | exact hn255_4) (.int .i32 ((rd_T44 l0 t251).f3))).trans hx255_9; replace hx255_0 := (cF (p := ⟨b253, 5, none⟩) (by first | exact nA hn255_5 | exact hn255_5) (.int .i32 ((rd_T44 l0 t251).f4))).trans hx255_0; replace hx255_1 := (cF (p := ⟨b253, 5, none⟩) (by first | exact nA hn255_5 | exact hn255_5) (.int .i32 ((rd_T44 l0 t251).f4))).trans hx255_1; replace hx255_2 := (cF (p := ⟨b253, 5, none⟩) (by first | exact nA hn255_5 | exact hn255_5) (.int .i32 ((rd_T44 l0 t251).f4))).trans hx255_2; replace hx255_3 := (cF (p := ⟨b253, 5, none⟩) (by first | exact nA hn255_5 | exact hn255_5) (.int .i32 ((rd_T44 l0 t251).f4))).trans hx255_3; replace hx255_4 := (cF (p := ⟨b253, 5, none⟩) (by first | exact nA hn255_5 | exact hn255_5) (.int .i32 ((rd_T44 l0 t251).f4))).trans hx255_4; replace hx255_5 := (cF (p := ⟨b253, 5, none⟩) (by first | exact nA hn255_5 | exact hn255_5) (.int .i32 ((rd_T44 l0 t251).f4))).trans hx255_5; replace hx255_6 := (cF (p := ⟨b253, 5, none⟩) (by first | exact nA hn255_5 | exact hn255_5) (.int .i32 ((rd_T44 l0 t251).f4))).trans hx255_6; replace hx255_7 := (cF (p := ⟨b253, 5, none⟩) (by first | exact nA hn255_5 | exact hn255_5) (.int .i32 ((rd_T44 l0 t251).f4))).trans hx255_7; replace hx255_8 := (cF (p := ⟨b253, 5, none⟩) (by first | exact nA hn255_5 | exact hn255_5) (.int .i32 ((rd_T44 l0 t251).f4))).trans hx255_8; replace hx255_9 := (cF (p := ⟨b253, 5, none⟩) (by first | exact nA hn255_5 | exact hn255_5) (.int .i32 ((rd_T44 l0 t251).f4))).trans hx255_9; replace hx255_0 := (cF (p := ⟨b253, 6, none⟩) (by first | exact nA hn255_6 | exact hn255_6) (.int .i32 ((rd_T44 l0 t251).f5.f0))).trans hx255_0; replace hx255_1 := (cF (p := ⟨b253, 6, none⟩) (by first | exact nA hn255_6 | exact hn255_6) (.int .i32 ((rd_T44 l0 t251).f5.f0))).trans hx255_1; replace hx255_2 := (cF (p := ⟨b253, 6, none⟩) (by first | exact nA hn255_6 | exact hn255_6) (.int .i32 ((rd_T44 l0 t251).f5.f0))).trans hx255_2; replace hx255_3 := (cF (p := ⟨b253, 6, none⟩) (by first | exact nA hn255_6 | exact hn255_6) (.int .i32 ((rd_T44 l0 t251).f5.f0))).trans hx255_3; replace hx255_4 := (cF (p := ⟨b253, 6, none⟩) (by first | exact nA hn255_6 | exact hn255_6) (.int .i32 ((rd_T44 l0 t251).f5.f0))).trans hx255_4; replace hx255_5 := (cF (p := ⟨b253, 6, none⟩) (by first | exact nA hn255_6 | exact hn255_6) (.int .i32 ((rd_T44 l0 t251).f5.f0))).trans hx255_5; replace hx255_6 := (cF (p := ⟨b253, 6, none⟩) (by first | exact nA hn255_6 | exact hn255_6) (.int .i32 ((rd_T44 l0 t251).f5.f0))).trans hx255_6; replace hx255_7 := (cF (p := ⟨b253, 6, none⟩) (by first | exact nA hn255_6 | exact hn255_6) (.int .i32 ((rd_T44 l0 t251).f5.f0))).trans hx255_7; replace hx255_8 := (cF (p := ⟨b253, 6, none⟩) (by first | exact nA hn255_6 | exact hn255_6) (.int .i32 ((rd_T44 l0 t251).f5.f0))).trans hx255_8; replace hx255_9 := (cF (p := ⟨b253, 6, none⟩) (by first | exact nA hn255_6 | exact hn255_6) (.int .i32 ((rd_T44 l0 t251).f5.f0))).trans hx255_9; replace hx255_0 := (cF (p := ⟨b253, 7, none⟩) (by first | exact nA hn255_7 | exact hn255_7) (.int .i32 ((rd_T44 l0 t251).f5.f1))).trans hx255_0; replace hx255_1 := (cF (p := ⟨b253, 7, none⟩) (by first | exact nA hn255_7 | exact hn255_7) (.int .i32 ((rd_T44 l0 t251).f5.f1))).trans hx255_1; replace hx255_2 := (cF (p := ⟨b253, 7, none⟩) (by first | exact nA hn255_7 | exact hn255_7) (.int .i32 ((rd_T44 l0 t251).f5.f1))).trans hx255_2; replace hx255_3 := (cF (p := ⟨b253, 7, none⟩) (by first | exact nA hn255_7 | exact hn255_7) (.int .i32 ((rd_T44 l0 t251).f5.f1))).trans hx255_3; replace hx255_4 := (cF (p := ⟨b253, 7, none⟩) (by first | exact nA hn255_7 | exact hn255_7) (.int .i32 ((rd_T44 l0 t251).f5.f1))).trans hx255_4; replace hx255_5 := (cF (p := ⟨b253, 7, none⟩) (by first | exact nA hn255_7 | exact hn255_7) (.int .i32 ((rd_T44 l0 t251).f5.f1))).trans hx255_5; replace hx255_6 := (cF (p := ⟨b253, 7, none⟩) (by first | exact nA hn255_7 | exact hn255_7) (.int .i32 ((rd_T44 l0 t251).f5.f1))).trans hx255_6; replace hx255_7 := (cF (p := ⟨b253, 7, none⟩) (by first | exact nA hn255_7 | exact hn255_7) (.int .i32 ((rd_T44 l0 t251).f5.f1))).trans hx255_7; replace hx255_8 := (cF (p := ⟨b253, 7, none⟩) (by first | exact nA hn255_7 | exact hn255_7) (.int .i32 ((rd_T44 l0 t251).f5.f1))).trans hx255_8; replace hx255_9 := (cF (p := ⟨b253, 7, none⟩) (by first | exact nA hn255_7 | exact hn255_7) (.int .i32 ((rd_T44 l0 t251).f5.f1))).trans hx255_9; replace hx255_0 := (cF (p := ⟨b253, 8, none⟩) (by first | exact nA hn255_8 | exact hn255_8) (.int .i32 ((rd_T44 l0 t251).f6.f0))).trans hx255_0; replace hx255_1 := (cF (p := ⟨b253, 8, none⟩) (by first | exact nA hn255_8 | exact hn255_8) (.int .i32 ((rd_T44 l0 t251).f6.f0))).trans hx255_1; replace hx255_2 := (cF (p := ⟨b253, 8, none⟩) (by first | exact nA hn255_8 | exact hn255_8) (.int .i32 ((rd_T44 l0 t251).f6.f0))).trans hx255_2; replace hx255_3 := (cF (p := ⟨b253, 8, none⟩) (by first | exact nA hn255_8 | exact hn255_8) (.int .i32 ((rd_T44 l0 t251).f6.f0))).trans hx255_3; replace hx255_4 := (cF (p := ⟨b253, 8, none⟩) (by first | exact nA hn255_8 | exact hn255_8) (.int .i32 ((rd_T44 l0 t251).f6.f0))).trans hx255_4; replace hx255_5 := (cF (p := ⟨b253, 8, none⟩) (by first | exact nA hn255_8 | exact hn255_8) (.int .i32 ((rd_T44 l0 t251).f6.f0))).trans hx255_5; replace hx255_6 := (cF (p := ⟨b253, 8, none⟩) (by first | exact nA hn255_8 | exact hn255_8) (.int .i32 ((rd_T44 l0 t251).f6.f0))).trans hx255_6; replace hx255_7 := (cF (p := ⟨b253, 8, none⟩) (by first | exact nA hn255_8 | exact hn255_8) (.int .i32 ((rd_T44 l0 t251).f6.f0))).trans hx255_7; replace hx255_8 := (cF (p := ⟨b253, 8, none⟩) (by first | exact nA hn255_8 | exact hn255_8) (.int .i32 ((rd_T44 l0 t251).f6.f0))).trans hx255_8; replace hx255_9 := (cF (p := ⟨b253, 8, none⟩) (by first | exact nA hn255_8 | exact hn255_8) (.int .i32 ((rd_T44 l0 t251).f6.f0))).trans hx255_9; replace hx255_0 := (cF (p := ⟨b253, 9, none⟩) (by first | exact nA hn255_9 | exact hn255_9) (.int .i32 ((rd_T44 l0 t251).f6.f1))).trans hx255_0; replace hx255_1 := (cF (p := ⟨b253, 9, none⟩) (by first | exact nA hn255_9 | exact hn255_9) (.int .i32 ((rd_T44 l0 t251).f6.f1))).trans hx255_1; replace hx255_2 := (cF (p := ⟨b253, 9, none⟩) (by first | exact nA hn255_9 | exact hn255_9) (.int .i32 ((rd_T44 l0 t251).f6.f1))).trans hx255_2; replace hx255_3 := (cF (p := ⟨b253, 9, none⟩) (by first | exact nA hn255_9 | exact hn255_9) (.int .i32 ((rd_T44 l0 t251).f6.f1))).trans hx255_3; replace hx255_4 := (cF (p := ⟨b253, 9, none⟩) (by first | exact nA hn255_9 | exact hn255_9) (.int .i32 ((rd_T44 l0 t251).f6.f1))).trans hx255_4; replace hx255_5 := (cF (p := ⟨b253, 9, none⟩) (by first | exact nA hn255_9 | exact hn255_9) (.int .i32 ((rd_T44 l0 t251).f6.f1))).trans hx255_5; replace hx255_6 := (cF (p := ⟨b253, 9, none⟩) (by first | exact nA hn255_9 | exact hn255_9) (.int .i32 ((rd_T44 l0 t251).f6.f1))).trans hx255_6; replace hx255_7 := (cF (p := ⟨b253, 9, none⟩) (by first | exact nA hn255_9 | exact hn255_9) (.int .i32 ((rd_T44 l0 t251).f6.f1))).trans hx255_7; replace hx255_8 := (cF (p := ⟨b253, 9, none⟩) (by first | exact nA hn255_9 | exact hn255_9) (.int .i32 ((rd_T44 l0 t251).f6.f1))).trans hx255_8; replace hx255_9 := (cF (p := ⟨b253, 9, none⟩) (by first | exact nA hn255_9 | exact hn255_9) (.int .i32 ((rd_T44 l0 t251).f6.f1))).trans hx255_9; (try have hy255_0 := fun (n_ : Nat) => (show ((((((((((((w25.drewN n_).setCell ⟨b253, 0, none⟩ (.int .u32 ((rd_T44 l0 t251).f0))).setCell ⟨b253, 1, none⟩ (.int .i32 ((rd_T44 l0 t251).f1))).setCell ⟨b253, 2, none⟩ (.int .i32 ((rd_T44 l0 t251).f2.f0))).setCell ⟨b253, 3, none⟩ (.int .i32 ((rd_T44 l0 t251).f2.f1))).setCell ⟨b253, 4, none⟩ (.int .i32 ((rd_T44 l0 t251).f3))).setCell ⟨b253, 5, none⟩ (.int .i32 ((rd_T44 l0 t251).f4))).setCell ⟨b253, 6, none⟩ (.int .i32 ((rd_T44 l0 t251).f5.f0))).setCell ⟨b253, 7, none⟩ (.int .i32 ((rd_T44 l0 t251).f5.f1))).setCell ⟨b253, 8, none⟩ (.int .i32 ((rd_T44 l0 t251).f6.f0))).setCell ⟨b253, 9, none⟩ (.int .i32 ((rd_T44 l0 t251).f6.f1)))).cell? _ = some _ from (cellH (by (repeat with_reducible apply setH); exact rfl)).trans hx255_0)); (try have hy255_1 := fun (n_ : Nat) => (show ((((((((((((w25.drewN n_).setCell ⟨b253, 0, none⟩ (.int .u32 ((rd_T44 l0 t251).f0))).setCell ⟨b253, 1, none⟩ (.int .i32 ((rd_T44 l0 t251).f1))).setCell ⟨b253, 2, none⟩ (.int .i32 ((rd_T44 l0 t251).f2.f0))).setCell ⟨b253, 3, none⟩ (.int .i32 ((rd_T44 l0 t251).f2.f1))).setCell ⟨b253, 4, none⟩ (.int .i32 ((rd_T44 l0 t251).f3))).setCell ⟨b253, 5, none⟩ (.int .i32 ((rd_T44 l0 t251).f4))).setCell ⟨b253, 6, none⟩ (.int .i32 ((rd_T44 l0 t251).f5.f0))).setCell ⟨b253, 7, none⟩ (.int .i32 ((rd_T44 l0 t251).f5.f1))).setCell ⟨b253, 8, none⟩ (.int .i32 ((rd_T44 l0 t251).f6.f0))).setCell ⟨b253, 9, none⟩ (.int .i32 ((rd_T44 l0 t251).f6.f1)))).cell? _ = some _ from (cellH (by (repeat with_reducible apply setH); exact rfl)).trans hx255_1)); (try have hy255_2 := fun (n_ : Nat) => (show ((((((((((((w25.drewN n_).setCell ⟨b253, 0, none⟩ (.int .u32 ((rd_T44 l0 t251).f0))).setCell ⟨b253, 1, none⟩ (.int .i32 ((rd_T44 l0 t251).f1))).setCell ⟨b253, 2, none⟩ (.int .i32 ((rd_T44 l0 t251).f2.f0))).setCell ⟨b253, 3, none⟩ (.int .i32 ((rd_T44 l0 t251).f2.f1))).setCell ⟨b253, 4, none⟩ (.int .i32 ((rd_T44 l0 t251).f3))).setCell ⟨b253, 5, none⟩ (.int .i32 ((rd_T44 l0 t251).f4))).setCell ⟨b253, 6, none⟩ (.int .i32 ((rd_T44 l0 t251).f5.f0))).setCell ⟨b253, 7, none⟩ (.int .i32 ((rd_T44 l0 t251).f5.f1))).setCell ⟨b253, 8, none⟩ (.int .i32 ((rd_T44 l0 t251).f6.f0))).setCell ⟨b253, 9, none⟩ (.int .i32 ((rd_T44 l0 t251).f6.f1)))).cell? _ = some _ from (cellH (by (repeat with_reducible apply setH); exact rfl)).trans hx255_2)); (try have hy255_3 := fun (n_ : Nat) => (show ((((((((((((w25.drewN n_).setCell ⟨b253, 0, none⟩ (.int .u32 ((rd_T44 l0 t251).f0))).setCell ⟨b253, 1, none⟩ (.int .i32 ((rd_T44 l0 t251).f1))).setCell ⟨b253, 2, none⟩ (.int .i32 ((rd_T44 l0 t251).f2.f0))).setCell ⟨b253, 3, none⟩ (.int .i32 ((rd_T44 l0 t251).f2.f1))).setCell ⟨b253, 4, none⟩ (.int .i32 ((rd_T44 l0 t251).f3))).setCell ⟨b253, 5, none⟩ (.int .i32 ((rd_T44 l0 t251).f4))).setCell ⟨b253, 6, none⟩ (.int .i32 ((rd_T44 l0 t251).f5.f0))).setCell ⟨b253, 7, none⟩ (.int .i32 ((rd_T44 l0 t251).f5.f1))).setCell ⟨b253, 8, none⟩ (.int .i32 ((rd_T44 l0 t251).f6.f0))).setCell ⟨b253, 9, none⟩ (.int .i32 ((rd_T44 l0 t251).f6.f1)))).cell? _ = some _ from (cellH (by (repeat with_reducible apply setH); exact rfl)).trans hx255_3)); (try have hy255_4 := fun (n_ : Nat) => (show ((((((((((((w25.drewN n_).setCell ⟨b253, 0, none⟩ (.int .u32 ((rd_T44 l0 t251).f0))).setCell ⟨b253, 1, none⟩ (.int .i32 ((rd_T44 l0 t251).f1))).setCell ⟨b253, 2, none⟩ (.int .i32 ((rd_T44 l0 t251).f2.f0))).setCell ⟨b253, 3, none⟩ (.int .i32 ((rd_T44 l0 t251).f2.f1))).setCell ⟨b253, 4, none⟩ (.int .i32 ((rd_T44 l0 t251).f3))).setCell ⟨b253, 5, none⟩ (.int .i32 ((rd_T44 l0 t251).f4))).setCell ⟨b253, 6, none⟩ (.int .i32 ((rd_T44 l0 t251).f5.f0))).setCell ⟨b253, 7, none⟩ (.int .i32 ((rd_T44 l0 t251).f5.f1))).setCell ⟨b253, 8, none⟩ (.int .i32 ((rd_T44 l0 t251).f6.f0))).setCell ⟨b253, 9, none⟩ (.int .i32 ((rd_T44 l0 t251).f6.f1)))).cell? _ = some _ from (cellH (by (repeat with_reducible apply setH); exact rfl)).trans hx255_4)); (try have hy255_5 := fun (n_ : Nat) => (show ((((((((((((w25.drewN n_).setCell ⟨b253, 0, none⟩ (.int .u32 ((rd_T44 l0 t251).f0))).setCell ⟨b253, 1, none⟩ (.int .i32 ((rd_T44 l0 t251).f1))).setCell ⟨b253, 2, none⟩ (.int .i32 ((rd_T44 l0 t251).f2.f0))).setCell ⟨b253, 3, none⟩ (.int .i32 ((rd_T44 l0 t251).f2.f1))).setCell ⟨b253, 4, none⟩ (.int .i32 ((rd_T44 l0 t251).f3))).setCell ⟨b253, 5, none⟩ (.int .i32 ((rd_T44 l0 t251).f4))).setCell ⟨b253, 6, none⟩ (.int .i32 ((rd_T44 l0 t251).f5.f0))).setCell ⟨b253, 7, none⟩ (.int .i32 ((rd_T44 l0 t251).f5.f1))).setCell ⟨b253, 8, none⟩ (.int .i32 ((rd_T44 l0 t251).f6.f0))).setCell ⟨b253, 9, none⟩ (.int .i32 ((rd_T44 l0 t251).f6.f1)))).cell? _ = some _ from (cellH (by (repeat with_reducible apply setH); exact rfl)).trans hx255_5)); (try have hy255_6 := fun (n_ : Nat) => (show ((((((((((((w25.drewN n_).setCell ⟨b253, 0, none⟩ (.int .u32 ((rd_T44 l0 t251).f0))).setCell ⟨b253, 1, none⟩ (.int .i32 ((rd_T44 l0 t251).f1))).setCell ⟨b253, 2, none⟩ (.int .i32 ((rd_T44 l0 t251).f2.f0))).setCell ⟨b253, 3, none⟩ (.int .i32 ((rd_T44 l0 t251).f2.f1))).setCell ⟨b253, 4, none⟩ (.int .i32 ((rd_T44 l0 t251).f3))).setCell ⟨b253, 5, none⟩ (.int .i32 ((rd_T44 l0 t251).f4))).setCell ⟨b253, 6, none⟩ (.int .i32 ((rd_T44 l0 t251).f5.f0))).setCell ⟨b253, 7, none⟩ (.int .i32 ((rd_T44 l0 t251).f5.f1))).setCell ⟨b253, 8, none⟩ (.int .i32 ((rd_T44 l0 t251).f6.f0))).setCell ⟨b253, 9, none⟩ (.int .i32 ((rd_T44 l0 t251).f6.f1)))).cell? _ = some _ from (cellH (by (repeat with_reducible apply setH); exact rfl)).trans hx255_6)); (try have hy255_7 := fun (n_ : Nat) => (show ((((((((((((w25.drewN n_).setCell ⟨b253, 0, none⟩ (.int .u32 ((rd_T44 l0 t251).f0))).setCell ⟨b253, 1, none⟩ (.int .i32 ((rd_T44 l0 t251).f1))).setCell ⟨b253, 2, none⟩ (.int .i32 ((rd_T44 l0 t251).f2.f0))).setCell ⟨b253, 3, none⟩ (.int .i32 ((rd_T44 l0 t251).f2.f1))).setCell ⟨b253, 4, none⟩ (.int .i32 ((rd_T44 l0 t251).f3))).setCell ⟨b253, 5, none⟩ (.int .i32 ((rd_T44 l0 t251).f4))).setCell ⟨b253, 6, none⟩ (.int .i32 ((rd_T44 l0 t251).f5.f0))).setCell ⟨b253, 7, none⟩ (.int .i32 ((rd_T44 l0 t251).f5.f1))).setCell ⟨b253, 8, none⟩ (.int .i32 ((rd_T44 l0 t251).f6.f0))).setCell ⟨b253, 9, none⟩ (.int .i32 ((rd_T44 l0 t251).f6.f1)))).cell? _ = some _ from (cellH (by (repeat with_reducible apply setH); exact rfl)).trans hx255_7)); (try have hy255_8 := fun (n_ : Nat) => (show ((((((((((((w25.drewN n_).setCell ⟨b253, 0, none⟩ (.int .u32 ((rd_T44 l0 t251).f0))).setCell ⟨b253, 1, none⟩ (.int .i32 ((rd_T44 l0 t251).f1))).setCell ⟨b253, 2, none⟩ (.int .i32 ((rd_T44 l0 t251).f2.f0))).setCell ⟨b253, 3, none⟩ (.int .i32 ((rd_T44 l0 t251).f2.f1))).setCell ⟨b253, 4, none⟩ (.int .i32 ((rd_T44 l0 t251).f3))).setCell ⟨b253, 5, none⟩ (.int .i32 ((rd_T44 l0 t251).f4))).setCell ⟨b253, 6, none⟩ (.int .i32 ((rd_T44 l0 t251).f5.f0))).setCell ⟨b253, 7, none⟩ (.int .i32 ((rd_T44 l0 t251).f5.f1))).setCell ⟨b253, 8, none⟩ (.int .i32 ((rd_T44 l0 t251).f6.f0))).setCell ⟨b253, 9, none⟩ (.int .i32 ((rd_T44 l0 t251).f6.f1)))).cell? _ = some _ from (cellH (by (repeat with_reducible apply setH); exact rfl)).trans hx255_8)); (try have hy255_9 := fun (n_ : Nat) => (show ((((((((((((w25.drewN n_).setCell ⟨b253, 0, none⟩ (.int .u32 ((rd_T44 l0 t251).f0))).setCell ⟨b253, 1, none⟩ (.int .i32 ((rd_T44 l0 t251).f1))).setCell ⟨b253, 2, none⟩ (.int .i32 ((rd_T44 l0 t251).f2.f0))).setCell ⟨b253, 3, none⟩ (.int .i32 ((rd_T44 l0 t251).f2.f1))).setCell ⟨b253, 4, none⟩ (.int .i32 ((rd_T44 l0 t251).f3))).setCell ⟨b253, 5, none⟩ (.int .i32 ((rd_T44 l0 t251).f4))).setCell ⟨b253, 6, none⟩ (.int .i32 ((rd_T44 l0 t251).f5.f0))).setCell ⟨b253, 7, none⟩ (.int .i32 ((rd_T44 l0 t251).f5.f1))).setCell ⟨b253, 8, none⟩ (.int .i32 ((rd_T44 l0 t251).f6.f0))).setCell ⟨b253, 9, none⟩ (.int .i32 ((rd_T44 l0 t251).f6.f1)))).cell? _ = some _ from (cellH (by (repeat with_reducible apply setH); exact rfl)).trans hx255_9)); clear hn255_0; clear hn255_1; clear hn255_2; clear hn255_3; clear hn255_4; clear hn255_5; clear hn255_6; clear hn255_7; clear hn255_8; clear hn255_9; replace p255 := eq_true p255; replace q255 := eq_true q255) | ((with_reducible refine gate_dst (N := 13) rfl ?_); refine box_event ?hg (N := 13) ?hd (cs := #[.int .u32 0, .int .i32 0, .int .i32 0, .int .i32 0, .int .i32 0, .int .i32 0, .int .i32 0, .int .i32 0, .int .i32 0, .int .i32 0]) (t := 44) ?hr ?_; (case hd => rfl); (case hg => rfl); (case hr => first | (go_simp; done) | (go_simp; rfl)); intro b256 hg w29 hbox hb; have n0_ := aM (bB (g := b248) (o := .cells #[.int .u32 ((rd_T41 l1 x10_1).f0.f0), .int .u32 ((rd_T41 l1 x10_1).f0.f1), .int .i32 ((rd_T41 l1 x10_1).f1.f0), .int .i32 ((rd_T41 l1 x10_1).f1.f1), .int .i32 ((rd_T41 l1 x10_1).f2)] 41 (0, 0)) (by (with_reducible repeat first | apply bN | apply bD | apply bA); refine bR ?_ N0_.out _; (with_reducible repeat first | apply bN | apply bD | apply bA); refine bR ?_ N0_.out _; (with_reducible repeat first | apply bN | apply bD | apply bA); refine bR ?_ N0_.out _; (with_reducible repeat first | apply bN | apply bD | apply bA); refine bR ?_ N0_.out _; (with_reducible repeat first | apply bN | apply bD | apply bA); refine bR ?_ N0_.out _; (with_reducible repeat first | apply bN | apply bD | apply bA); refine bR ?_ N0_.out _; (with_reducible repeat first | apply bN | apply bD | apply bA); refine bR ?_ N0_.out _; (with_reducible repeat first | apply bN | apply bD | apply bA); refine bR ?_ N0_.out _; (with_reducible repeat first | apply bN | apply bD | apply bA); refine bR ?_ N0_.out _; (with_reducible repeat first | apply bN | apply bD | apply bA); refine bR ?_ N0_.out _; (with_reducible repeat first | apply bN | apply bD | apply bA); exact BK248.out) hb); have n1_ := aM (bB (g := b253) (o := .cells #[.int .u32 ((rd_T44 l0 t251).f0), .int .i32 ((rd_T44 l0 t251).f1), .int .i32 ((rd_T44 l0 t251).f2.f0), .int .i32 ((rd_T44 l0 t251).f2.f1), .int .i32 ((rd_T44 l0 t251).f3), .int .i32 ((rd_T44 l0 t251).f4), .int .i32 ((rd_T44 l0 t251).f5.f0), .int .i32 ((rd_T44 l0 t251).f5.f1), .int .i32 ((rd_T44 l0 t251).f6.f0), .int .i32 ((rd_T44 l0 t251).f6.f1)] 44 (0, 0)) (by (with_reducible repeat first | apply bN | apply bD | apply bA); refine bP (cs := #[.int .u32 ((rd_T44 l0 t251).f0), .int .i32 ((rd_T44 l0 t251).f1), .int .i32 ((rd_T44 l0 t251).f2.f0), .int .i32 ((rd_T44 l0 t251).f2.f1), .int .i32 ((rd_T44 l0 t251).f3), .int .i32 ((rd_T44 l0 t251).f4), .int .i32 ((rd_T44 l0 t251).f5.f0), .int .i32 ((rd_T44 l0 t251).f5.f1), .int .i32 ((rd_T44 l0 t251).f6.f0), .int .i32 0]) ?_ 9 _ rfl; (with_reducible repeat first | apply bN | apply bD | apply bA); refine bP (cs := #[.int .u32 ((rd_T44 l0 t251).f0), .int .i32 ((rd_T44 l0 t251).f1), .int .i32 ((rd_T44 l0 t251).f2.f0), .int .i32 ((rd_T44 l0 t251).f2.f1), .int .i32 ((rd_T44 l0 t251).f3), .int .i32 ((rd_T44 l0 t251).f4), .int .i32 ((rd_T44 l0 t251).f5.f0), .int .i32 ((rd_T44 l0 t251).f5.f1), .int .i32 0, .int .i32 0]) ?_ 8 _ rfl; (with_reducible repeat first | apply bN | apply bD | apply bA); refine bP (cs := #[.int .u32 ((rd_T44 l0 t251).f0), .int .i32 ((rd_T44 l0 t251).f1), .int .i32 ((rd_T44 l0 t251).f2.f0), .int .i32 ((rd_T44 l0 t251).f2.f1), .int .i32 ((rd_T44 l0 t251).f3), .int .i32 ((rd_T44 l0 t251).f4), .int .i32 ((rd_T44 l0 t251).f5.f0), .int .i32 0, .int .i32 0, .int .i32 0]) ?_ 7 _ rfl; (with_reducible repeat first | apply bN | apply bD | apply bA); refine bP (cs := #[.int .u32 ((rd_T44 l0 t251).f0), .int .i32 ((rd_T44 l0 t251).f1), .int .i32 ((rd_T44 l0 t251).f2.f0), .int .i32 ((rd_T44 l0 t251).f2.f1), .int .i32 ((rd_T44 l0 t251).f3), .int .i32 ((rd_T44 l0 t251).f4), .int .i32 0, .int .i32 0, .int .i32 0, .int .i32 0]) ?_ 6 _ rfl; (with_reducible repeat first | apply bN | apply bD | apply bA); refine bP (cs := #[.int .u32 ((rd_T44 l0 t251).f0), .int .i32 ((rd_T44 l0 t251).f1), .int .i32 ((rd_T44 l0 t251).f2.f0), .int .i32 ((rd_T44 l0 t251).f2.f1), .int .i32 ((rd_T44 l0 t251).f3), .int .i32 0, .int .i32 0, .int .i32 0, .int .i32 0, .int .i32 0]) ?_ 5 _ rfl; (with_reducible repeat first | apply bN | apply bD | apply bA); refine bP (cs := #[.int .u32 ((rd_T44 l0 t251).f0), .int .i32 ((rd_T44 l0 t251).f1), .int .i32 ((rd_T44 l0 t251).f2.f0), .int .i32 ((rd_T44 l0 t251).f2.f1), .int .i32 0, .int .i32 0, .int .i32 0, .int .i32 0, .int .i32 0, .int .i32 0]) ?_ 4 _ rfl; (with_reducible repeat first | apply bN | apply bD | apply bA); refine bP (cs := #[.int .u32 ((rd_T44 l0 t251).f0), .int .i32 ((rd_T44 l0 t251).f1), .int .i32 ((rd_T44 l0 t251).f2.f0), .int .i32 0, .int .i32 0, .int .i32 0, .int .i32 0, .int .i32 0, .int .i32 0, .int .i32 0]) ?_ 3 _ rfl; (with_reducible repeat first | apply bN | apply bD | apply bA); refine bP (cs := #[.int .u32 ((rd_T44 l0 t251).f0), .int .i32 ((rd_T44 l0 t251).f1), .int .i32 0, .int .i32 0, .int .i32 0, .int .i32 0, .int .i32 0, .int .i32 0, .int .i32 0, .int .i32 0]) ?_ 2 _ rfl; (with_reducible repeat first | apply bN | apply bD | apply bA); refine bP (cs := #[.int .u32 ((rd_T44 l0 t251).f0), .int .i32 0, .int .i32 0, .int .i32 0, .int .i32 0, .int .i32 0, .int .i32 0, .int .i32 0, .int .i32 0, .int .i32 0]) ?_ 1 _ rfl; (with_reducible repeat first | apply bN | apply bD | apply bA); refine bP (cs := #[.int .u32 0, .int .i32 0, .int .i32 0, .int .i32 0, .int .i32 0, .int .i32 0, .int .i32 0, .int .i32 0, .int .i32 0, .int .i32 0]) ?_ 0 _ rfl; (with_reducible repeat first | apply bN | apply bD | apply bA); exact BK253.out) hb); have n2_ := aM (lT (by repeat (first | (with_reducible first | exact HB.out | apply lA | apply lN | apply lD | refine lS ?_ GE248.out | refine lS ?_ GE253.out) | exact HB.out)) hb); have n3_ := aM (hbox); have n4_ := aM ((by rw [hg]; exact (lZ (by repeat (first | (with_reducible first | exact HB.out | apply lA | apply lN | apply lD | refine lS ?_ GE248.out | refine lS ?_ GE253.out) | exact HB.out))) : w.heap.size ≤ b256)); have n5_ := aM ((by rw [hg]; exact (lZ (by repeat (first | (with_reducible first | exact HB.out | apply lA | apply lN | apply lD | refine lS ?_ GE248.out | refine lS ?_ GE253.out) | exact HB.out))) : w.heap.size ≤ b256)); have n6_ := aM ((by rw [hg]; exact Nat.ne_of_lt (bL (g := b248) (o := .cells #[.int .u32 ((rd_T41 l1 x10_1).f0.f0), .int .u32 ((rd_T41 l1 x10_1).f0.f1), .int .i32 ((rd_T41 l1 x10_1).f1.f0), .int .i32 ((rd_T41 l1 x10_1).f1.f1), .int .i32 ((rd_T41 l1 x10_1).f2)] 41 (0, 0)) (by (with_reducible repeat first | apply bN | apply bD | apply bA); refine bR ?_ N0_.out _; (with_reducible repeat first | apply bN | apply bD | apply bA); refine bR ?_ N0_.out _; (with_reducible repeat first | apply bN | apply bD | apply bA); refine bR ?_ N0_.out _; (with_reducible repeat first | apply bN | apply bD | apply bA); refine bR ?_ N0_.out _; (with_reducible repeat first | apply bN | apply bD | apply bA); refine bR ?_ N0_.out _; (with_reducible repeat first | apply bN | apply bD | apply bA); refine bR ?_ N0_.out _; (with_reducible repeat first | apply bN | apply bD | apply bA); refine bR ?_ N0_.out _; (with_reducible repeat first | apply bN | apply bD | apply bA); refine bR ?_ N0_.out _; (with_reducible repeat first | apply bN | apply bD | apply bA); refine bR ?_ N0_.out _; (with_reducible repeat first | apply bN | apply bD | apply bA); refine bR ?_ N0_.out _; (with_reducible repeat first | apply bN | apply bD | apply bA); exact BK248.out)) : b248 ≠ b256)); have n7_ := aM ((by rw [hg]; exact Nat.ne_of_gt (bL (g := b248) (o := .cells #[.int .u32 ((rd_T41 l1 x10_1).f0.f0), .int .u32 ((rd_T41 l1 x10_1).f0.f1), .int .i32 ((rd_T41 l1 x10_1).f1.f0), .int .i32 ((rd_T41 l1 x10_1).f1.f1), .int .i32 ((rd_T41 l1 x10_1).f2)] 41 (0, 0)) (by (with_reducible repeat first | apply bN | apply bD | apply bA); refine bR ?_ N0_.out _; (with_reducible repeat first | apply bN | apply bD | apply bA); refine bR ?_ N0_.out _; (with_reducible repeat first | apply bN | apply bD | apply bA); refine bR ?_ N0_.out _; (with_reducible repeat first | apply bN | apply bD | apply bA); refine bR ?_ N0_.out _; (with_reducible repeat first | apply bN | apply bD | apply bA); refine bR ?_ N0_.out _; (with_reducible repeat first | apply bN | apply bD | apply bA); refine bR ?_ N0_.out _; (with_reducible repeat first | apply bN | apply bD | apply bA); refine bR ?_ N0_.out _; (with_reducible repeat first | apply bN | apply bD | apply bA); refine bR ?_ N0_.out _; (with_reducible repeat first | apply bN | apply bD | apply bA); refine bR ?_ N0_.out _; (with_reducible repeat first | apply bN | apply bD | apply bA); refine bR ?_ N0_.out _; (with_reducible repeat first | apply bN | apply bD | apply bA); exact BK248.out)) : b256 ≠ b248)); have n8_ := aM ((by rw [hg]; exact Nat.ne_of_lt (bL (g := b253) (o := .cells #[.int .u32 ((rd_T44 l0 t251).f0), .int .i32 ((rd_T44 l0 t251).f1), .int .i32 ((rd_T44 l0 t251).f2.f0), .int .i32 ((rd_T44 l0 t251).f2.f1), .int .i32 ((rd_T44 l0 t251).f3), .int .i32 ((rd_T44 l0 t251).f4), .int .i32 ((rd_T44 l0 t251).f5.f0), .int .i32 ((rd_T44 l0 t251).f5.f1), .int .i32 ((rd_T44 l0 t251).f6.f0), .int .i32 ((rd_T44 l0 t251).f6.f1)] 44 (0, 0)) (by (with_reducible repeat first | apply bN | apply bD | apply bA); refine bP (cs := #[.int .u32 ((rd_T44 l0 t251).f0), .int .i32 ((rd_T44 l0 t251).f1), .int .i32 ((rd_T44 l0 t251).f2.f0), .int .i32 ((rd_T44 l0 t251).f2.f1), .int .i32 ((rd_T44 l0 t251).f3), .int .i32 ((rd_T44 l0 t251).f4), .int .i32 ((rd_T44 l0 t251).f5.f0), .int .i32 ((rd_T44 l0 t251).f5.f1), .int .i32 ((rd_T44 l0 t251).f6.f0), .int .i32 0]) ?_ 9 _ rfl; (with_reducible repeat first | apply bN | apply bD | apply bA); refine bP (cs := #[.int .u32 ((rd_T44 l0 t251).f0), .int .i32 ((rd_T44 l0 t251).f1), .int .i32 ((rd_T44 l0 t251).f2.f0), .int .i32 ((rd_T44 l0 t251).f2.f1), .int .i32 ((rd_T44 l0 t251).f3), .int .i32 ((rd_T44 l0 t251).f4), .int .i32 ((rd_T44 l0 t251).f5.f0), .int .i32 ((rd_T44 l0 t251).f5.f1), .int .i32 0, .int .i32 0]) ?_ 8 _ rfl; (with_reducible repeat first | apply bN | apply bD | apply bA); refine bP (cs := #[.int .u32 ((rd_T44 l0 t251).f0), .int .i32 ((rd_T44 l0 t251).f1), .int .i32 ((rd_T44 l0 t251).f2.f0), .int .i32 ((rd_T44 l0 t251).f2.f1), .int .i32 ((rd_T44 l0 t251).f3), .int .i32 ((rd_T44 l0 t251).f4), .int .i32 ((rd_T44 l0 t251).f5.f0), .int .i32 0, .int .i32 0, .int .i32 0]) ?_ 7 _ rfl; (with_reducible repeat first | apply bN | apply bD | apply bA); refine bP (cs := #[.int .u32 ((rd_T44 l0 t251).f0), .int .i32 ((rd_T44 l0 t251).f1), .int .i32 ((rd_T44 l0 t251).f2.f0), .int .i32 ((rd_T44 l0 t251).f2.f1), .int .i32 ((rd_T44 l0 t251).f3), .int .i32 ((rd_T44 l0 t251).f4), .int .i32 0, .int .i32 0, .int .i32 0, .int .i32 0]) ?_ 6 _ rfl; (with_reducible repeat first | apply bN | apply bD | apply bA); refine bP (cs := #[.int .u32 ((rd_T44 l0 t251).f0), .int .i32 ((rd_T44 l0 t251).f1), .int .i32 ((rd_T44 l0 t251).f2.f0), .int .i32 ((rd_T44 l0 t251).f2.f1), .int .i32 ((rd_T44 l0 t251).f3), .int .i32 0, .int .i32 0, .int .i32 0, .int .i32 0, .int .i32 0]) ?_ 5 _ rfl; (with_reducible repeat first | apply bN | apply bD | apply bA); refine bP (cs := #[.int .u32 ((rd_T44 l0 t251).f0), .int .i32 ((rd_T44 l0 t251).f1), .int .i32 ((rd_T44 l0 t251).f2.f0), .int .i32 ((rd_T44 l0 t251).f2.f1), .int .i32 0, .int .i32 0, .int .i32 0, .int .i32 0, .int .i32 0, .int .i32 0]) ?_ 4 _ rfl; (with_reducible repeat first | apply bN | apply bD | apply bA); refine bP (cs := #[.int .u32 ((rd_T44 l0 t251).f0), .int .i32 ((rd_T44 l0 t251).f1), .int .i32 ((rd_T44 l0 t251).f2.f0), .int .i32 0, .int .i32 0, .int .i32 0, .int .i32 0, .int .i32 0, .int .i32 0, .int .i32 0]) ?_ 3 _ rfl; (with_reducible repeat first | apply bN | apply bD | apply bA); refine bP (cs := #[.int .u32 ((rd_T44 l0 t251).f0), .int .i32 ((rd_T44 l0 t251).f1), .int .i32 0, .int .i32 0, .int .i32 0, .int .i32 0, .int .i32 0, .int .i32 0, .int .i32 0, .int .i32 0]) ?_ 2 _ rfl; (with_reducible repeat first | apply bN | apply bD | apply bA); refine bP (cs := #[.int .u32 ((rd_T44 l0 t251).f0), .int .i32 0, .int .i32 0, .int .i32 0, .int .i32 0, .int .i32 0, .int .i32 0, .int .i32 0, .int .i32 0, .int .i32 0]) ?_ 1 _ rfl; (with_reducible repeat first | apply bN | apply bD | apply bA); refine bP (cs := #[.int .u32 0, .int .i32 0, .int .i32 0, .int .i32 0, .int .i32 0, .int .i32 0, .int .i32 0, .int .i32 0, .int .i32 0, .int .i32 0]) ?_ 0 _ rfl; (with_reducible repeat first | apply bN | apply bD | apply bA); exact BK253.out)) : b253 ≠ b256)); have n9_ := aM ((by rw [hg]; exact Nat.ne_of_gt (bL (g := b253) (o := .cells #[.int .u32 ((rd_T44 l0 t251).f0), .int .i32 ((rd_T44 l0 t251).f1), .int .i32 ((rd_T44 l0 t251).f2.f0), .int .i32 ((rd_T44 l0 t251).f2.f1), .int .i32 ((rd_T44 l0 t251).f3), .int .i32 ((rd_T44 l0 t251).f4), .int .i32 ((rd_T44 l0 t251).f5.f0), .int .i32 ((rd_T44 l0 t251).f5.f1), .int .i32 ((rd_T44 l0 t251).f6.f0), .int .i32 ((rd_T44 l0 t251).f6.f1)] 44 (0, 0)) (by (with_reducible repeat first | apply bN | apply bD | apply bA); refine bP (cs := #[.int .u32 ((rd_T44 l0 t251).f0), .int .i32 ((rd_T44 l0 t251).f1), .int .i32 ((rd_T44 l0 t251).f2.f0), .int .i32 ((rd_T44 l0 t251).f2.f1), .int .i32 ((rd_T44 l0 t251).f3), .int .i32 ((rd_T44 l0 t251).f4), .int .i32 ((rd_T44 l0 t251).f5.f0), .int .i32 ((rd_T44 l0 t251).f5.f1), .int .i32 ((rd_T44 l0 t251).f6.f0), .int .i32 0]) ?_ 9 _ rfl; (with_reducible repeat first | apply bN | apply bD | apply bA); refine bP (cs := #[.int .u32 ((rd_T44 l0 t251).f0), .int .i32 ((rd_T44 l0 t251).f1), .int .i32 ((rd_T44 l0 t251).f2.f0), .int .i32 ((rd_T44 l0 t251).f2.f1), .int .i32 ((rd_T44 l0 t251).f3), .int .i32 ((rd_T44 l0 t251).f4), .int .i32 ((rd_T44 l0 t251).f5.f0), .int .i32 ((rd_T44 l0 t251).f5.f1), .int .i32 0, .int .i32 0]) ?_ 8 _ rfl; (with_reducible repeat first | apply bN | apply bD | apply bA); refine bP (cs := #[.int .u32 ((rd_T44 l0 t251).f0), .int .i32 ((rd_T44 l0 t251).f1), .int .i32 ((rd_T44 l0 t251).f2.f0), .int .i32 ((rd_T44 l0 t251).f2.f1), .int .i32 ((rd_T44 l0 t251).f3), .int .i32 ((rd_T44 l0 t251).f4), .int .i32 ((rd_T44 l0 t251).f5.f0), .int .i32 0, .int .i32 0, .int .i32 0]) ?_ 7 _ rfl; (with_reducible repeat first | apply bN | apply bD | apply bA); refine bP (cs := #[.int .u32 ((rd_T44 l0 t251).f0), .int .i32 ((rd_T44 l0 t251).f1), .int .i32 ((rd_T44 l0 t251).f2.f0), .int .i32 ((rd_T44 l0 t251).f2.f1), .int .i32 ((rd_T44 l0 t251).f3), .int .i32 ((rd_T44 l0 t251).f4), .int .i32 0, .int .i32 0, .int .i32 0, .int .i32 0]) ?_ 6 _ rfl; (with_reducible repeat first | apply bN | apply bD | apply bA); refine bP (cs := #[.int .u32 ((rd_T44 l0 t251).f0), .int .i32 ((rd_T44 l0 t251).f1), .int .i32 ((rd_T44 l0 t251).f2.f0), .int .i32 ((rd_T44 l0 t251).f2.f1), .int .i32 ((rd_T44 l0 t251).f3), .int .i32 0, .int .i32 0, .int .i32 0, .int .i32 0, .int .i32 0]) ?_ 5 _ rfl; (with_reducible repeat first | apply bN | apply bD | apply bA); refine bP (cs := #[.int .u32 ((rd_T44 l0 t251).f0), .int .i32 ((rd_T44 l0 t251).f1), .int .i32 ((rd_T44 l0 t251).f2.f0), .int .i32 ((rd_T44 l0 t251).f2.f1), .int .i32 0, .int .i32 0, .int .i32 0, .int .i32 0, .int .i32 0, .int .i32 0]) ?_ 4 _ rfl; (with_reducible repeat first | apply bN | apply bD | apply bA); refine bP (cs := #[.int .u32 ((rd_T44 l0 t251).f0), .int .i32 ((rd_T44 l0 t251).f1), .int .i32 ((rd_T44 l0 t251).f2.f0), .int .i32 0, .int .i32 0, .int .i32 0, .int .i32 0, .int .i32 0, .int .i32 0, .int .i32 0]) ?_ 3 _ rfl; (with_reducible repeat first | apply bN | apply bD | apply bA); refine bP (cs := #[.int .u32 ((rd_T44 l0 t251).f0), .int .i32 ((rd_T44 l0 t251).f1), .int .i32 0, .int .i32 0, .int .i32 0, .int .i32 0, .int .i32 0, .int .i32 0, .int .i32 0, .int .i32 0]) ?_ 2 _ rfl; (with_reducible repeat first | apply bN | apply bD | apply bA); refine bP (cs := #[.int .u32 ((rd_T44 l0 t251).f0), .int .i32 0, .int .i32 0, .int .i32 0, .int .i32 0, .int .i32 0, .int .i32 0, .int .i32 0, .int .i32 0, .int .i32 0]) ?_ 1 _ rfl; (with_reducible repeat first | apply bN | apply bD | apply bA); refine bP (cs := #[.int .u32 0, .int .i32 0, .int .i32 0, .int .i32 0, .int .i32 0, .int .i32 0, .int .i32 0, .int .i32 0, .int .i32 0, .int .i32 0]) ?_ 0 _ rfl; (with_reducible repeat first | apply bN | apply bD | apply bA); exact BK253.out)) : b256 ≠ b253)); clear BK248; clear BK253; clear HB; have BK248 := n0_; have BK253 := n1_; have HB := n2_; have BK256 := n3_; have GW256 := n4_; have GE256 := n5_; have N2_ := n6_; have N3_ := n7_; have N4_ := n8_; have N5_ := n9_; clear n0_ n1_ n2_ n3_ n4_ n5_ n6_ n7_ n8_ n9_; clear hb hbox hg; have hnb30 := N3_.out; have hnc30 := N2_.out; have hnb31 := N5_.out; have hnc31 := N4_.out; obtain ⟨hcz32_0, hcz32_1, hcz32_2, hcz32_3, hcz32_4, hcz32_5, hcz32_6, hcz32_7, hcz32_8, hcz32_9, hfz32_0, hfz32_1, hfz32_2, hfz32_3, hfz32_4, hfz32_5, hfz32_6, hfz32_7, hfz32_8, hfz32_9⟩ := kD10 BK256.out; obtain ⟨hcz33_0, hcz33_1, hcz33_2, hcz33_3, hcz33_4, hfz33_0, hfz33_1, hfz33_2, hfz33_3, hfz33_4⟩ := kD5 BK248.out; obtain ⟨hcz34_0, hcz34_1, hcz34_2, hcz34_3, hcz34_4, hcz34_5, hcz34_6, hcz34_7, hcz34_8, hcz34_9, hfz34_0, hfz34_1, hfz34_2, hfz34_3, hfz34_4, hfz34_5, hfz34_6, hfz34_7, hfz34_8, hfz34_9⟩ := kD10 BK253.out) | (go_at_call 31; (with_reducible refine (billiardref16_Strength.calls ((rd_T41 l1 x10_1).f0.f0) ((rd_T41 l1 x10_1).f0.f1) ((rd_T41 l1 x10_1).f1.f0) ((rd_T41 l1 x10_1).f1.f1) ((rd_T41 l1 x10_1).f2) ((rd_T44 l0 t251).f0) ((rd_T44 l0 t251).f1) ((rd_T44 l0 t251).f2.f0) ((rd_T44 l0 t251).f2.f1) ((rd_T44 l0 t251).f3) ((rd_T44 l0 t251).f4) ((rd_T44 l0 t251).f5.f0) ((rd_T44 l0 t251).f5.f1) ((rd_T44 l0 t251).f6.f0) ((rd_T44 l0 t251).f6.f1) ((rd_T44 l0 t254).f0) ((rd_T44 l0 t254).f1) ((rd_T44 l0 t254).f2.f0) ((rd_T44 l0 t254).f2.f1) ((rd_T44 l0 t254).f3) ((rd_T44 l0 t254).f4) ((rd_T44 l0 t254).f5.f0) ((rd_T44 l0 t254).f5.f1) ((rd_T44 l0 t254).f6.f0) ((rd_T44 l0 t254).f6.f1) t257 _ A22.out).mono ?_); rintro e w35 ⟨rfl, hb⟩; have n0_ := aM (bB (g := b248) (o := .cells #[.int .u32 ((rd_T41 l1 x10_1).f0.f0), .int .u32 ((rd_T41 l1 x10_1).f0.f1), .int .i32 ((rd_T41 l1 x10_1).f1.f0), .int .i32 ((rd_T41 l1 x10_1).f1.f1), .int .i32 ((rd_T41 l1 x10_1).f2)] 41 (0, 0)) (by (with_reducible repeat first | apply bN | apply bD | apply bA); refine bR ?_ N2_.out _; (with_reducible repeat first | apply bN | apply bD | apply bA); refine bR ?_ N2_.out _; (with_reducible repeat first | apply bN | apply bD | apply bA); refine bR ?_ N2_.out _; (with_reducible repeat first | apply bN | apply bD | apply bA); refine bR ?_ N2_.out _; (with_reducible repeat first | apply bN | apply bD | apply bA); refine bR ?_ N2_.out _; (with_reducible repeat first | apply bN | apply bD | apply bA); refine bR ?_ N2_.out _; (with_reducible repeat first | apply bN | apply bD | apply bA); refine bR ?_ N2_.out _; (with_reducible repeat first | apply bN | apply bD | apply bA); refine bR ?_ N2_.out _; (with_reducible repeat first | apply bN | apply bD | apply bA); refine bR ?_ N2_.out _; (with_reducible repeat first | apply bN | apply bD | apply bA); refine bR ?_ N2_.out _; (with_reducible repeat first | apply bN | apply bD | apply bA); exact BK248.out) hb); have n1_ := aM (bB (g := b253) (o := .cells #[.int .u32 ((rd_T44 l0 t251).f0), .int .i32 ((rd_T44 l0 t251).f1), .int .i32 ((rd_T44 l0 t251).f2.f0), .int .i32 ((rd_T44 l0 t251).f2.f1), .int .i32 ((rd_T44 l0 t251).f3), .int .i32 ((rd_T44 l0 t251).f4), .int .i32 ((rd_T44 l0 t251).f5.f0), .int .i32 ((rd_T44 l0 t251).f5.f1), .int .i32 ((rd_T44 l0 t251).f6.f0), .int .i32 ((rd_T44 l0 t251).f6.f1)] 44 (0, 0)) (by (with_reducible repeat first | apply bN | apply bD | apply bA); refine bR ?_ N4_.out _; (with_reducible repeat first | apply bN | apply bD | apply bA); refine bR ?_ N4_.out _; (with_reducible repeat first | apply bN | apply bD | apply bA); refine bR ?_ N4_.out _; (with_reducible repeat first | apply bN | apply bD | apply bA); refine bR ?_ N4_.out _; (with_reducible repeat first | apply bN | apply bD | apply bA); refine bR ?_ N4_.out _; (with_reducible repeat first | apply bN | apply bD | apply bA); refine bR ?_ N4_.out _; (with_reducible repeat first | apply bN | apply bD | apply bA); refine bR ?_ N4_.out _; (with_reducible repeat first | apply bN | apply bD | apply bA); refine bR ?_ N4_.out _; (with_reducible repeat first | apply bN | apply bD | apply bA); refine bR ?_ N4_.out _; (with_reducible repeat first | apply bN | apply bD | apply bA); refine bR ?_ N4_.out _; (with_reducible repeat first | apply bN | apply bD | apply bA); exact BK253.out) hb); have n2_ := aM (bB (g := b256) (o := .cells #[.int .u32 ((rd_T44 l0 t254).f0), .int .i32 ((rd_T44 l0 t254).f1), .int .i32 ((rd_T44 l0 t254).f2.f0), .int .i32 ((rd_T44 l0 t254).f2.f1), .int .i32 ((rd_T44 l0 t254).f3), .int .i32 ((rd_T44 l0 t254).f4), .int .i32 ((rd_T44 l0 t254).f5.f0), .int .i32 ((rd_T44 l0 t254).f5.f1), .int .i32 ((rd_T44 l0 t254).f6.f0), .int .i32 ((rd_T44 l0 t254).f6.f1)] 44 (0, 0)) (by (with_reducible repeat first | apply bN | apply bD | apply bA); refine bP (cs := #[.int .u32 ((rd_T44 l0 t254).f0), .int .i32 ((rd_T44 l0 t254).f1), .int .i32 ((rd_T44 l0 t254).f2.f0), .int .i32 ((rd_T44 l0 t254).f2.f1), .int .i32 ((rd_T44 l0 t254).f3), .int .i32 ((rd_T44 l0 t254).f4), .int .i32 ((rd_T44 l0 t254).f5.f0), .int .i32 ((rd_T44 l0 t254).f5.f1), .int .i32 ((rd_T44 l0 t254).f6.f0), .int .i32 0]) ?_ 9 _ rfl; (with_reducible repeat first | apply bN | apply bD | apply bA); refine bP (cs := #[.int .u32 ((rd_T44 l0 t254).f0), .int .i32 ((rd_T44 l0 t254).f1), .int .i32 ((rd_T44 l0 t254).f2.f0), .int .i32 ((rd_T44 l0 t254).f2.f1), .int .i32 ((rd_T44 l0 t254).f3), .int .i32 ((rd_T44 l0 t254).f4), .int .i32 ((rd_T44 l0 t254).f5.f0), .int .i32 ((rd_T44 l0 t254).f5.f1), .int .i32 0, .int .i32 0]) ?_ 8 _ rfl; (with_reducible repeat first | apply bN | apply bD | apply bA); refine bP (cs := #[.int .u32 ((rd_T44 l0 t254).f0), .int .i32 ((rd_T44 l0 t254).f1), .int .i32 ((rd_T44 l0 t254).f2.f0), .int .i32 ((rd_T44 l0 t254).f2.f1), .int .i32 ((rd_T44 l0 t254).f3), .int .i32 ((rd_T44 l0 t254).f4), .int .i32 ((rd_T44 l0 t254).f5.f0), .int .i32 0, .int .i32 0, .int .i32 0]) ?_ 7 _ rfl; (with_reducible repeat first | apply bN | apply bD | apply bA); refine bP (cs := #[.int .u32 ((rd_T44 l0 t254).f0), .int .i32 ((rd_T44 l0 t254).f1), .int .i32 ((rd_T44 l0 t254).f2.f0), .int .i32 ((rd_T44 l0 t254).f2.f1), .int .i32 ((rd_T44 l0 t254).f3), .int .i32 ((rd_T44 l0 t254).f4), .int .i32 0, .int .i32 0, .int .i32 0, .int .i32 0]) ?_ 6 _ rfl; (with_reducible repeat first | apply bN | apply bD | apply bA); refine bP (cs := #[.int .u32 ((rd_T44 l0 t254).f0), .int .i32 ((rd_T44 l0 t254).f1), .int .i32 ((rd_T44 l0 t254).f2.f0), .int .i32 ((rd_T44 l0 t254).f2.f1), .int .i32 ((rd_T44 l0 t254).f3), .int .i32 0, .int .i32 0, .int .i32 0, .int .i32 0, .int .i32 0]) ?_ 5 _ rfl; (with_reducible repeat first | apply bN | apply bD | apply bA); refine bP (cs := #[.int .u32 ((rd_T44 l0 t254).f0), .int .i32 ((rd_T44 l0 t254).f1), .int .i32 ((rd_T44 l0 t254).f2.f0), .int .i32 ((rd_T44 l0 t254).f2.f1), .int .i32 0, .int .i32 0, .int .i32 0, .int .i32 0, .int .i32 0, .int .i32 0]) ?_ 4 _ rfl; (with_reducible repeat first | apply bN | apply bD | apply bA); refine bP (cs := #[.int .u32 ((rd_T44 l0 t254).f0), .int .i32 ((rd_T44 l0 t254).f1), .int .i32 ((rd_T44 l0 t254).f2.f0), .int .i32 0, .int .i32 0, .int .i32 0, .int .i32 0, .int .i32 0, .int .i32 0, .int .i32 0]) ?_ 3 _ rfl; (with_reducible repeat first | apply bN | apply bD | apply bA); refine bP (cs := #[.int .u32 ((rd_T44 l0 t254).f0), .int .i32 ((rd_T44 l0 t254).f1), .int .i32 0, .int .i32 0, .int .i32 0, .int .i32 0, .int .i32 0, .int .i32 0, .int .i32 0, .int .i32 0]) ?_ 2 _ rfl; (with_reducible repeat first | apply bN | apply bD | apply bA); refine bP (cs := #[.int .u32 ((rd_T44 l0 t254).f0), .int .i32 0, .int .i32 0, .int .i32 0, .int .i32 0, .int .i32 0, .int .i32 0, .int .i32 0, .int .i32 0, .int .i32 0]) ?_ 1 _ rfl; (with_reducible repeat first | apply bN | apply bD | apply bA); refine bP (cs := #[.int .u32 0, .int .i32 0, .int .i32 0, .int .i32 0, .int .i32 0, .int .i32 0, .int .i32 0, .int .i32 0, .int .i32 0, .int .i32 0]) ?_ 0 _ rfl; (with_reducible repeat first | apply bN | apply bD | apply bA); exact BK256.out) hb); have n3_ := aM (lT (by repeat (first | (with_reducible first | exact HB.out | apply lA | apply lN | apply lD | refine lS ?_ GE248.out | refine lS ?_ GE253.out | refine lS ?_ GE256.out) | exact HB.out)) hb); clear BK248; clear BK253; clear BK256; clear HB; have BK248 := n0_; have BK253 := n1_; have BK256 := n2_; have HB := n3_; clear n0_ n1_ n2_ n3_; (try clear hb); (try clear hb2); (try clear hk); (try clear hi); obtain ⟨hcz36_0, hcz36_1, hcz36_2, hcz36_3, hcz36_4, hfz36_0, hfz36_1, hfz36_2, hfz36_3, hfz36_4⟩ := kD5 BK248.out))
            (try simp only [Act.put, sA, sB, sC])
            go_cut [15] (fun v15 wc => ∃ (kq : Nat) (x15_22 : Int), v15 = .int .i32 x15_22 ∧ Aside0 (billiardref17_sum.j2 kq l0 l1 a2 a3 x9_1 x10_1 t257 x15_22 ((rd_T41 l1 x10_1).f0.f0) ((rd_T41 l1 x10_1).f0.f1) ((rd_T41 l1 x10_1).f1.f0) ((rd_T41 l1 x10_1).f1.f1) ((rd_T41 l1 x10_1).f2) = some r) ∧ Aside0 (kq ≤ kj6) ∧ Aside0 (wc.heap[b248]? = some (.cells #[.int .u32 ((rd_T41 l1 x10_1).f0.f0), .int .u32 ((rd_T41 l1 x10_1).f0.f1), .int .i32 ((rd_T41 l1 x10_1).f1.f0), .int .i32 ((rd_T41 l1 x10_1).f1.f1), .int .i32 ((rd_T41 l1 x10_1).f2)] 41 (0, 0))) ∧ Aside0 (wc.heap[b253]? = some (.cells #[.int .u32 ((rd_T44 l0 t251).f0), .int .i32 ((rd_T44 l0 t251).f1), .int .i32 ((rd_T44 l0 t251).f2.f0), .int .i32 ((rd_T44 l0 t251).f2.f1), .int .i32 ((rd_T44 l0 t251).f3), .int .i32 ((rd_T44 l0 t251).f4), .int .i32 ((rd_T44 l0 t251).f5.f0), .int .i32 ((rd_T44 l0 t251).f5.f1), .int .i32 ((rd_T44 l0 t251).f6.f0), .int .i32 ((rd_T44 l0 t251).f6.f1)] 44 (0, 0))) ∧ Aside0 (wc.heap[b256]? = some (.cells #[.int .u32 ((rd_T44 l0 t254).f0), .int .i32 ((rd_T44 l0 t254).f1), .int .i32 ((rd_T44 l0 t254).f2.f0), .int .i32 ((rd_T44 l0 t254).f2.f1), .int .i32 ((rd_T44 l0 t254).f3), .int .i32 ((rd_T44 l0 t254).f4), .int .i32 ((rd_T44 l0 t254).f5.f0), .int .i32 ((rd_T44 l0 t254).f5.f1), .int .i32 ((rd_T44 l0 t254).f6.f0), .int .i32 ((rd_T44 l0 t254).f6.f1)] 44 (0, 0))) ∧ Aside0 (Below w.heap.size w wc))
            case first =>
             have H := HC23.out
             clear HC23
             by_cases c37 : a3 = true
             ·subst c37
              rw [if_pos rfl] at H
              have H' := aM H
              clear H
              have hnb38 := N0_.out
              have hnc38 := N1_.out
              have hnb39 := N2_.out
              have hnc39 := N3_.out
              obtain ⟨hcz40_0, hcz40_1, hcz40_2, hcz40_3, hcz40_4, hfz40_0, hfz40_1, hfz40_2, hfz40_3, hfz40_4⟩ := kD5 BK248.out
              go_wp2
              repeat (go_quiet (fail); try go_wp2)
              go_meet
              case rel => exact ⟨_, (((rd_T41 l1 x10_1).f1.f1)), (by first | rfl | (simp; done) | (simp [*]; done)), H', ⟨by have := HK1.out; have := HJ6.out; first | omega | exact Nat.le_refl _⟩, ⟨by (with_reducible repeat first | apply bN | apply bD | apply bA); exact BK248.out⟩, ⟨by (with_reducible repeat first | apply bN | apply bD | apply bA); exact BK253.out⟩, ⟨by (with_reducible repeat first | apply bN | apply bD | apply bA); exact BK256.out⟩, ⟨by repeat (first | (with_reducible first | exact HB.out | apply lA | apply lN | apply lD | refine lS ?_ GE248.out | refine lS ?_ GE253.out | refine lS ?_ GE256.out) | exact HB.out)⟩⟩
             ·replace c37 := Bool.eq_false_iff.mpr c37
              subst c37
              rw [if_neg (show ¬ (false = true) by decide)] at H
              have H' := aM H
              clear H
              go_wp2
              repeat (go_quiet (fail); try go_wp2)
              go_meet
              case rel => exact ⟨_, (((rd_T41 l1 x10_1).f1.f0)), (by first | rfl | (simp; done) | (simp [*]; done)), H', ⟨by have := HK1.out; have := HJ6.out; first | omega | exact Nat.le_refl _⟩, ⟨by (with_reducible repeat first | apply bN | apply bD | apply bA); exact BK248.out⟩, ⟨by (with_reducible repeat first | apply bN | apply bD | apply bA); exact BK253.out⟩, ⟨by (with_reducible repeat first | apply bN | apply bD | apply bA); exact BK256.out⟩, ⟨by repeat (first | (with_reducible first | exact HB.out | apply lA | apply lN | apply lD | refine lS ?_ GE248.out | refine lS ?_ GE253.out | refine lS ?_ GE256.out) | exact HB.out)⟩⟩
            case rest =>
             clear HC23
             try clear c1
             try clear c2
             try clear p2
             try clear q2
             try clear hx2
             try clear c3
             try clear c5
             try clear c5b0
             try clear c6
             try clear c6b0
             try clear p6
             try clear c10
             try clear c10b0
             try clear c11
             try clear c11b0
             try clear c12
             try clear c12b0
             try clear c12b1
             try clear c15
             try clear c17
             try clear c17b0
             try clear c18
             try clear c18b0
             try clear c20
             try clear c20b0
             try clear c21
             try clear c21b0
             try clear c24
             try clear p24
             try clear q24
             try clear hx24
             try clear p25
             try clear q25
             try clear hx25
             try clear c26
             try clear c30
             try clear c31
             try clear c37
             try clear c38
             try clear c39
             try clear hcz13_0
             try clear hcz13_1
             try clear hcz13_2
             try clear hcz13_3
             try clear hcz13_4
             try clear hcz14_0
             try clear hcz14_1
             try clear hcz14_2
             try clear hcz14_3
             try clear hcz14_4
             try clear hcz24_0
             try clear hcz24_1
             try clear hcz24_2
             try clear hcz24_3
             try clear hcz24_4
             try clear hcz27_0
             try clear hcz27_1
             try clear hcz27_2
             try clear hcz27_3
             try clear hcz27_4
             try clear hcz27_5
             try clear hcz27_6
             try clear hcz27_7
             try clear hcz27_8
             try clear hcz27_9
             try clear hcz28_0
             try clear hcz28_1
             try clear hcz28_2
             try clear hcz28_3
             try clear hcz28_4
             try clear hcz32_0
             try clear hcz32_1
             try clear hcz32_2
             try clear hcz32_3
             try clear hcz32_4
             try clear hcz32_5
             try clear hcz32_6
             try clear hcz32_7
             try clear hcz32_8
             try clear hcz32_9
             try clear hcz33_0
             try clear hcz33_1
             try clear hcz33_2
             try clear hcz33_3
             try clear hcz33_4
             try clear hcz34_0
             try clear hcz34_1
             try clear hcz34_2
             try clear hcz34_3
             try clear hcz34_4
             try clear hcz34_5
             try clear hcz34_6
             try clear hcz34_7
             try clear hcz34_8
             try clear hcz34_9
             try clear hcz36_0
             try clear hcz36_1
             try clear hcz36_2
             try clear hcz36_3
             try clear hcz36_4
             try clear hcz40_0
             try clear hcz40_1
             try clear hcz40_2
             try clear hcz40_3
             try clear hcz40_4
             try clear hcz9_0
             try clear hcz9_1
             try clear hcz9_2
             try clear hcz9_3
             try clear hcz9_4
             try clear hfz13_0
             try clear hfz13_1
             try clear hfz13_2
             try clear hfz13_3
             try clear hfz13_4
             try clear hfz14_0
             try clear hfz14_1
             try clear hfz14_2
             try clear hfz14_3
             try clear hfz14_4
             try clear hfz24_0
             try clear hfz24_1
             try clear hfz24_2
             try clear hfz24_3
             try clear hfz24_4
             try clear hfz27_0
             try clear hfz27_1
             try clear hfz27_2
             try clear hfz27_3
             try clear hfz27_4
             try clear hfz27_5
             try clear hfz27_6
             try clear hfz27_7
             try clear hfz27_8
             try clear hfz27_9
             try clear hfz28_0
             try clear hfz28_1
             try clear hfz28_2
             try clear hfz28_3
             try clear hfz28_4
             try clear hfz32_0
             try clear hfz32_1
             try clear hfz32_2
             try clear hfz32_3
             try clear hfz32_4
             try clear hfz32_5
             try clear hfz32_6
             try clear hfz32_7
             try clear hfz32_8
             try clear hfz32_9
             try clear hfz33_0
             try clear hfz33_1
             try clear hfz33_2
             try clear hfz33_3
             try clear hfz33_4
             try clear hfz34_0
             try clear hfz34_1
             try clear hfz34_2
             try clear hfz34_3
             try clear hfz34_4
             try clear hfz34_5
             try clear hfz34_6
             try clear hfz34_7
             try clear hfz34_8
             try clear hfz34_9
             try clear hfz36_0
             try clear hfz36_1
             try clear hfz36_2
             try clear hfz36_3
             try clear hfz36_4
             try clear hfz40_0
             try clear hfz40_1
             try clear hfz40_2
             try clear hfz40_3
             try clear hfz40_4
             try clear hfz9_0
             try clear hfz9_1
             try clear hfz9_2
             try clear hfz9_3
             try clear hfz9_4
             try clear hx247_0
             try clear hx247_1
             try clear hx247_2
             try clear hx247_3
             try clear hx247_4
             try clear hx249_0
             try clear hx249_1
             try clear hx249_2
             try clear hx249_3
             try clear hx249_4
             try clear hx249_5
             try clear hx249_6
             try clear hx249_7
             try clear hx249_8
             try clear hx249_9
             try clear hx250_0
             try clear hx250_1
             try clear hx250_2
             try clear hx250_3
             try clear hx250_4
             try clear hx250_5
             try clear hx250_6
             try clear hx250_7
             try clear hx250_8
             try clear hx250_9
             try clear hx252_0
             try clear hx252_1
             try clear hx252_2
             try clear hx252_3
             try clear hx252_4
             try clear hx252_5
             try clear hx252_6
             try clear hx252_7
             try clear hx252_8
             try clear hx252_9
             try clear hx255_0
             try clear hx255_1
             try clear hx255_2
             try clear hx255_3
             try clear hx255_4
             try clear hx255_5
             try clear hx255_6
             try clear hx255_7
             try clear hx255_8
             try clear hx255_9
             try clear p2
             try clear p247
             try clear p249
             try clear p250
             try clear p252
             try clear p255
             try clear q2
             try clear q247
             try clear q249
             try clear q250
             try clear q252
             try clear q255
             obtain ⟨kq, x15_22, rfl, HA, HJ22, BK248, BK253, BK256, HB⟩ := hcut
             cases kq with
             | zero => exact absurd HA.out (by simp [billiardref17_sum.j2])
             | succ kj22 =>
              have H := HA.out
              clear HA
              simp only [billiardref17_sum.j2] at H
              by_cases c41 : 0 ≤ a2
              ·rw [if_pos c41] at H
               have c41b0 : decide (0 ≤ a2) = true := decide_eq_true c41
               clear c41
               by_cases c42 : a2 < (l0.length : Int)
               ·rw [if_pos c42] at H
                have c42b0 : decide (a2 < (l0.length : Int)) = true := decide_eq_true c42
                clear c42
                replace H := Option.bind_eq_some_iff.mp H
                obtain ⟨t259, A430, H⟩ := H
                try dsimp only at H
                have A43 := aM A430
                clear A430
                by_cases c44 : ((rd_T41 l1 x10_1).f0.f0) = ((rd_T44 l0 a2).f0)
                ·rw [if_pos c44] at H
                 have c44b0 : (((rd_T41 l1 x10_1).f0.f0) == ((rd_T44 l0 a2).f0)) = true := beq_iff_eq.mpr c44
                 have c44b1 : (((rd_T41 l1 x10_1).f0.f0) != ((rd_T44 l0 a2).f0)) = false := bne_eq_false_iff_eq.mpr c44
                 clear c44
                 have H' := aM H
                 clear H
                 have p258 : 0 ≤ (a2 : Int) := of_decide_eq_true (by first | (with_reducible assumption) | assumption)
                 have q258 : a2 < (l0.length : Int) := of_decide_eq_true (by first | (with_reducible assumption) | assumption)
                 obtain ⟨ad258, e258, hx258_0, hx258_1, hx258_2, hx258_3, hx258_4, hx258_5, hx258_6, hx258_7, hx258_8, hx258_9⟩ := at_T44 HR0.out a2 p258 q258
                 obtain rfl : ad252 = ad258 := (by injection e258)
                 replace hx258_0 := (HB.out.cell (World.block_lt_of_cell? w _ hx258_0)).trans hx258_0
                 replace hx258_1 := (HB.out.cell (World.block_lt_of_cell? w _ hx258_1)).trans hx258_1
                 replace hx258_2 := (HB.out.cell (World.block_lt_of_cell? w _ hx258_2)).trans hx258_2
                 replace hx258_3 := (HB.out.cell (World.block_lt_of_cell? w _ hx258_3)).trans hx258_3
                 replace hx258_4 := (HB.out.cell (World.block_lt_of_cell? w _ hx258_4)).trans hx258_4
                 replace hx258_5 := (HB.out.cell (World.block_lt_of_cell? w _ hx258_5)).trans hx258_5
                 replace hx258_6 := (HB.out.cell (World.block_lt_of_cell? w _ hx258_6)).trans hx258_6
                 replace hx258_7 := (HB.out.cell (World.block_lt_of_cell? w _ hx258_7)).trans hx258_7
                 replace hx258_8 := (HB.out.cell (World.block_lt_of_cell? w _ hx258_8)).trans hx258_8
                 replace hx258_9 := (HB.out.cell (World.block_lt_of_cell? w _ hx258_9)).trans hx258_9
                 replace p258 := eq_true p258
                 replace q258 := eq_true q258
                 go_wp2_with (first | (go_at_call 32; (with_reducible refine (billiardref16_ChangeX.calls t257 ((rd_T44 l0 a2).f3) x15_22 t259 _ A43.out).mono ?_); rintro e w45 ⟨rfl, hb⟩; have n_ := kB3 BK248 BK253 BK256 HB (by repeat first | exact lR _ _ | apply lN | apply lD | apply lA) hb; clear BK248 BK253 BK256 HB; obtain ⟨BK248, BK253, BK256, HB⟩ := n_; (try clear hb); (try clear hb2); (try clear hk); (try clear hi); have hnb46 := N0_.out; have hnc46 := N1_.out; have hnb47 := N2_.out; have hnc47 := N3_.out; obtain ⟨hcz48_0, hcz48_1, hcz48_2, hcz48_3, hcz48_4, hfz48_0, hfz48_1, hfz48_2, hfz48_3, hfz48_4⟩ := kD5 BK248.out; have p260 : 0 ≤ (a2 : Int) := of_decide_eq_true (by first | (with_reducible assumption) | assumption); have q260 : a2 < (l0.length : Int) := of_decide_eq_true (by first | (with_reducible assumption) | assumption); obtain ⟨ad260, e260, hx260_0, hx260_1, hx260_2, hx260_3, hx260_4, hx260_5, hx260_6, hx260_7, hx260_8, hx260_9⟩ := at_T44 HR0.out a2 p260 q260; obtain rfl : ad252 = ad260 := (by injection e260); replace hx260_0 := (HB.out.cell (World.block_lt_of_cell? w _ hx260_0)).trans hx260_0; replace hx260_1 := (HB.out.cell (World.block_lt_of_cell? w _ hx260_1)).trans hx260_1; replace hx260_2 := (HB.out.cell (World.block_lt_of_cell? w _ hx260_2)).trans hx260_2; replace hx260_3 := (HB.out.cell (World.block_lt_of_cell? w _ hx260_3)).trans hx260_3; replace hx260_4 := (HB.out.cell (World.block_lt_of_cell? w _ hx260_4)).trans hx260_4; replace hx260_5 := (HB.out.cell (World.block_lt_of_cell? w _ hx260_5)).trans hx260_5; replace hx260_6 := (HB.out.cell (World.block_lt_of_cell? w _ hx260_6)).trans hx260_6; replace hx260_7 := (HB.out.cell (World.block_lt_of_cell? w _ hx260_7)).trans hx260_7; replace hx260_8 := (HB.out.cell (World.block_lt_of_cell? w _ hx260_8)).trans hx260_8; replace hx260_9 := (HB.out.cell (World.block_lt_of_cell? w _ hx260_9)).trans hx260_9; replace p260 := eq_true p260; replace q260 := eq_true q260))
                 repeat (go_quiet (first | (go_at_call 32; (with_reducible refine (billiardref16_ChangeX.calls t257 ((rd_T44 l0 a2).f3) x15_22 t259 _ A43.out).mono ?_); rintro e w45 ⟨rfl, hb⟩; have n_ := kB3 BK248 BK253 BK256 HB (by repeat first | exact lR _ _ | apply lN | apply lD | apply lA) hb; clear BK248 BK253 BK256 HB; obtain ⟨BK248, BK253, BK256, HB⟩ := n_; (try clear hb); (try clear hb2); (try clear hk); (try clear hi); have hnb46 := N0_.out; have hnc46 := N1_.out; have hnb47 := N2_.out; have hnc47 := N3_.out; obtain ⟨hcz48_0, hcz48_1, hcz48_2, hcz48_3, hcz48_4, hfz48_0, hfz48_1, hfz48_2, hfz48_3, hfz48_4⟩ := kD5 BK248.out; have p260 : 0 ≤ (a2 : Int) := of_decide_eq_true (by first | (with_reducible assumption) | assumption); have q260 : a2 < (l0.length : Int) := of_decide_eq_true (by first | (with_reducible assumption) | assumption); obtain ⟨ad260, e260, hx260_0, hx260_1, hx260_2, hx260_3, hx260_4, hx260_5, hx260_6, hx260_7, hx260_8, hx260_9⟩ := at_T44 HR0.out a2 p260 q260; obtain rfl : ad252 = ad260 := (by injection e260); replace hx260_0 := (HB.out.cell (World.block_lt_of_cell? w _ hx260_0)).trans hx260_0; replace hx260_1 := (HB.out.cell (World.block_lt_of_cell? w _ hx260_1)).trans hx260_1; replace hx260_2 := (HB.out.cell (World.block_lt_of_cell? w _ hx260_2)).trans hx260_2; replace hx260_3 := (HB.out.cell (World.block_lt_of_cell? w _ hx260_3)).trans hx260_3; replace hx260_4 := (HB.out.cell (World.block_lt_of_cell? w _ hx260_4)).trans hx260_4; replace hx260_5 := (HB.out.cell (World.block_lt_of_cell? w _ hx260_5)).trans hx260_5; replace hx260_6 := (HB.out.cell (World.block_lt_of_cell? w _ hx260_6)).trans hx260_6; replace hx260_7 := (HB.out.cell (World.block_lt_of_cell? w _ hx260_7)).trans hx260_7; replace hx260_8 := (HB.out.cell (World.block_lt_of_cell? w _ hx260_8)).trans hx260_8; replace hx260_9 := (HB.out.cell (World.block_lt_of_cell? w _ hx260_9)).trans hx260_9; replace p260 := eq_true p260; replace q260 := eq_true q260)); try go_wp2_with (first | (go_at_call 32; (with_reducible refine (billiardref16_ChangeX.calls t257 ((rd_T44 l0 a2).f3) x15_22 t259 _ A43.out).mono ?_); rintro e w45 ⟨rfl, hb⟩; have n_ := kB3 BK248 BK253 BK256 HB (by repeat first | exact lR _ _ | apply lN | apply lD | apply lA) hb; clear BK248 BK253 BK256 HB; obtain ⟨BK248, BK253, BK256, HB⟩ := n_; (try clear hb); (try clear hb2); (try clear hk); (try clear hi); have hnb46 := N0_.out; have hnc46 := N1_.out; have hnb47 := N2_.out; have hnc47 := N3_.out; obtain ⟨hcz48_0, hcz48_1, hcz48_2, hcz48_3, hcz48_4, hfz48_0, hfz48_1, hfz48_2, hfz48_3, hfz48_4⟩ := kD5 BK248.out; have p260 : 0 ≤ (a2 : Int) := of_decide_eq_true (by first | (with_reducible assumption) | assumption); have q260 : a2 < (l0.length : Int) := of_decide_eq_true (by first | (with_reducible assumption) | assumption); obtain ⟨ad260, e260, hx260_0, hx260_1, hx260_2, hx260_3, hx260_4, hx260_5, hx260_6, hx260_7, hx260_8, hx260_9⟩ := at_T44 HR0.out a2 p260 q260; obtain rfl : ad252 = ad260 := (by injection e260); replace hx260_0 := (HB.out.cell (World.block_lt_of_cell? w _ hx260_0)).trans hx260_0; replace hx260_1 := (HB.out.cell (World.block_lt_of_cell? w _ hx260_1)).trans hx260_1; replace hx260_2 := (HB.out.cell (World.block_lt_of_cell? w _ hx260_2)).trans hx260_2; replace hx260_3 := (HB.out.cell (World.block_lt_of_cell? w _ hx260_3)).trans hx260_3; replace hx260_4 := (HB.out.cell (World.block_lt_of_cell? w _ hx260_4)).trans hx260_4; replace hx260_5 := (HB.out.cell (World.block_lt_of_cell? w _ hx260_5)).trans hx260_5; replace hx260_6 := (HB.out.cell (World.block_lt_of_cell? w _ hx260_6)).trans hx260_6; replace hx260_7 := (HB.out.cell (World.block_lt_of_cell? w _ hx260_7)).trans hx260_7; replace hx260_8 := (HB.out.cell (World.block_lt_of_cell? w _ hx260_8)).trans hx260_8; replace hx260_9 := (HB.out.cell (World.block_lt_of_cell? w _ hx260_9)).trans hx260_9; replace p260 := eq_true p260; replace q260 := eq_true q260)))
                 go_roundg kj22
                 case measure => have := HK1.out; have := HJ6.out; have := HJ22.out; omega
                 case rel => exact ⟨(wrap64 (x9_1 - t259)), (wrap64 (x10_1 + 1)), (by first | rfl | (simp; done) | (simp [*]; done)), (by first | rfl | (simp; done) | (simp [*]; done)), H', ⟨by have := HK1.out; have := HJ6.out; have := HJ22.out; omega⟩, ⟨by repeat (first | (with_reducible first | exact HB.out | apply lA | apply lN | apply lD | refine lS ?_ GE248.out | refine lS ?_ GE253.out | refine lS ?_ GE256.out) | exact HB.out)⟩⟩
                ·rw [if_neg c44] at H
                 have c44b0 : (((rd_T41 l1 x10_1).f0.f0) == ((rd_T44 l0 a2).f0)) = false := beq_eq_false_iff_ne.mpr c44
                 have c44b1 : (((rd_T41 l1 x10_1).f0.f0) != ((rd_T44 l0 a2).f0)) = true := bne_iff_ne.mpr c44
                 have H' := aM H
                 clear H
                 have p258 : 0 ≤ (a2 : Int) := of_decide_eq_true (by first | (with_reducible assumption) | assumption)
                 have q258 : a2 < (l0.length : Int) := of_decide_eq_true (by first | (with_reducible assumption) | assumption)
                 obtain ⟨ad258, e258, hx258_0, hx258_1, hx258_2, hx258_3, hx258_4, hx258_5, hx258_6, hx258_7, hx258_8, hx258_9⟩ := at_T44 HR0.out a2 p258 q258
                 obtain rfl : ad252 = ad258 := (by injection e258)
                 replace hx258_0 := (HB.out.cell (World.block_lt_of_cell? w _ hx258_0)).trans hx258_0
                 replace hx258_1 := (HB.out.cell (World.block_lt_of_cell? w _ hx258_1)).trans hx258_1
                 replace hx258_2 := (HB.out.cell (World.block_lt_of_cell? w _ hx258_2)).trans hx258_2
                 replace hx258_3 := (HB.out.cell (World.block_lt_of_cell? w _ hx258_3)).trans hx258_3
                 replace hx258_4 := (HB.out.cell (World.block_lt_of_cell? w _ hx258_4)).trans hx258_4
                 replace hx258_5 := (HB.out.cell (World.block_lt_of_cell? w _ hx258_5)).trans hx258_5
                 replace hx258_6 := (HB.out.cell (World.block_lt_of_cell? w _ hx258_6)).trans hx258_6
                 replace hx258_7 := (HB.out.cell (World.block_lt_of_cell? w _ hx258_7)).trans hx258_7
                 replace hx258_8 := (HB.out.cell (World.block_lt_of_cell? w _ hx258_8)).trans hx258_8
                 replace hx258_9 := (HB.out.cell (World.block_lt_of_cell? w _ hx258_9)).trans hx258_9
                 replace p258 := eq_true p258
                 replace q258 := eq_true q258
                 go_wp2_with (first | (go_at_call 32; (with_reducible refine (billiardref16_ChangeX.calls t257 ((rd_T44 l0 a2).f3) x15_22 t259 _ A43.out).mono ?_); rintro e w49 ⟨rfl, hb⟩; have n_ := kB3 BK248 BK253 BK256 HB (by repeat first | exact lR _ _ | apply lN | apply lD | apply lA) hb; clear BK248 BK253 BK256 HB; obtain ⟨BK248, BK253, BK256, HB⟩ := n_; (try clear hb); (try clear hb2); (try clear hk); (try clear hi); have hnb50 := N0_.out; have hnc50 := N1_.out; have hnb51 := N2_.out; have hnc51 := N3_.out; obtain ⟨hcz52_0, hcz52_1, hcz52_2, hcz52_3, hcz52_4, hfz52_0, hfz52_1, hfz52_2, hfz52_3, hfz52_4⟩ := kD5 BK248.out; have p260 : 0 ≤ (a2 : Int) := of_decide_eq_true (by first | (with_reducible assumption) | assumption); have q260 : a2 < (l0.length : Int) := of_decide_eq_true (by first | (with_reducible assumption) | assumption); obtain ⟨ad260, e260, hx260_0, hx260_1, hx260_2, hx260_3, hx260_4, hx260_5, hx260_6, hx260_7, hx260_8, hx260_9⟩ := at_T44 HR0.out a2 p260 q260; obtain rfl : ad252 = ad260 := (by injection e260); replace hx260_0 := (HB.out.cell (World.block_lt_of_cell? w _ hx260_0)).trans hx260_0; replace hx260_1 := (HB.out.cell (World.block_lt_of_cell? w _ hx260_1)).trans hx260_1; replace hx260_2 := (HB.out.cell (World.block_lt_of_cell? w _ hx260_2)).trans hx260_2; replace hx260_3 := (HB.out.cell (World.block_lt_of_cell? w _ hx260_3)).trans hx260_3; replace hx260_4 := (HB.out.cell (World.block_lt_of_cell? w _ hx260_4)).trans hx260_4; replace hx260_5 := (HB.out.cell (World.block_lt_of_cell? w _ hx260_5)).trans hx260_5; replace hx260_6 := (HB.out.cell (World.block_lt_of_cell? w _ hx260_6)).trans hx260_6; replace hx260_7 := (HB.out.cell (World.block_lt_of_cell? w _ hx260_7)).trans hx260_7; replace hx260_8 := (HB.out.cell (World.block_lt_of_cell? w _ hx260_8)).trans hx260_8; replace hx260_9 := (HB.out.cell (World.block_lt_of_cell? w _ hx260_9)).trans hx260_9; replace p260 := eq_true p260; replace q260 := eq_true q260))
                 repeat (go_quiet (first | (go_at_call 32; (with_reducible refine (billiardref16_ChangeX.calls t257 ((rd_T44 l0 a2).f3) x15_22 t259 _ A43.out).mono ?_); rintro e w49 ⟨rfl, hb⟩; have n_ := kB3 BK248 BK253 BK256 HB (by repeat first | exact lR _ _ | apply lN | apply lD | apply lA) hb; clear BK248 BK253 BK256 HB; obtain ⟨BK248, BK253, BK256, HB⟩ := n_; (try clear hb); (try clear hb2); (try clear hk); (try clear hi); have hnb50 := N0_.out; have hnc50 := N1_.out; have hnb51 := N2_.out; have hnc51 := N3_.out; obtain ⟨hcz52_0, hcz52_1, hcz52_2, hcz52_3, hcz52_4, hfz52_0, hfz52_1, hfz52_2, hfz52_3, hfz52_4⟩ := kD5 BK248.out; have p260 : 0 ≤ (a2 : Int) := of_decide_eq_true (by first | (with_reducible assumption) | assumption); have q260 : a2 < (l0.length : Int) := of_decide_eq_true (by first | (with_reducible assumption) | assumption); obtain ⟨ad260, e260, hx260_0, hx260_1, hx260_2, hx260_3, hx260_4, hx260_5, hx260_6, hx260_7, hx260_8, hx260_9⟩ := at_T44 HR0.out a2 p260 q260; obtain rfl : ad252 = ad260 := (by injection e260); replace hx260_0 := (HB.out.cell (World.block_lt_of_cell? w _ hx260_0)).trans hx260_0; replace hx260_1 := (HB.out.cell (World.block_lt_of_cell? w _ hx260_1)).trans hx260_1; replace hx260_2 := (HB.out.cell (World.block_lt_of_cell? w _ hx260_2)).trans hx260_2; replace hx260_3 := (HB.out.cell (World.block_lt_of_cell? w _ hx260_3)).trans hx260_3; replace hx260_4 := (HB.out.cell (World.block_lt_of_cell? w _ hx260_4)).trans hx260_4; replace hx260_5 := (HB.out.cell (World.block_lt_of_cell? w _ hx260_5)).trans hx260_5; replace hx260_6 := (HB.out.cell (World.block_lt_of_cell? w _ hx260_6)).trans hx260_6; replace hx260_7 := (HB.out.cell (World.block_lt_of_cell? w _ hx260_7)).trans hx260_7; replace hx260_8 := (HB.out.cell (World.block_lt_of_cell? w _ hx260_8)).trans hx260_8; replace hx260_9 := (HB.out.cell (World.block_lt_of_cell? w _ hx260_9)).trans hx260_9; replace p260 := eq_true p260; replace q260 := eq_true q260)); try go_wp2_with (first | (go_at_call 32; (with_reducible refine (billiardref16_ChangeX.calls t257 ((rd_T44 l0 a2).f3) x15_22 t259 _ A43.out).mono ?_); rintro e w49 ⟨rfl, hb⟩; have n_ := kB3 BK248 BK253 BK256 HB (by repeat first | exact lR _ _ | apply lN | apply lD | apply lA) hb; clear BK248 BK253 BK256 HB; obtain ⟨BK248, BK253, BK256, HB⟩ := n_; (try clear hb); (try clear hb2); (try clear hk); (try clear hi); have hnb50 := N0_.out; have hnc50 := N1_.out; have hnb51 := N2_.out; have hnc51 := N3_.out; obtain ⟨hcz52_0, hcz52_1, hcz52_2, hcz52_3, hcz52_4, hfz52_0, hfz52_1, hfz52_2, hfz52_3, hfz52_4⟩ := kD5 BK248.out; have p260 : 0 ≤ (a2 : Int) := of_decide_eq_true (by first | (with_reducible assumption) | assumption); have q260 : a2 < (l0.length : Int) := of_decide_eq_true (by first | (with_reducible assumption) | assumption); obtain ⟨ad260, e260, hx260_0, hx260_1, hx260_2, hx260_3, hx260_4, hx260_5, hx260_6, hx260_7, hx260_8, hx260_9⟩ := at_T44 HR0.out a2 p260 q260; obtain rfl : ad252 = ad260 := (by injection e260); replace hx260_0 := (HB.out.cell (World.block_lt_of_cell? w _ hx260_0)).trans hx260_0; replace hx260_1 := (HB.out.cell (World.block_lt_of_cell? w _ hx260_1)).trans hx260_1; replace hx260_2 := (HB.out.cell (World.block_lt_of_cell? w _ hx260_2)).trans hx260_2; replace hx260_3 := (HB.out.cell (World.block_lt_of_cell? w _ hx260_3)).trans hx260_3; replace hx260_4 := (HB.out.cell (World.block_lt_of_cell? w _ hx260_4)).trans hx260_4; replace hx260_5 := (HB.out.cell (World.block_lt_of_cell? w _ hx260_5)).trans hx260_5; replace hx260_6 := (HB.out.cell (World.block_lt_of_cell? w _ hx260_6)).trans hx260_6; replace hx260_7 := (HB.out.cell (World.block_lt_of_cell? w _ hx260_7)).trans hx260_7; replace hx260_8 := (HB.out.cell (World.block_lt_of_cell? w _ hx260_8)).trans hx260_8; replace hx260_9 := (HB.out.cell (World.block_lt_of_cell? w _ hx260_9)).trans hx260_9; replace p260 := eq_true p260; replace q260 := eq_true q260)))
                 go_roundg kj22
                 case measure => have := HK1.out; have := HJ6.out; have := HJ22.out; omega
                 case rel => exact ⟨(wrap64 (x9_1 + t259)), (wrap64 (x10_1 + 1)), (by first | rfl | (simp; done) | (simp [*]; done)), (by first | rfl | (simp; done) | (simp [*]; done)), H', ⟨by have := HK1.out; have := HJ6.out; have := HJ22.out; omega⟩, ⟨by repeat (first | (with_reducible first | exact HB.out | apply lA | apply lN | apply lD | refine lS ?_ GE248.out | refine lS ?_ GE253.out | refine lS ?_ GE256.out) | exact HB.out)⟩⟩
               ·rw [if_neg c42] at H
                exact absurd H (by simp)
              ·rw [if_neg c41] at H
               exact absurd H (by simp)
           ·rw [if_neg c21] at H
            exact absurd H (by simp)
          ·rw [if_neg c20] at H
           exact absurd H (by simp)
         ·rw [if_neg c18] at H
          exact absurd H (by simp)
        ·rw [if_neg c17] at H
         exact absurd H (by simp)
    ·rw [if_neg c6] at H
     exact absurd H (by simp)
   ·rw [if_neg c5] at H
    have c5b0 : decide (x10_1 < (l1.length : Int)) = false := decide_eq_false c5
    clear c5
    obtain rfl := Option.some.inj H
    go_wp2
    repeat (go_quiet (fail); try go_wp2)
    go_ret
    exact ⟨by first | rfl | (simp [errW_none, errW_some] <;> rfl) | (simp [*, errW_none, errW_some] <;> rfl), by repeat (first | (with_reducible first | exact HB.out | apply lA | apply lN | apply lD) | exact HB.out)⟩

end Go.Proofs.Ytcbdcgghccjdpaa.Q
