-- PRINTED by print.py (a twelfth state) out of the translation. Not trusted: Lean checks it.
import Derived.Test.YtcbdcgghccjdpaaQ0
import Derived.Test.YtcbdcgghccjdpaaMspec
import Derived.Test.YtcbdcgghccjdpaaQE2
import Derived.Test.YtcbdcgghccjdpaaQbilliardref05
namespace Go.Proofs.Ytcbdcgghccjdpaa.Q
open Go.RowKit Go.Proofs.YtcbdcgghccjdpaaW.PrintWords Go.Proofs.YtcbdcgghccjdpaaW.PrintLast Go.Proofs.YtcbdcgghccjdpaaW.PrintMore
open Go.Proofs.YtcbdcgghccjdpaaW.PrintWords renaming blk_drewN → bN, blk_drew → bD, blk_alloc → bA, blk_below → bB, blk_cell → bC, blk_frozen → bF, below_alloc → lA, pw_below_drewN → lN, below_drew1 → lD, below_set → lS, below_step → lT, below_size → lZ, Aside0.mk → aM
open Bool renaming true → T, false → F
attribute [local go_sem] max2_int min2_int max_two min_two max_three min_three max_four min_four   -- for this text's walks alone
set_option linter.unusedVariables false
set_option linter.unusedSimpArgs false

attribute [local go_sem high] eqA44
/-! ### billiardref06_Find: function 20 -/
def billiardref06_Find.l0 : Nat → List (S44) → Int → Int → Option (Int)
 | 0, _, _, _ => none
 | k + 1, x0, x1, x5 => if x5 < (x0.length : Int) then (if 0 ≤ x5 then (if ((rd_T44 x0 x5).f0) = x1 then (some x5) else (billiardref06_Find.l0 k x0 x1 (wrap64 (x5 + 1)))) else (none)) else (some (-1))
def billiardref06_Find.f (k : Nat) (l0 : List (S44)) (a1 : Int) : Option (Int) := billiardref06_Find.l0 k l0 a1 0
theorem billiardref06_Find.mono_l : ∀ k, (∀ y0 y1 y2, LeO (billiardref06_Find.l0 k y0 y1 y2) (billiardref06_Find.l0 (k + 1) y0 y1 y2))
 | 0 => fun _ _ _ r h => by simp [billiardref06_Find.l0] at h
 | k + 1 => by
  have ih0 := billiardref06_Find.mono_l k
  ·intro y0 y1 y2
   unfold billiardref06_Find.l0
   repeat' first
   | (with_reducible exact ih0 _ _ _)
   | (with_reducible exact LeO.refl _)
   | (with_reducible exact LeO.none _)
   | (with_reducible refine LeO.ite ?_ ?_)
   | (with_reducible refine LeO.bind ?_ (fun _ => ?_))
   | exact ih0 _ _ _
   | exact LeO.none _
   | refine LeO.ite ?_ ?_
   | refine LeO.bind ?_ (fun _ => ?_)
theorem billiardref06_Find.mono : ∀ a0 a1 k, LeO (billiardref06_Find.f k a0 a1) (billiardref06_Find.f (k + 1) a0 a1) := by
 intro a0 a1 k
 have ih0 := billiardref06_Find.mono_l k
 unfold billiardref06_Find.f
 repeat' first
   | (with_reducible exact ih0 _ _ _)
   | (with_reducible exact LeO.refl _)
   | (with_reducible exact LeO.none _)
   | (with_reducible refine LeO.ite ?_ ?_)
   | (with_reducible refine LeO.bind ?_ (fun _ => ?_))
   | exact ih0 _ _ _
   | exact LeO.none _
   | refine LeO.ite ?_ ?_
   | refine LeO.bind ?_ (fun _ => ?_)
set_option maxHeartbeats 8000000 in
set_option maxRecDepth 100000 in
theorem billiardref06_Find.calls (k : Nat) (A0 : Option Addr) (c0 : Nat) (l0 : List (S44)) (a1 : Int) (r : Int) (w : World) (hr0 : Kd.C k44 w A0 l0.length l0) (hc0 : l0.length ≤ c0) (h : billiardref06_Find.f k l0 a1 = some r) :
  Calls Try.prog 20 #[.slice A0 l0.length c0, .int .u32 a1] w fun e w' => e = .returned (.int .i64 r) ∧ Drawn0 w w' := by
 have HR0 := aM hr0
 have HC0 := aM hc0
 clear hr0 hc0
 have H : (billiardref06_Find.l0 k l0 a1 0) = some r := h
 clear h
 have H' := aM H
 clear H
 go_enter Try.func20, Try.ntmps20
 go_wp2
 go_loopg [5] k (fun kq v5 w' => ∃ (x5_1 : Int), v5 = .int .i64 x5_1 ∧ Aside0 (billiardref06_Find.l0 kq l0 a1 x5_1 = some r) ∧ Aside0 (kq ≤ k) ∧ Drawn0 w w')
 case atStart => exact ⟨(0), (by first | rfl | (simp; done) | (simp [*]; done)), H', ⟨Nat.le_refl _⟩, by repeat (first | exact Drawn0.refl _ | apply Drawn0.step)⟩
 case round =>
  clear H'
  try clear c2
  try clear p2
  obtain ⟨x5_1, rfl, HA, HK1, ⟨m1, rfl⟩⟩ := hrel
  cases gk with
  | zero => exact absurd HA.out (by simp [billiardref06_Find.l0])
  | succ k1 =>
   have H := HA.out
   clear HA
   simp only [billiardref06_Find.l0] at H
   by_cases c3 : x5_1 < (l0.length : Int)
   ·rw [if_pos c3] at H
    have c3b0 : decide (x5_1 < (l0.length : Int)) = true := decide_eq_true c3
    clear c3
    by_cases c4 : 0 ≤ x5_1
    ·rw [if_pos c4] at H
     have c4b0 : decide (0 ≤ x5_1) = true := decide_eq_true c4
     clear c4
     by_cases c5 : ((rd_T44 l0 x5_1).f0) = a1
     ·rw [if_pos c5] at H
      have c5b0 : (((rd_T44 l0 x5_1).f0) == a1) = true := beq_iff_eq.mpr c5
      have c5b1 : (((rd_T44 l0 x5_1).f0) != a1) = false := bne_eq_false_iff_eq.mpr c5
      clear c5
      obtain rfl := Option.some.inj H
      have p110 : 0 ≤ (x5_1 : Int) := of_decide_eq_true (by first | (with_reducible assumption) | assumption)
      have q110 : x5_1 < (l0.length : Int) := of_decide_eq_true (by first | (with_reducible assumption) | assumption)
      obtain ⟨ad110, e110, hx110_0, hx110_1, hx110_2, hx110_3, hx110_4, hx110_5, hx110_6, hx110_7, hx110_8, hx110_9⟩ := at_T44 HR0.out x5_1 p110 q110
      cases e110
      replace p110 := eq_true p110
      replace q110 := eq_true q110
      go_wp2
      go_ret
      exact ⟨by first | rfl | (simp; done) | (simp [*]; done), by repeat (first | exact Drawn0.refl _ | apply Drawn0.step)⟩
     ·rw [if_neg c5] at H
      have c5b0 : (((rd_T44 l0 x5_1).f0) == a1) = false := beq_eq_false_iff_ne.mpr c5
      have c5b1 : (((rd_T44 l0 x5_1).f0) != a1) = true := bne_iff_ne.mpr c5
      have H' := aM H
      clear H
      have p110 : 0 ≤ (x5_1 : Int) := of_decide_eq_true (by first | (with_reducible assumption) | assumption)
      have q110 : x5_1 < (l0.length : Int) := of_decide_eq_true (by first | (with_reducible assumption) | assumption)
      obtain ⟨ad110, e110, hx110_0, hx110_1, hx110_2, hx110_3, hx110_4, hx110_5, hx110_6, hx110_7, hx110_8, hx110_9⟩ := at_T44 HR0.out x5_1 p110 q110
      cases e110
      replace p110 := eq_true p110
      replace q110 := eq_true q110
      go_wp2
      go_roundg k1
      case measure => have := HK1.out; omega
      case rel => exact ⟨(wrap64 (x5_1 + 1)), (by first | rfl | (simp; done) | (simp [*]; done)), H', ⟨by have := HK1.out; omega⟩, by repeat (first | exact Drawn0.refl _ | apply Drawn0.step)⟩
    ·rw [if_neg c4] at H
     exact absurd H (by simp)
   ·rw [if_neg c3] at H
    have c3b0 : decide (x5_1 < (l0.length : Int)) = false := decide_eq_false c3
    clear c3
    obtain rfl := Option.some.inj H
    go_wp2
    go_ret
    exact ⟨by first | rfl | (simp; done) | (simp [*]; done), by repeat (first | exact Drawn0.refl _ | apply Drawn0.step)⟩

/-! ### billiardref06_Put: function 47 -/
mutual
def billiardref06_Put.l0 : Nat → List (S44) → List (S44) → Bool → Int → Int → Int → Int → Int → Int → Int → Int → Int → Int → Int → Option ((List (S44)))
 | 0, _, _, _, _, _, _, _, _, _, _, _, _, _, _ => none
 | k + 1, x0, x7, x8, x9, x112000, x112001, x112002, x112003, x112004, x112005, x112006, x112007, x112008, x112009 => if x9 < (x0.length : Int) then (if x8 = true then (billiardref06_Put.j1 k x0 x7 x8 x9 false x112000 x112001 x112002 x112003 x112004 x112005 x112006 x112007 x112008 x112009) else (if 0 ≤ x9 then (billiardref06_Put.j1 k x0 x7 x8 x9 (decide (((rd_T44 x0 x9).f0) ≥ x112000)) x112000 x112001 x112002 x112003 x112004 x112005 x112006 x112007 x112008 x112009) else (none))) else (if x8 = true then (some x7) else (if x7.length < 3518437208883 then (some (x7 ++ [(⟨x112000, x112001, (⟨x112002, x112003⟩ : S39), x112004, x112005, (⟨x112006, x112007⟩ : S39), (⟨x112008, x112009⟩ : S39)⟩ : S44)])) else (none)))
def billiardref06_Put.j1 : Nat → List (S44) → List (S44) → Bool → Int → Bool → Int → Int → Int → Int → Int → Int → Int → Int → Int → Int → Option ((List (S44)))
 | 0, _, _, _, _, _, _, _, _, _, _, _, _, _, _, _ => none
 | k + 1, x0, x7, x8, x9, x28, x112000, x112001, x112002, x112003, x112004, x112005, x112006, x112007, x112008, x112009 => if x28 = true then (if x7.length < 3518437208883 then ((some (x7 ++ [(⟨x112000, x112001, (⟨x112002, x112003⟩ : S39), x112004, x112005, (⟨x112006, x112007⟩ : S39), (⟨x112008, x112009⟩ : S39)⟩ : S44)] : List (S44))).bind fun y116 => (if 0 ≤ x9 then (if x9 < (x0.length : Int) then (if ((rd_T44 x0 x9).f0) = x112000 then (billiardref06_Put.l0 k x0 y116 true (wrap64 (x9 + 1)) x112000 x112001 x112002 x112003 x112004 x112005 x112006 x112007 x112008 x112009) else (if y116.length < 3518437208883 then (billiardref06_Put.l0 k x0 (y116 ++ [(⟨(rd_T44 x0 x9).f0, (rd_T44 x0 x9).f1, (⟨(rd_T44 x0 x9).f2.f0, (rd_T44 x0 x9).f2.f1⟩ : S39), (rd_T44 x0 x9).f3, (rd_T44 x0 x9).f4, (⟨(rd_T44 x0 x9).f5.f0, (rd_T44 x0 x9).f5.f1⟩ : S39), (⟨(rd_T44 x0 x9).f6.f0, (rd_T44 x0 x9).f6.f1⟩ : S39)⟩ : S44)]) true (wrap64 (x9 + 1)) x112000 x112001 x112002 x112003 x112004 x112005 x112006 x112007 x112008 x112009) else (none))) else (none)) else (none))) else (none)) else (if 0 ≤ x9 then (if x9 < (x0.length : Int) then (if ((rd_T44 x0 x9).f0) = x112000 then (billiardref06_Put.l0 k x0 x7 x8 (wrap64 (x9 + 1)) x112000 x112001 x112002 x112003 x112004 x112005 x112006 x112007 x112008 x112009) else (if x7.length < 3518437208883 then (billiardref06_Put.l0 k x0 (x7 ++ [(⟨(rd_T44 x0 x9).f0, (rd_T44 x0 x9).f1, (⟨(rd_T44 x0 x9).f2.f0, (rd_T44 x0 x9).f2.f1⟩ : S39), (rd_T44 x0 x9).f3, (rd_T44 x0 x9).f4, (⟨(rd_T44 x0 x9).f5.f0, (rd_T44 x0 x9).f5.f1⟩ : S39), (⟨(rd_T44 x0 x9).f6.f0, (rd_T44 x0 x9).f6.f1⟩ : S39)⟩ : S44)]) x8 (wrap64 (x9 + 1)) x112000 x112001 x112002 x112003 x112004 x112005 x112006 x112007 x112008 x112009) else (none))) else (none)) else (none))
end
def billiardref06_Put.f (k : Nat) (l0 : List (S44)) (a1_0 : Int) (a1_1 : Int) (a1_2 : Int) (a1_3 : Int) (a1_4 : Int) (a1_5 : Int) (a1_6 : Int) (a1_7 : Int) (a1_8 : Int) (a1_9 : Int) (a2 : Bool) : Option ((List (S44))) := billiardref06_Put.l0 k l0 ([] : List (S44)) a2 0 a1_0 a1_1 a1_2 a1_3 a1_4 a1_5 a1_6 a1_7 a1_8 a1_9
theorem billiardref06_Put.mono_l : ∀ k, (∀ y0 y1 y2 y3 y4 y5 y6 y7 y8 y9 y10 y11 y12 y13, LeO (billiardref06_Put.l0 k y0 y1 y2 y3 y4 y5 y6 y7 y8 y9 y10 y11 y12 y13) (billiardref06_Put.l0 (k + 1) y0 y1 y2 y3 y4 y5 y6 y7 y8 y9 y10 y11 y12 y13)) ∧ (∀ y0 y1 y2 y3 y4 y5 y6 y7 y8 y9 y10 y11 y12 y13 y14, LeO (billiardref06_Put.j1 k y0 y1 y2 y3 y4 y5 y6 y7 y8 y9 y10 y11 y12 y13 y14) (billiardref06_Put.j1 (k + 1) y0 y1 y2 y3 y4 y5 y6 y7 y8 y9 y10 y11 y12 y13 y14))
 | 0 => ⟨fun _ _ _ _ _ _ _ _ _ _ _ _ _ _ r h => by simp [billiardref06_Put.l0] at h, fun _ _ _ _ _ _ _ _ _ _ _ _ _ _ _ r h => by simp [billiardref06_Put.j1] at h⟩
 | k + 1 => by
  obtain ⟨ih0, ih1⟩ := billiardref06_Put.mono_l k
  refine ⟨?_, ?_⟩
  ·intro y0 y1 y2 y3 y4 y5 y6 y7 y8 y9 y10 y11 y12 y13
   unfold billiardref06_Put.l0
   repeat' first
   | (with_reducible exact ih0 _ _ _ _ _ _ _ _ _ _ _ _ _ _)
   | (with_reducible exact ih1 _ _ _ _ _ _ _ _ _ _ _ _ _ _ _)
   | (with_reducible exact LeO.refl _)
   | (with_reducible exact LeO.none _)
   | (with_reducible refine LeO.ite ?_ ?_)
   | (with_reducible refine LeO.bind ?_ (fun _ => ?_))
   | exact ih0 _ _ _ _ _ _ _ _ _ _ _ _ _ _
   | exact ih1 _ _ _ _ _ _ _ _ _ _ _ _ _ _ _
   | exact LeO.none _
   | refine LeO.ite ?_ ?_
   | refine LeO.bind ?_ (fun _ => ?_)
  ·intro y0 y1 y2 y3 y4 y5 y6 y7 y8 y9 y10 y11 y12 y13 y14
   unfold billiardref06_Put.j1
   repeat' first
   | (with_reducible exact ih0 _ _ _ _ _ _ _ _ _ _ _ _ _ _)
   | (with_reducible exact ih1 _ _ _ _ _ _ _ _ _ _ _ _ _ _ _)
   | (with_reducible exact LeO.refl _)
   | (with_reducible exact LeO.none _)
   | (with_reducible refine LeO.ite ?_ ?_)
   | (with_reducible refine LeO.bind ?_ (fun _ => ?_))
   | exact ih0 _ _ _ _ _ _ _ _ _ _ _ _ _ _
   | exact ih1 _ _ _ _ _ _ _ _ _ _ _ _ _ _ _
   | exact LeO.none _
   | refine LeO.ite ?_ ?_
   | refine LeO.bind ?_ (fun _ => ?_)
theorem billiardref06_Put.mono : ∀ a0 a1 a2 a3 a4 a5 a6 a7 a8 a9 a10 a11 k, LeO (billiardref06_Put.f k a0 a1 a2 a3 a4 a5 a6 a7 a8 a9 a10 a11) (billiardref06_Put.f (k + 1) a0 a1 a2 a3 a4 a5 a6 a7 a8 a9 a10 a11) := by
 intro a0 a1 a2 a3 a4 a5 a6 a7 a8 a9 a10 a11 k
 obtain ⟨ih0, ih1⟩ := billiardref06_Put.mono_l k
 unfold billiardref06_Put.f
 repeat' first
   | (with_reducible exact ih0 _ _ _ _ _ _ _ _ _ _ _ _ _ _)
   | (with_reducible exact ih1 _ _ _ _ _ _ _ _ _ _ _ _ _ _ _)
   | (with_reducible exact LeO.refl _)
   | (with_reducible exact LeO.none _)
   | (with_reducible refine LeO.ite ?_ ?_)
   | (with_reducible refine LeO.bind ?_ (fun _ => ?_))
   | exact ih0 _ _ _ _ _ _ _ _ _ _ _ _ _ _
   | exact ih1 _ _ _ _ _ _ _ _ _ _ _ _ _ _ _
   | exact LeO.none _
   | refine LeO.ite ?_ ?_
   | refine LeO.bind ?_ (fun _ => ?_)
set_option maxHeartbeats 8000000 in
set_option maxRecDepth 100000 in
theorem billiardref06_Put.calls (k : Nat) (A0 : Option Addr) (c0 : Nat) (l0 : List (S44)) (a1_0 : Int) (a1_1 : Int) (a1_2 : Int) (a1_3 : Int) (a1_4 : Int) (a1_5 : Int) (a1_6 : Int) (a1_7 : Int) (a1_8 : Int) (a1_9 : Int) (a2 : Bool) (r : List (S44)) (w : World) (hr0 : Kd.C k44 w A0 l0.length l0) (hc0 : l0.length ≤ c0) (h : billiardref06_Put.f k l0 a1_0 a1_1 a1_2 a1_3 a1_4 a1_5 a1_6 a1_7 a1_8 a1_9 a2 = some r) :
  Calls Try.prog 47 #[.slice A0 l0.length c0, .agg #[.int .u32 a1_0, .int .i32 a1_1, .int .i32 a1_2, .int .i32 a1_3, .int .i32 a1_4, .int .i32 a1_5, .int .i32 a1_6, .int .i32 a1_7, .int .i32 a1_8, .int .i32 a1_9], .bool a2] w fun e w' => ∃ v0_ : Value, e = .returned (v0_) ∧ Kd.R k44 44 w' w.heap.size (fun _ => True) v0_ r ∧ Below w.heap.size w w' := by
 have hu44 := Try.underlying44
 have HR0 := aM hr0
 have HC0 := aM hc0
 clear hr0 hc0
 have HB := aM (Below.refl w.heap.size w)
 have H : (billiardref06_Put.l0 k l0 ([] : List (S44)) a2 0 a1_0 a1_1 a1_2 a1_3 a1_4 a1_5 a1_6 a1_7 a1_8 a1_9) = some r := h
 clear h
 have H' := aM H
 clear H
 go_enter Try.func47, Try.ntmps47
 go_wp2_with (first | ((with_reducible refine gate_dst (N := 4) rfl ?_); refine box_event ?hg (N := 4) ?hd (cs := #[.int .u32 a1_0, .int .i32 a1_1, .int .i32 a1_2, .int .i32 a1_3, .int .i32 a1_4, .int .i32 a1_5, .int .i32 a1_6, .int .i32 a1_7, .int .i32 a1_8, .int .i32 a1_9]) (t := 44) ?hr ?_; (case hd => rfl); (case hg => rfl); (case hr => first | (go_simp; done) | (go_simp; rfl)); intro b111 hg w4 hbox hb; have n0_ := aM (lT (by repeat (first | (with_reducible first | exact HB.out | apply lA | apply lN | apply lD) | exact HB.out)) hb); have n1_ := aM (hbox); have n2_ := aM ((by rw [hg]; exact (lZ (by repeat (first | (with_reducible first | exact HB.out | apply lA | apply lN | apply lD) | exact HB.out))) : w.heap.size ≤ b111)); have n3_ := aM ((by rw [hg]; exact (lZ (by repeat (first | (with_reducible first | exact HB.out | apply lA | apply lN | apply lD) | exact HB.out))) : w.heap.size ≤ b111)); clear HB; have HB := n0_; have BK111 := n1_; have GW111 := n2_; have GE111 := n3_; clear n0_ n1_ n2_ n3_; clear hb hbox hg))
 repeat (go_quiet (first | ((with_reducible refine gate_dst (N := 4) rfl ?_); refine box_event ?hg (N := 4) ?hd (cs := #[.int .u32 a1_0, .int .i32 a1_1, .int .i32 a1_2, .int .i32 a1_3, .int .i32 a1_4, .int .i32 a1_5, .int .i32 a1_6, .int .i32 a1_7, .int .i32 a1_8, .int .i32 a1_9]) (t := 44) ?hr ?_; (case hd => rfl); (case hg => rfl); (case hr => first | (go_simp; done) | (go_simp; rfl)); intro b111 hg w4 hbox hb; have n0_ := aM (lT (by repeat (first | (with_reducible first | exact HB.out | apply lA | apply lN | apply lD) | exact HB.out)) hb); have n1_ := aM (hbox); have n2_ := aM ((by rw [hg]; exact (lZ (by repeat (first | (with_reducible first | exact HB.out | apply lA | apply lN | apply lD) | exact HB.out))) : w.heap.size ≤ b111)); have n3_ := aM ((by rw [hg]; exact (lZ (by repeat (first | (with_reducible first | exact HB.out | apply lA | apply lN | apply lD) | exact HB.out))) : w.heap.size ≤ b111)); clear HB; have HB := n0_; have BK111 := n1_; have GW111 := n2_; have GE111 := n3_; clear n0_ n1_ n2_ n3_; clear hb hbox hg)); try go_wp2_with (first | ((with_reducible refine gate_dst (N := 4) rfl ?_); refine box_event ?hg (N := 4) ?hd (cs := #[.int .u32 a1_0, .int .i32 a1_1, .int .i32 a1_2, .int .i32 a1_3, .int .i32 a1_4, .int .i32 a1_5, .int .i32 a1_6, .int .i32 a1_7, .int .i32 a1_8, .int .i32 a1_9]) (t := 44) ?hr ?_; (case hd => rfl); (case hg => rfl); (case hr => first | (go_simp; done) | (go_simp; rfl)); intro b111 hg w4 hbox hb; have n0_ := aM (lT (by repeat (first | (with_reducible first | exact HB.out | apply lA | apply lN | apply lD) | exact HB.out)) hb); have n1_ := aM (hbox); have n2_ := aM ((by rw [hg]; exact (lZ (by repeat (first | (with_reducible first | exact HB.out | apply lA | apply lN | apply lD) | exact HB.out))) : w.heap.size ≤ b111)); have n3_ := aM ((by rw [hg]; exact (lZ (by repeat (first | (with_reducible first | exact HB.out | apply lA | apply lN | apply lD) | exact HB.out))) : w.heap.size ≤ b111)); clear HB; have HB := n0_; have BK111 := n1_; have GW111 := n2_; have GE111 := n3_; clear n0_ n1_ n2_ n3_; clear hb hbox hg)))
 go_loopg [7, 8, 9] k (fun kq v7 v8 v9 w' => ∃ (x7_1 : List (S44)) (x8_1 : Bool) (x9_1 : Int), v8 = .bool x8_1 ∧ v9 = .int .i64 x9_1 ∧ Aside0 (billiardref06_Put.l0 kq l0 x7_1 x8_1 x9_1 a1_0 a1_1 a1_2 a1_3 a1_4 a1_5 a1_6 a1_7 a1_8 a1_9 = some r) ∧ Aside0 (kq ≤ k) ∧ Aside0 (Kd.R k44 44 w' w.heap.size (fun k_ => k_ ≠ b111) v7 x7_1) ∧ Aside0 (w'.heap[b111]? = some (.cells #[.int .u32 a1_0, .int .i32 a1_1, .int .i32 a1_2, .int .i32 a1_3, .int .i32 a1_4, .int .i32 a1_5, .int .i32 a1_6, .int .i32 a1_7, .int .i32 a1_8, .int .i32 a1_9] 44 (0, 0))) ∧ Aside0 (Below w.heap.size w w'))
 case atStart => exact ⟨(([] : List (S44))), (a2), (0), (by first | rfl | (simp; done) | (simp [*]; done)), (by first | rfl | (simp; done) | (simp [*]; done)), H', ⟨Nat.le_refl _⟩, ⟨by first | exact Kd.R_nil _ _ _ _ _ | exact Kd.N_nil _ _ _ _ _ | exact Kd.V_nil _ _ _ _ _ | exact Kd.Q_nil _ _ _ _ _ | exact Kd.S_nil _ _ _ _ _⟩, ⟨by (with_reducible repeat first | apply bN | apply bD | apply bA); exact BK111.out⟩, ⟨by repeat (first | (with_reducible first | exact HB.out | apply lA | apply lN | apply lD | refine lS ?_ GE111.out) | exact HB.out)⟩⟩
 case round =>
  clear H'
  try clear p2
  try clear c4
  obtain ⟨x7_1, x8_1, x9_1, rfl, rfl, HA, HK1, HO_7, BK111, HB⟩ := hrel
  cases gk with
  | zero => exact absurd HA.out (by simp [billiardref06_Put.l0])
  | succ k1 =>
   have H := HA.out
   clear HA
   simp only [billiardref06_Put.l0] at H
   by_cases c5 : x9_1 < (l0.length : Int)
   ·rw [if_pos c5] at H
    have c5b0 : decide (x9_1 < (l0.length : Int)) = true := decide_eq_true c5
    clear c5
    have HC6 := aM H
    clear H
    go_upto_region 6 with (fail)
    repeat (go_quiet (fail); go_upto_region 6 with (fail))
    go_cut [28] (fun v28 wc => ∃ (kq : Nat) (x28_5 : Bool), v28 = .bool x28_5 ∧ Aside0 (billiardref06_Put.j1 kq l0 x7_1 x8_1 x9_1 x28_5 a1_0 a1_1 a1_2 a1_3 a1_4 a1_5 a1_6 a1_7 a1_8 a1_9 = some r) ∧ Aside0 (kq ≤ k1) ∧ Aside0 (Kd.R k44 44 wc w.heap.size (fun k_ => k_ ≠ b111) u7 x7_1) ∧ Aside0 (wc.heap[b111]? = some (.cells #[.int .u32 a1_0, .int .i32 a1_1, .int .i32 a1_2, .int .i32 a1_3, .int .i32 a1_4, .int .i32 a1_5, .int .i32 a1_6, .int .i32 a1_7, .int .i32 a1_8, .int .i32 a1_9] 44 (0, 0))) ∧ Aside0 (Below w.heap.size w wc))
    case first =>
     have H := HC6.out
     clear HC6
     by_cases c7 : x8_1 = true
     ·subst c7
      rw [if_pos rfl] at H
      have H' := aM H
      clear H
      go_wp2
      repeat (go_quiet (fail); try go_wp2)
      go_meet
      case rel => exact ⟨_, (false), (by first | rfl | (simp; done) | (simp [*]; done)), H', ⟨by have := HK1.out; first | omega | exact Nat.le_refl _⟩, ⟨by (with_reducible repeat (first | apply Kd.R_alloc | apply Kd.R_drewN | apply Kd.R_drew)); exact HO_7.out⟩, ⟨by (with_reducible repeat first | apply bN | apply bD | apply bA); exact BK111.out⟩, ⟨by repeat (first | (with_reducible first | exact HB.out | apply lA | apply lN | apply lD | refine lS ?_ GE111.out) | exact HB.out)⟩⟩
     ·replace c7 := Bool.eq_false_iff.mpr c7
      subst c7
      rw [if_neg (show ¬ (false = true) by decide)] at H
      by_cases c8 : 0 ≤ x9_1
      ·rw [if_pos c8] at H
       have c8b0 : decide (0 ≤ x9_1) = true := decide_eq_true c8
       clear c8
       (first | rw [c8b0] | (simp only [i64_w, i32_w]; rw [c8b0]) | skip)
       have H' := aM H
       clear H
       have p115 : 0 ≤ (x9_1 : Int) := of_decide_eq_true (by first | (with_reducible assumption) | assumption)
       have q115 : x9_1 < (l0.length : Int) := of_decide_eq_true (by first | (with_reducible assumption) | assumption)
       obtain ⟨ad115, e115, hx115_0, hx115_1, hx115_2, hx115_3, hx115_4, hx115_5, hx115_6, hx115_7, hx115_8, hx115_9⟩ := at_T44 HR0.out x9_1 p115 q115
       cases e115
       replace hx115_0 := (HB.out.cell (World.block_lt_of_cell? w _ hx115_0)).trans hx115_0
       replace hx115_1 := (HB.out.cell (World.block_lt_of_cell? w _ hx115_1)).trans hx115_1
       replace hx115_2 := (HB.out.cell (World.block_lt_of_cell? w _ hx115_2)).trans hx115_2
       replace hx115_3 := (HB.out.cell (World.block_lt_of_cell? w _ hx115_3)).trans hx115_3
       replace hx115_4 := (HB.out.cell (World.block_lt_of_cell? w _ hx115_4)).trans hx115_4
       replace hx115_5 := (HB.out.cell (World.block_lt_of_cell? w _ hx115_5)).trans hx115_5
       replace hx115_6 := (HB.out.cell (World.block_lt_of_cell? w _ hx115_6)).trans hx115_6
       replace hx115_7 := (HB.out.cell (World.block_lt_of_cell? w _ hx115_7)).trans hx115_7
       replace hx115_8 := (HB.out.cell (World.block_lt_of_cell? w _ hx115_8)).trans hx115_8
       replace hx115_9 := (HB.out.cell (World.block_lt_of_cell? w _ hx115_9)).trans hx115_9
       replace p115 := eq_true p115
       replace q115 := eq_true q115
       have hcz9_0 : wr.cell? ⟨b111, 0, none⟩ = some (.int .u32 a1_0) := (bC BK111.out 0).trans rfl
       have hcz9_1 : wr.cell? ⟨b111, 1, none⟩ = some (.int .i32 a1_1) := (bC BK111.out 1).trans rfl
       have hcz9_2 : wr.cell? ⟨b111, 2, none⟩ = some (.int .i32 a1_2) := (bC BK111.out 2).trans rfl
       have hcz9_3 : wr.cell? ⟨b111, 3, none⟩ = some (.int .i32 a1_3) := (bC BK111.out 3).trans rfl
       have hcz9_4 : wr.cell? ⟨b111, 4, none⟩ = some (.int .i32 a1_4) := (bC BK111.out 4).trans rfl
       have hcz9_5 : wr.cell? ⟨b111, 5, none⟩ = some (.int .i32 a1_5) := (bC BK111.out 5).trans rfl
       have hcz9_6 : wr.cell? ⟨b111, 6, none⟩ = some (.int .i32 a1_6) := (bC BK111.out 6).trans rfl
       have hcz9_7 : wr.cell? ⟨b111, 7, none⟩ = some (.int .i32 a1_7) := (bC BK111.out 7).trans rfl
       have hcz9_8 : wr.cell? ⟨b111, 8, none⟩ = some (.int .i32 a1_8) := (bC BK111.out 8).trans rfl
       have hcz9_9 : wr.cell? ⟨b111, 9, none⟩ = some (.int .i32 a1_9) := (bC BK111.out 9).trans rfl
       have hfz9_0 := bF BK111.out 0
       have hfz9_1 := bF BK111.out 1
       have hfz9_2 := bF BK111.out 2
       have hfz9_3 := bF BK111.out 3
       have hfz9_4 := bF BK111.out 4
       have hfz9_5 := bF BK111.out 5
       have hfz9_6 := bF BK111.out 6
       have hfz9_7 := bF BK111.out 7
       have hfz9_8 := bF BK111.out 8
       have hfz9_9 := bF BK111.out 9
       go_wp2
       repeat (go_quiet (fail); try go_wp2)
       go_meet
       case rel => exact ⟨_, (decide (((rd_T44 l0 x9_1).f0) ≥ a1_0)), (by first | rfl | (simp; done) | (simp [*]; done)), H', ⟨by have := HK1.out; first | omega | exact Nat.le_refl _⟩, ⟨by (with_reducible repeat (first | apply Kd.R_alloc | apply Kd.R_drewN | apply Kd.R_drew)); exact HO_7.out⟩, ⟨by (with_reducible repeat first | apply bN | apply bD | apply bA); exact BK111.out⟩, ⟨by repeat (first | (with_reducible first | exact HB.out | apply lA | apply lN | apply lD | refine lS ?_ GE111.out) | exact HB.out)⟩⟩
      ·rw [if_neg c8] at H
       exact absurd H (by simp)
    case rest =>
     clear HC6
     try clear p1
     try clear q1
     try clear hx1
     try clear p2
     try clear c4
     try clear c5
     try clear c5b0
     try clear c7
     try clear c8
     try clear c8b0
     try clear hcz9_0
     try clear hcz9_1
     try clear hcz9_2
     try clear hcz9_3
     try clear hcz9_4
     try clear hcz9_5
     try clear hcz9_6
     try clear hcz9_7
     try clear hcz9_8
     try clear hcz9_9
     try clear hfz9_0
     try clear hfz9_1
     try clear hfz9_2
     try clear hfz9_3
     try clear hfz9_4
     try clear hfz9_5
     try clear hfz9_6
     try clear hfz9_7
     try clear hfz9_8
     try clear hfz9_9
     try clear hx115_0
     try clear hx115_1
     try clear hx115_2
     try clear hx115_3
     try clear hx115_4
     try clear hx115_5
     try clear hx115_6
     try clear hx115_7
     try clear hx115_8
     try clear hx115_9
     try clear p115
     try clear p2
     try clear q115
     obtain ⟨kq, x28_5, rfl, HA, HJ5, HO_7, BK111, HB⟩ := hcut
     cases kq with
     | zero => exact absurd HA.out (by simp [billiardref06_Put.j1])
     | succ kj5 =>
      have H := HA.out
      clear HA
      simp only [billiardref06_Put.j1] at H
      by_cases c10 : x28_5 = true
      ·subst c10
       rw [if_pos rfl] at H
       by_cases c11 : x7_1.length < 3518437208883
       ·rw [if_pos c11] at H
        have LMc11 := aM c11
        clear c11
        obtain ⟨y116, hy116⟩ : ∃ y_ : List (S44), y_ = (x7_1 ++ [(⟨a1_0, a1_1, (⟨a1_2, a1_3⟩ : S39), a1_4, a1_5, (⟨a1_6, a1_7⟩ : S39), (⟨a1_8, a1_9⟩ : S39)⟩ : S44)]) := ⟨_, rfl⟩
        replace H : (if 0 ≤ x9_1 then (if x9_1 < (l0.length : Int) then (if ((rd_T44 l0 x9_1).f0) = a1_0 then (billiardref06_Put.l0 kj5 l0 y116 true (wrap64 (x9_1 + 1)) a1_0 a1_1 a1_2 a1_3 a1_4 a1_5 a1_6 a1_7 a1_8 a1_9) else (if y116.length < 3518437208883 then (billiardref06_Put.l0 kj5 l0 (y116 ++ [(⟨(rd_T44 l0 x9_1).f0, (rd_T44 l0 x9_1).f1, (⟨(rd_T44 l0 x9_1).f2.f0, (rd_T44 l0 x9_1).f2.f1⟩ : S39), (rd_T44 l0 x9_1).f3, (rd_T44 l0 x9_1).f4, (⟨(rd_T44 l0 x9_1).f5.f0, (rd_T44 l0 x9_1).f5.f1⟩ : S39), (⟨(rd_T44 l0 x9_1).f6.f0, (rd_T44 l0 x9_1).f6.f1⟩ : S39)⟩ : S44)]) true (wrap64 (x9_1 + 1)) a1_0 a1_1 a1_2 a1_3 a1_4 a1_5 a1_6 a1_7 a1_8 a1_9) else (none))) else (none)) else (none)) = some r := by first | (rw [hy116]; with_reducible exact H) | (have H2_ := (Option.bind_some _ _).symm.trans H; rw [hy116]; with_reducible exact H2_) | (have H2_ := (Option.bind_some _ _).symm.trans H; with_reducible exact H2_) | with_reducible exact H | (rw [hy116]; exact H) | exact H
        have Ny116 := aM hy116
        clear hy116
        by_cases c12 : 0 ≤ x9_1
        ·rw [if_pos c12] at H
         have c12b0 : decide (0 ≤ x9_1) = true := decide_eq_true c12
         clear c12
         by_cases c13 : x9_1 < (l0.length : Int)
         ·rw [if_pos c13] at H
          have c13b0 : decide (x9_1 < (l0.length : Int)) = true := decide_eq_true c13
          clear c13
          by_cases c14 : ((rd_T44 l0 x9_1).f0) = a1_0
          ·rw [if_pos c14] at H
           have c14b0 : (((rd_T44 l0 x9_1).f0) == a1_0) = true := beq_iff_eq.mpr c14
           have c14b1 : (((rd_T44 l0 x9_1).f0) != a1_0) = false := bne_eq_false_iff_eq.mpr c14
           clear c14
           have H' := aM H
           clear H
           have hcz15_0 : wc.cell? ⟨b111, 0, none⟩ = some (.int .u32 a1_0) := (bC BK111.out 0).trans rfl
           have hcz15_1 : wc.cell? ⟨b111, 1, none⟩ = some (.int .i32 a1_1) := (bC BK111.out 1).trans rfl
           have hcz15_2 : wc.cell? ⟨b111, 2, none⟩ = some (.int .i32 a1_2) := (bC BK111.out 2).trans rfl
           have hcz15_3 : wc.cell? ⟨b111, 3, none⟩ = some (.int .i32 a1_3) := (bC BK111.out 3).trans rfl
           have hcz15_4 : wc.cell? ⟨b111, 4, none⟩ = some (.int .i32 a1_4) := (bC BK111.out 4).trans rfl
           have hcz15_5 : wc.cell? ⟨b111, 5, none⟩ = some (.int .i32 a1_5) := (bC BK111.out 5).trans rfl
           have hcz15_6 : wc.cell? ⟨b111, 6, none⟩ = some (.int .i32 a1_6) := (bC BK111.out 6).trans rfl
           have hcz15_7 : wc.cell? ⟨b111, 7, none⟩ = some (.int .i32 a1_7) := (bC BK111.out 7).trans rfl
           have hcz15_8 : wc.cell? ⟨b111, 8, none⟩ = some (.int .i32 a1_8) := (bC BK111.out 8).trans rfl
           have hcz15_9 : wc.cell? ⟨b111, 9, none⟩ = some (.int .i32 a1_9) := (bC BK111.out 9).trans rfl
           have hfz15_0 := bF BK111.out 0
           have hfz15_1 := bF BK111.out 1
           have hfz15_2 := bF BK111.out 2
           have hfz15_3 := bF BK111.out 3
           have hfz15_4 := bF BK111.out 4
           have hfz15_5 := bF BK111.out 5
           have hfz15_6 := bF BK111.out 6
           have hfz15_7 := bF BK111.out 7
           have hfz15_8 := bF BK111.out 8
           have hfz15_9 := bF BK111.out 9
           go_wp2_with (first | ((with_reducible refine gate_builtin (b := .append) (xs := #[.tmp 29, .tmp 31]) rfl ?_); at_builtin; refine Kd.R_append k44 (w0 := w) w.heap.size rfl (.tmp 29) (.tmp 31) 22 44 (.agg #[(.int .u32 0), (.int .i32 0), (.int .i32 0), (.int .i32 0), (.int .i32 0), (.int .i32 0), (.int .i32 0), (.int .i32 0), (.int .i32 0), (.int .i32 0)]) 40 rfl Try.underlying22 info44 rfl (by decide) (by omega) u7 x7_1 (⟨a1_0, a1_1, (⟨a1_2, a1_3⟩ : S39), a1_4, a1_5, (⟨a1_6, a1_7⟩ : S39), (⟨a1_8, a1_9⟩ : S39)⟩ : S44) [.int .u32 a1_0, .int .i32 a1_1, .int .i32 a1_2, .int .i32 a1_3, .int .i32 a1_4, .int .i32 a1_5, .int .i32 a1_6, .int .i32 a1_7, .int .i32 a1_8, .int .i32 a1_9] (fun k_ => k_ ≠ b111) (fun _ => False) rfl rfl ?aP (fun _ hk => hk.elim) ?aF ?aO ?aB ?aS ?aL ?_; (case aP => exact k44_mkM _ _ _ (⟨a1_0, a1_1, (⟨a1_2, a1_3⟩ : S39), a1_4, a1_5, (⟨a1_6, a1_7⟩ : S39), (⟨a1_8, a1_9⟩ : S39)⟩ : S44)); (case aB => exact (by repeat (first | (with_reducible first | exact HB.out | apply lA | apply lN | apply lD | refine lS ?_ GE111.out) | exact HB.out))); (case aF => exact (fun k_ hk => Kd.freshB (g := b111) (o := .cells #[.int .u32 a1_0, .int .i32 a1_1, .int .i32 a1_2, .int .i32 a1_3, .int .i32 a1_4, .int .i32 a1_5, .int .i32 a1_6, .int .i32 a1_7, .int .i32 a1_8, .int .i32 a1_9] 44 (0, 0)) (by (with_reducible repeat first | apply bN | apply bD | apply bA); exact BK111.out) k_ hk)); (case aO => exact (by (with_reducible repeat (first | apply Kd.R_alloc | apply Kd.R_drewN | apply Kd.R_drew)); exact HO_7.out)); (case aS => exact (lZ (by repeat (first | (with_reducible first | exact HB.out | apply lA | apply lN | apply lD | refine lS ?_ GE111.out) | exact HB.out)))); (case aL => have := LMc11.out; omega); intro v117 w16 ho hb hg hat; rw [← Ny116.out] at ho; have n0_ := aM (blk_grown (g := b111) (o := .cells #[.int .u32 a1_0, .int .i32 a1_1, .int .i32 a1_2, .int .i32 a1_3, .int .i32 a1_4, .int .i32 a1_5, .int .i32 a1_6, .int .i32 a1_7, .int .i32 a1_8, .int .i32 a1_9] 44 (0, 0)) (by (with_reducible repeat first | apply bN | apply bD | apply bA); exact BK111.out) hg (Kd.R_away HO_7.out (fun _ hk => hk))); have n1_ := aM (hb); have n2_ := aM (ho); clear BK111; clear HB; clear HO_7; have BK111 := n0_; have HB := n1_; have HO118 := n2_; clear n0_ n1_ n2_; clear ho hb hg hat; have p119 : 0 ≤ (x9_1 : Int) := of_decide_eq_true (by first | (with_reducible assumption) | assumption); have q119 : x9_1 < (l0.length : Int) := of_decide_eq_true (by first | (with_reducible assumption) | assumption); obtain ⟨ad119, e119, hx119_0, hx119_1, hx119_2, hx119_3, hx119_4, hx119_5, hx119_6, hx119_7, hx119_8, hx119_9⟩ := at_T44 HR0.out x9_1 p119 q119; cases e119; replace hx119_0 := (HB.out.cell (World.block_lt_of_cell? w _ hx119_0)).trans hx119_0; replace hx119_1 := (HB.out.cell (World.block_lt_of_cell? w _ hx119_1)).trans hx119_1; replace hx119_2 := (HB.out.cell (World.block_lt_of_cell? w _ hx119_2)).trans hx119_2; replace hx119_3 := (HB.out.cell (World.block_lt_of_cell? w _ hx119_3)).trans hx119_3; replace hx119_4 := (HB.out.cell (World.block_lt_of_cell? w _ hx119_4)).trans hx119_4; replace hx119_5 := (HB.out.cell (World.block_lt_of_cell? w _ hx119_5)).trans hx119_5; replace hx119_6 := (HB.out.cell (World.block_lt_of_cell? w _ hx119_6)).trans hx119_6; replace hx119_7 := (HB.out.cell (World.block_lt_of_cell? w _ hx119_7)).trans hx119_7; replace hx119_8 := (HB.out.cell (World.block_lt_of_cell? w _ hx119_8)).trans hx119_8; replace hx119_9 := (HB.out.cell (World.block_lt_of_cell? w _ hx119_9)).trans hx119_9; replace p119 := eq_true p119; replace q119 := eq_true q119; have hcz17_0 : w16.cell? ⟨b111, 0, none⟩ = some (.int .u32 a1_0) := (bC BK111.out 0).trans rfl; have hcz17_1 : w16.cell? ⟨b111, 1, none⟩ = some (.int .i32 a1_1) := (bC BK111.out 1).trans rfl; have hcz17_2 : w16.cell? ⟨b111, 2, none⟩ = some (.int .i32 a1_2) := (bC BK111.out 2).trans rfl; have hcz17_3 : w16.cell? ⟨b111, 3, none⟩ = some (.int .i32 a1_3) := (bC BK111.out 3).trans rfl; have hcz17_4 : w16.cell? ⟨b111, 4, none⟩ = some (.int .i32 a1_4) := (bC BK111.out 4).trans rfl; have hcz17_5 : w16.cell? ⟨b111, 5, none⟩ = some (.int .i32 a1_5) := (bC BK111.out 5).trans rfl; have hcz17_6 : w16.cell? ⟨b111, 6, none⟩ = some (.int .i32 a1_6) := (bC BK111.out 6).trans rfl; have hcz17_7 : w16.cell? ⟨b111, 7, none⟩ = some (.int .i32 a1_7) := (bC BK111.out 7).trans rfl; have hcz17_8 : w16.cell? ⟨b111, 8, none⟩ = some (.int .i32 a1_8) := (bC BK111.out 8).trans rfl; have hcz17_9 : w16.cell? ⟨b111, 9, none⟩ = some (.int .i32 a1_9) := (bC BK111.out 9).trans rfl; have hfz17_0 := bF BK111.out 0; have hfz17_1 := bF BK111.out 1; have hfz17_2 := bF BK111.out 2; have hfz17_3 := bF BK111.out 3; have hfz17_4 := bF BK111.out 4; have hfz17_5 := bF BK111.out 5; have hfz17_6 := bF BK111.out 6; have hfz17_7 := bF BK111.out 7; have hfz17_8 := bF BK111.out 8; have hfz17_9 := bF BK111.out 9))
           repeat (go_quiet (first | ((with_reducible refine gate_builtin (b := .append) (xs := #[.tmp 29, .tmp 31]) rfl ?_); at_builtin; refine Kd.R_append k44 (w0 := w) w.heap.size rfl (.tmp 29) (.tmp 31) 22 44 (.agg #[(.int .u32 0), (.int .i32 0), (.int .i32 0), (.int .i32 0), (.int .i32 0), (.int .i32 0), (.int .i32 0), (.int .i32 0), (.int .i32 0), (.int .i32 0)]) 40 rfl Try.underlying22 info44 rfl (by decide) (by omega) u7 x7_1 (⟨a1_0, a1_1, (⟨a1_2, a1_3⟩ : S39), a1_4, a1_5, (⟨a1_6, a1_7⟩ : S39), (⟨a1_8, a1_9⟩ : S39)⟩ : S44) [.int .u32 a1_0, .int .i32 a1_1, .int .i32 a1_2, .int .i32 a1_3, .int .i32 a1_4, .int .i32 a1_5, .int .i32 a1_6, .int .i32 a1_7, .int .i32 a1_8, .int .i32 a1_9] (fun k_ => k_ ≠ b111) (fun _ => False) rfl rfl ?aP (fun _ hk => hk.elim) ?aF ?aO ?aB ?aS ?aL ?_; (case aP => exact k44_mkM _ _ _ (⟨a1_0, a1_1, (⟨a1_2, a1_3⟩ : S39), a1_4, a1_5, (⟨a1_6, a1_7⟩ : S39), (⟨a1_8, a1_9⟩ : S39)⟩ : S44)); (case aB => exact (by repeat (first | (with_reducible first | exact HB.out | apply lA | apply lN | apply lD | refine lS ?_ GE111.out) | exact HB.out))); (case aF => exact (fun k_ hk => Kd.freshB (g := b111) (o := .cells #[.int .u32 a1_0, .int .i32 a1_1, .int .i32 a1_2, .int .i32 a1_3, .int .i32 a1_4, .int .i32 a1_5, .int .i32 a1_6, .int .i32 a1_7, .int .i32 a1_8, .int .i32 a1_9] 44 (0, 0)) (by (with_reducible repeat first | apply bN | apply bD | apply bA); exact BK111.out) k_ hk)); (case aO => exact (by (with_reducible repeat (first | apply Kd.R_alloc | apply Kd.R_drewN | apply Kd.R_drew)); exact HO_7.out)); (case aS => exact (lZ (by repeat (first | (with_reducible first | exact HB.out | apply lA | apply lN | apply lD | refine lS ?_ GE111.out) | exact HB.out)))); (case aL => have := LMc11.out; omega); intro v117 w16 ho hb hg hat; rw [← Ny116.out] at ho; have n0_ := aM (blk_grown (g := b111) (o := .cells #[.int .u32 a1_0, .int .i32 a1_1, .int .i32 a1_2, .int .i32 a1_3, .int .i32 a1_4, .int .i32 a1_5, .int .i32 a1_6, .int .i32 a1_7, .int .i32 a1_8, .int .i32 a1_9] 44 (0, 0)) (by (with_reducible repeat first | apply bN | apply bD | apply bA); exact BK111.out) hg (Kd.R_away HO_7.out (fun _ hk => hk))); have n1_ := aM (hb); have n2_ := aM (ho); clear BK111; clear HB; clear HO_7; have BK111 := n0_; have HB := n1_; have HO118 := n2_; clear n0_ n1_ n2_; clear ho hb hg hat; have p119 : 0 ≤ (x9_1 : Int) := of_decide_eq_true (by first | (with_reducible assumption) | assumption); have q119 : x9_1 < (l0.length : Int) := of_decide_eq_true (by first | (with_reducible assumption) | assumption); obtain ⟨ad119, e119, hx119_0, hx119_1, hx119_2, hx119_3, hx119_4, hx119_5, hx119_6, hx119_7, hx119_8, hx119_9⟩ := at_T44 HR0.out x9_1 p119 q119; cases e119; replace hx119_0 := (HB.out.cell (World.block_lt_of_cell? w _ hx119_0)).trans hx119_0; replace hx119_1 := (HB.out.cell (World.block_lt_of_cell? w _ hx119_1)).trans hx119_1; replace hx119_2 := (HB.out.cell (World.block_lt_of_cell? w _ hx119_2)).trans hx119_2; replace hx119_3 := (HB.out.cell (World.block_lt_of_cell? w _ hx119_3)).trans hx119_3; replace hx119_4 := (HB.out.cell (World.block_lt_of_cell? w _ hx119_4)).trans hx119_4; replace hx119_5 := (HB.out.cell (World.block_lt_of_cell? w _ hx119_5)).trans hx119_5; replace hx119_6 := (HB.out.cell (World.block_lt_of_cell? w _ hx119_6)).trans hx119_6; replace hx119_7 := (HB.out.cell (World.block_lt_of_cell? w _ hx119_7)).trans hx119_7; replace hx119_8 := (HB.out.cell (World.block_lt_of_cell? w _ hx119_8)).trans hx119_8; replace hx119_9 := (HB.out.cell (World.block_lt_of_cell? w _ hx119_9)).trans hx119_9; replace p119 := eq_true p119; replace q119 := eq_true q119; have hcz17_0 : w16.cell? ⟨b111, 0, none⟩ = some (.int .u32 a1_0) := (bC BK111.out 0).trans rfl; have hcz17_1 : w16.cell? ⟨b111, 1, none⟩ = some (.int .i32 a1_1) := (bC BK111.out 1).trans rfl; have hcz17_2 : w16.cell? ⟨b111, 2, none⟩ = some (.int .i32 a1_2) := (bC BK111.out 2).trans rfl; have hcz17_3 : w16.cell? ⟨b111, 3, none⟩ = some (.int .i32 a1_3) := (bC BK111.out 3).trans rfl; have hcz17_4 : w16.cell? ⟨b111, 4, none⟩ = some (.int .i32 a1_4) := (bC BK111.out 4).trans rfl; have hcz17_5 : w16.cell? ⟨b111, 5, none⟩ = some (.int .i32 a1_5) := (bC BK111.out 5).trans rfl; have hcz17_6 : w16.cell? ⟨b111, 6, none⟩ = some (.int .i32 a1_6) := (bC BK111.out 6).trans rfl; have hcz17_7 : w16.cell? ⟨b111, 7, none⟩ = some (.int .i32 a1_7) := (bC BK111.out 7).trans rfl; have hcz17_8 : w16.cell? ⟨b111, 8, none⟩ = some (.int .i32 a1_8) := (bC BK111.out 8).trans rfl; have hcz17_9 : w16.cell? ⟨b111, 9, none⟩ = some (.int .i32 a1_9) := (bC BK111.out 9).trans rfl; have hfz17_0 := bF BK111.out 0; have hfz17_1 := bF BK111.out 1; have hfz17_2 := bF BK111.out 2; have hfz17_3 := bF BK111.out 3; have hfz17_4 := bF BK111.out 4; have hfz17_5 := bF BK111.out 5; have hfz17_6 := bF BK111.out 6; have hfz17_7 := bF BK111.out 7; have hfz17_8 := bF BK111.out 8; have hfz17_9 := bF BK111.out 9)); try go_wp2_with (first | ((with_reducible refine gate_builtin (b := .append) (xs := #[.tmp 29, .tmp 31]) rfl ?_); at_builtin; refine Kd.R_append k44 (w0 := w) w.heap.size rfl (.tmp 29) (.tmp 31) 22 44 (.agg #[(.int .u32 0), (.int .i32 0), (.int .i32 0), (.int .i32 0), (.int .i32 0), (.int .i32 0), (.int .i32 0), (.int .i32 0), (.int .i32 0), (.int .i32 0)]) 40 rfl Try.underlying22 info44 rfl (by decide) (by omega) u7 x7_1 (⟨a1_0, a1_1, (⟨a1_2, a1_3⟩ : S39), a1_4, a1_5, (⟨a1_6, a1_7⟩ : S39), (⟨a1_8, a1_9⟩ : S39)⟩ : S44) [.int .u32 a1_0, .int .i32 a1_1, .int .i32 a1_2, .int .i32 a1_3, .int .i32 a1_4, .int .i32 a1_5, .int .i32 a1_6, .int .i32 a1_7, .int .i32 a1_8, .int .i32 a1_9] (fun k_ => k_ ≠ b111) (fun _ => False) rfl rfl ?aP (fun _ hk => hk.elim) ?aF ?aO ?aB ?aS ?aL ?_; (case aP => exact k44_mkM _ _ _ (⟨a1_0, a1_1, (⟨a1_2, a1_3⟩ : S39), a1_4, a1_5, (⟨a1_6, a1_7⟩ : S39), (⟨a1_8, a1_9⟩ : S39)⟩ : S44)); (case aB => exact (by repeat (first | (with_reducible first | exact HB.out | apply lA | apply lN | apply lD | refine lS ?_ GE111.out) | exact HB.out))); (case aF => exact (fun k_ hk => Kd.freshB (g := b111) (o := .cells #[.int .u32 a1_0, .int .i32 a1_1, .int .i32 a1_2, .int .i32 a1_3, .int .i32 a1_4, .int .i32 a1_5, .int .i32 a1_6, .int .i32 a1_7, .int .i32 a1_8, .int .i32 a1_9] 44 (0, 0)) (by (with_reducible repeat first | apply bN | apply bD | apply bA); exact BK111.out) k_ hk)); (case aO => exact (by (with_reducible repeat (first | apply Kd.R_alloc | apply Kd.R_drewN | apply Kd.R_drew)); exact HO_7.out)); (case aS => exact (lZ (by repeat (first | (with_reducible first | exact HB.out | apply lA | apply lN | apply lD | refine lS ?_ GE111.out) | exact HB.out)))); (case aL => have := LMc11.out; omega); intro v117 w16 ho hb hg hat; rw [← Ny116.out] at ho; have n0_ := aM (blk_grown (g := b111) (o := .cells #[.int .u32 a1_0, .int .i32 a1_1, .int .i32 a1_2, .int .i32 a1_3, .int .i32 a1_4, .int .i32 a1_5, .int .i32 a1_6, .int .i32 a1_7, .int .i32 a1_8, .int .i32 a1_9] 44 (0, 0)) (by (with_reducible repeat first | apply bN | apply bD | apply bA); exact BK111.out) hg (Kd.R_away HO_7.out (fun _ hk => hk))); have n1_ := aM (hb); have n2_ := aM (ho); clear BK111; clear HB; clear HO_7; have BK111 := n0_; have HB := n1_; have HO118 := n2_; clear n0_ n1_ n2_; clear ho hb hg hat; have p119 : 0 ≤ (x9_1 : Int) := of_decide_eq_true (by first | (with_reducible assumption) | assumption); have q119 : x9_1 < (l0.length : Int) := of_decide_eq_true (by first | (with_reducible assumption) | assumption); obtain ⟨ad119, e119, hx119_0, hx119_1, hx119_2, hx119_3, hx119_4, hx119_5, hx119_6, hx119_7, hx119_8, hx119_9⟩ := at_T44 HR0.out x9_1 p119 q119; cases e119; replace hx119_0 := (HB.out.cell (World.block_lt_of_cell? w _ hx119_0)).trans hx119_0; replace hx119_1 := (HB.out.cell (World.block_lt_of_cell? w _ hx119_1)).trans hx119_1; replace hx119_2 := (HB.out.cell (World.block_lt_of_cell? w _ hx119_2)).trans hx119_2; replace hx119_3 := (HB.out.cell (World.block_lt_of_cell? w _ hx119_3)).trans hx119_3; replace hx119_4 := (HB.out.cell (World.block_lt_of_cell? w _ hx119_4)).trans hx119_4; replace hx119_5 := (HB.out.cell (World.block_lt_of_cell? w _ hx119_5)).trans hx119_5; replace hx119_6 := (HB.out.cell (World.block_lt_of_cell? w _ hx119_6)).trans hx119_6; replace hx119_7 := (HB.out.cell (World.block_lt_of_cell? w _ hx119_7)).trans hx119_7; replace hx119_8 := (HB.out.cell (World.block_lt_of_cell? w _ hx119_8)).trans hx119_8; replace hx119_9 := (HB.out.cell (World.block_lt_of_cell? w _ hx119_9)).trans hx119_9; replace p119 := eq_true p119; replace q119 := eq_true q119; have hcz17_0 : w16.cell? ⟨b111, 0, none⟩ = some (.int .u32 a1_0) := (bC BK111.out 0).trans rfl; have hcz17_1 : w16.cell? ⟨b111, 1, none⟩ = some (.int .i32 a1_1) := (bC BK111.out 1).trans rfl; have hcz17_2 : w16.cell? ⟨b111, 2, none⟩ = some (.int .i32 a1_2) := (bC BK111.out 2).trans rfl; have hcz17_3 : w16.cell? ⟨b111, 3, none⟩ = some (.int .i32 a1_3) := (bC BK111.out 3).trans rfl; have hcz17_4 : w16.cell? ⟨b111, 4, none⟩ = some (.int .i32 a1_4) := (bC BK111.out 4).trans rfl; have hcz17_5 : w16.cell? ⟨b111, 5, none⟩ = some (.int .i32 a1_5) := (bC BK111.out 5).trans rfl; have hcz17_6 : w16.cell? ⟨b111, 6, none⟩ = some (.int .i32 a1_6) := (bC BK111.out 6).trans rfl; have hcz17_7 : w16.cell? ⟨b111, 7, none⟩ = some (.int .i32 a1_7) := (bC BK111.out 7).trans rfl; have hcz17_8 : w16.cell? ⟨b111, 8, none⟩ = some (.int .i32 a1_8) := (bC BK111.out 8).trans rfl; have hcz17_9 : w16.cell? ⟨b111, 9, none⟩ = some (.int .i32 a1_9) := (bC BK111.out 9).trans rfl; have hfz17_0 := bF BK111.out 0; have hfz17_1 := bF BK111.out 1; have hfz17_2 := bF BK111.out 2; have hfz17_3 := bF BK111.out 3; have hfz17_4 := bF BK111.out 4; have hfz17_5 := bF BK111.out 5; have hfz17_6 := bF BK111.out 6; have hfz17_7 := bF BK111.out 7; have hfz17_8 := bF BK111.out 8; have hfz17_9 := bF BK111.out 9)))
           go_roundg kj5
           case measure => have := HK1.out; have := HJ5.out; omega
           case rel => exact ⟨(y116), (true), (wrap64 (x9_1 + 1)), (by first | rfl | (simp; done) | (simp [*]; done)), (by first | rfl | (simp; done) | (simp [*]; done)), H', ⟨by have := HK1.out; have := HJ5.out; omega⟩, ⟨by (with_reducible repeat (first | apply Kd.R_alloc | apply Kd.R_drewN | apply Kd.R_drew)); exact HO118.out⟩, ⟨by (with_reducible repeat first | apply bN | apply bD | apply bA); exact BK111.out⟩, ⟨by repeat (first | (with_reducible first | exact HB.out | apply lA | apply lN | apply lD | refine lS ?_ GE111.out) | exact HB.out)⟩⟩
          ·rw [if_neg c14] at H
           have c14b0 : (((rd_T44 l0 x9_1).f0) == a1_0) = false := beq_eq_false_iff_ne.mpr c14
           have c14b1 : (((rd_T44 l0 x9_1).f0) != a1_0) = true := bne_iff_ne.mpr c14
           by_cases c18 : y116.length < 3518437208883
           ·rw [if_pos c18] at H
            have LMc18 := aM c18
            clear c18
            obtain ⟨y121, hy121⟩ : ∃ y_ : List (S44), y_ = (y116 ++ [(⟨(rd_T44 l0 x9_1).f0, (rd_T44 l0 x9_1).f1, (⟨(rd_T44 l0 x9_1).f2.f0, (rd_T44 l0 x9_1).f2.f1⟩ : S39), (rd_T44 l0 x9_1).f3, (rd_T44 l0 x9_1).f4, (⟨(rd_T44 l0 x9_1).f5.f0, (rd_T44 l0 x9_1).f5.f1⟩ : S39), (⟨(rd_T44 l0 x9_1).f6.f0, (rd_T44 l0 x9_1).f6.f1⟩ : S39)⟩ : S44)]) := ⟨_, rfl⟩
            replace H : (billiardref06_Put.l0 kj5 l0 y121 true (wrap64 (x9_1 + 1)) a1_0 a1_1 a1_2 a1_3 a1_4 a1_5 a1_6 a1_7 a1_8 a1_9) = some r := by first | (rw [hy121]; with_reducible exact H) | (have H2_ := (Option.bind_some _ _).symm.trans H; rw [hy121]; with_reducible exact H2_) | (have H2_ := (Option.bind_some _ _).symm.trans H; with_reducible exact H2_) | with_reducible exact H | (rw [hy121]; exact H) | exact H
            have Ny121 := aM hy121
            clear hy121
            have H' := aM H
            clear H
            have hcz19_0 : wc.cell? ⟨b111, 0, none⟩ = some (.int .u32 a1_0) := (bC BK111.out 0).trans rfl
            have hcz19_1 : wc.cell? ⟨b111, 1, none⟩ = some (.int .i32 a1_1) := (bC BK111.out 1).trans rfl
            have hcz19_2 : wc.cell? ⟨b111, 2, none⟩ = some (.int .i32 a1_2) := (bC BK111.out 2).trans rfl
            have hcz19_3 : wc.cell? ⟨b111, 3, none⟩ = some (.int .i32 a1_3) := (bC BK111.out 3).trans rfl
            have hcz19_4 : wc.cell? ⟨b111, 4, none⟩ = some (.int .i32 a1_4) := (bC BK111.out 4).trans rfl
            have hcz19_5 : wc.cell? ⟨b111, 5, none⟩ = some (.int .i32 a1_5) := (bC BK111.out 5).trans rfl
            have hcz19_6 : wc.cell? ⟨b111, 6, none⟩ = some (.int .i32 a1_6) := (bC BK111.out 6).trans rfl
            have hcz19_7 : wc.cell? ⟨b111, 7, none⟩ = some (.int .i32 a1_7) := (bC BK111.out 7).trans rfl
            have hcz19_8 : wc.cell? ⟨b111, 8, none⟩ = some (.int .i32 a1_8) := (bC BK111.out 8).trans rfl
            have hcz19_9 : wc.cell? ⟨b111, 9, none⟩ = some (.int .i32 a1_9) := (bC BK111.out 9).trans rfl
            have hfz19_0 := bF BK111.out 0
            have hfz19_1 := bF BK111.out 1
            have hfz19_2 := bF BK111.out 2
            have hfz19_3 := bF BK111.out 3
            have hfz19_4 := bF BK111.out 4
            have hfz19_5 := bF BK111.out 5
            have hfz19_6 := bF BK111.out 6
            have hfz19_7 := bF BK111.out 7
            have hfz19_8 := bF BK111.out 8
            have hfz19_9 := bF BK111.out 9
            go_wp2_with (first | ((with_reducible refine gate_builtin (b := .append) (xs := #[.tmp 29, .tmp 31]) rfl ?_); at_builtin; refine Kd.R_append k44 (w0 := w) w.heap.size rfl (.tmp 29) (.tmp 31) 22 44 (.agg #[(.int .u32 0), (.int .i32 0), (.int .i32 0), (.int .i32 0), (.int .i32 0), (.int .i32 0), (.int .i32 0), (.int .i32 0), (.int .i32 0), (.int .i32 0)]) 40 rfl Try.underlying22 info44 rfl (by decide) (by omega) u7 x7_1 (⟨a1_0, a1_1, (⟨a1_2, a1_3⟩ : S39), a1_4, a1_5, (⟨a1_6, a1_7⟩ : S39), (⟨a1_8, a1_9⟩ : S39)⟩ : S44) [.int .u32 a1_0, .int .i32 a1_1, .int .i32 a1_2, .int .i32 a1_3, .int .i32 a1_4, .int .i32 a1_5, .int .i32 a1_6, .int .i32 a1_7, .int .i32 a1_8, .int .i32 a1_9] (fun k_ => k_ ≠ b111) (fun _ => False) rfl rfl ?aP (fun _ hk => hk.elim) ?aF ?aO ?aB ?aS ?aL ?_; (case aP => exact k44_mkM _ _ _ (⟨a1_0, a1_1, (⟨a1_2, a1_3⟩ : S39), a1_4, a1_5, (⟨a1_6, a1_7⟩ : S39), (⟨a1_8, a1_9⟩ : S39)⟩ : S44)); (case aB => exact (by repeat (first | (with_reducible first | exact HB.out | apply lA | apply lN | apply lD | refine lS ?_ GE111.out) | exact HB.out))); (case aF => exact (fun k_ hk => Kd.freshB (g := b111) (o := .cells #[.int .u32 a1_0, .int .i32 a1_1, .int .i32 a1_2, .int .i32 a1_3, .int .i32 a1_4, .int .i32 a1_5, .int .i32 a1_6, .int .i32 a1_7, .int .i32 a1_8, .int .i32 a1_9] 44 (0, 0)) (by (with_reducible repeat first | apply bN | apply bD | apply bA); exact BK111.out) k_ hk)); (case aO => exact (by (with_reducible repeat (first | apply Kd.R_alloc | apply Kd.R_drewN | apply Kd.R_drew)); exact HO_7.out)); (case aS => exact (lZ (by repeat (first | (with_reducible first | exact HB.out | apply lA | apply lN | apply lD | refine lS ?_ GE111.out) | exact HB.out)))); (case aL => have := LMc11.out; omega); intro v117 w20 ho hb hg hat; rw [← Ny116.out] at ho; have n0_ := aM (blk_grown (g := b111) (o := .cells #[.int .u32 a1_0, .int .i32 a1_1, .int .i32 a1_2, .int .i32 a1_3, .int .i32 a1_4, .int .i32 a1_5, .int .i32 a1_6, .int .i32 a1_7, .int .i32 a1_8, .int .i32 a1_9] 44 (0, 0)) (by (with_reducible repeat first | apply bN | apply bD | apply bA); exact BK111.out) hg (Kd.R_away HO_7.out (fun _ hk => hk))); have n1_ := aM (hb); have n2_ := aM (ho); clear BK111; clear HB; clear HO_7; have BK111 := n0_; have HB := n1_; have HO118 := n2_; clear n0_ n1_ n2_; clear ho hb hg hat; have p119 : 0 ≤ (x9_1 : Int) := of_decide_eq_true (by first | (with_reducible assumption) | assumption); have q119 : x9_1 < (l0.length : Int) := of_decide_eq_true (by first | (with_reducible assumption) | assumption); obtain ⟨ad119, e119, hx119_0, hx119_1, hx119_2, hx119_3, hx119_4, hx119_5, hx119_6, hx119_7, hx119_8, hx119_9⟩ := at_T44 HR0.out x9_1 p119 q119; cases e119; replace hx119_0 := (HB.out.cell (World.block_lt_of_cell? w _ hx119_0)).trans hx119_0; replace hx119_1 := (HB.out.cell (World.block_lt_of_cell? w _ hx119_1)).trans hx119_1; replace hx119_2 := (HB.out.cell (World.block_lt_of_cell? w _ hx119_2)).trans hx119_2; replace hx119_3 := (HB.out.cell (World.block_lt_of_cell? w _ hx119_3)).trans hx119_3; replace hx119_4 := (HB.out.cell (World.block_lt_of_cell? w _ hx119_4)).trans hx119_4; replace hx119_5 := (HB.out.cell (World.block_lt_of_cell? w _ hx119_5)).trans hx119_5; replace hx119_6 := (HB.out.cell (World.block_lt_of_cell? w _ hx119_6)).trans hx119_6; replace hx119_7 := (HB.out.cell (World.block_lt_of_cell? w _ hx119_7)).trans hx119_7; replace hx119_8 := (HB.out.cell (World.block_lt_of_cell? w _ hx119_8)).trans hx119_8; replace hx119_9 := (HB.out.cell (World.block_lt_of_cell? w _ hx119_9)).trans hx119_9; replace p119 := eq_true p119; replace q119 := eq_true q119; have hcz21_0 : w20.cell? ⟨b111, 0, none⟩ = some (.int .u32 a1_0) := (bC BK111.out 0).trans rfl; have hcz21_1 : w20.cell? ⟨b111, 1, none⟩ = some (.int .i32 a1_1) := (bC BK111.out 1).trans rfl; have hcz21_2 : w20.cell? ⟨b111, 2, none⟩ = some (.int .i32 a1_2) := (bC BK111.out 2).trans rfl; have hcz21_3 : w20.cell? ⟨b111, 3, none⟩ = some (.int .i32 a1_3) := (bC BK111.out 3).trans rfl; have hcz21_4 : w20.cell? ⟨b111, 4, none⟩ = some (.int .i32 a1_4) := (bC BK111.out 4).trans rfl; have hcz21_5 : w20.cell? ⟨b111, 5, none⟩ = some (.int .i32 a1_5) := (bC BK111.out 5).trans rfl; have hcz21_6 : w20.cell? ⟨b111, 6, none⟩ = some (.int .i32 a1_6) := (bC BK111.out 6).trans rfl; have hcz21_7 : w20.cell? ⟨b111, 7, none⟩ = some (.int .i32 a1_7) := (bC BK111.out 7).trans rfl; have hcz21_8 : w20.cell? ⟨b111, 8, none⟩ = some (.int .i32 a1_8) := (bC BK111.out 8).trans rfl; have hcz21_9 : w20.cell? ⟨b111, 9, none⟩ = some (.int .i32 a1_9) := (bC BK111.out 9).trans rfl; have hfz21_0 := bF BK111.out 0; have hfz21_1 := bF BK111.out 1; have hfz21_2 := bF BK111.out 2; have hfz21_3 := bF BK111.out 3; have hfz21_4 := bF BK111.out 4; have hfz21_5 := bF BK111.out 5; have hfz21_6 := bF BK111.out 6; have hfz21_7 := bF BK111.out 7; have hfz21_8 := bF BK111.out 8; have hfz21_9 := bF BK111.out 9; have p120 : 0 ≤ (x9_1 : Int) := of_decide_eq_true (by first | (with_reducible assumption) | assumption); have q120 : x9_1 < (l0.length : Int) := of_decide_eq_true (by first | (with_reducible assumption) | assumption); obtain ⟨ad120, e120, hx120_0, hx120_1, hx120_2, hx120_3, hx120_4, hx120_5, hx120_6, hx120_7, hx120_8, hx120_9⟩ := at_T44 HR0.out x9_1 p120 q120; obtain rfl : ad119 = ad120 := (by injection e120); replace hx120_0 := (HB.out.cell (World.block_lt_of_cell? w _ hx120_0)).trans hx120_0; replace hx120_1 := (HB.out.cell (World.block_lt_of_cell? w _ hx120_1)).trans hx120_1; replace hx120_2 := (HB.out.cell (World.block_lt_of_cell? w _ hx120_2)).trans hx120_2; replace hx120_3 := (HB.out.cell (World.block_lt_of_cell? w _ hx120_3)).trans hx120_3; replace hx120_4 := (HB.out.cell (World.block_lt_of_cell? w _ hx120_4)).trans hx120_4; replace hx120_5 := (HB.out.cell (World.block_lt_of_cell? w _ hx120_5)).trans hx120_5; replace hx120_6 := (HB.out.cell (World.block_lt_of_cell? w _ hx120_6)).trans hx120_6; replace hx120_7 := (HB.out.cell (World.block_lt_of_cell? w _ hx120_7)).trans hx120_7; replace hx120_8 := (HB.out.cell (World.block_lt_of_cell? w _ hx120_8)).trans hx120_8; replace hx120_9 := (HB.out.cell (World.block_lt_of_cell? w _ hx120_9)).trans hx120_9; replace p120 := eq_true p120; replace q120 := eq_true q120) | ((with_reducible refine gate_builtin (b := .append) (xs := #[.tmp 41, .tmp 46]) rfl ?_); at_builtin; refine Kd.R_append k44 (w0 := w) w.heap.size rfl (.tmp 41) (.tmp 46) 22 44 (.agg #[(.int .u32 0), (.int .i32 0), (.int .i32 0), (.int .i32 0), (.int .i32 0), (.int .i32 0), (.int .i32 0), (.int .i32 0), (.int .i32 0), (.int .i32 0)]) 40 rfl Try.underlying22 info44 rfl (by decide) (by omega) v117 y116 (⟨(rd_T44 l0 x9_1).f0, (rd_T44 l0 x9_1).f1, (⟨(rd_T44 l0 x9_1).f2.f0, (rd_T44 l0 x9_1).f2.f1⟩ : S39), (rd_T44 l0 x9_1).f3, (rd_T44 l0 x9_1).f4, (⟨(rd_T44 l0 x9_1).f5.f0, (rd_T44 l0 x9_1).f5.f1⟩ : S39), (⟨(rd_T44 l0 x9_1).f6.f0, (rd_T44 l0 x9_1).f6.f1⟩ : S39)⟩ : S44) [.int .u32 ((rd_T44 l0 x9_1).f0), .int .i32 ((rd_T44 l0 x9_1).f1), .int .i32 ((rd_T44 l0 x9_1).f2.f0), .int .i32 ((rd_T44 l0 x9_1).f2.f1), .int .i32 ((rd_T44 l0 x9_1).f3), .int .i32 ((rd_T44 l0 x9_1).f4), .int .i32 ((rd_T44 l0 x9_1).f5.f0), .int .i32 ((rd_T44 l0 x9_1).f5.f1), .int .i32 ((rd_T44 l0 x9_1).f6.f0), .int .i32 ((rd_T44 l0 x9_1).f6.f1)] (fun k_ => k_ ≠ b111) (fun _ => False) rfl rfl ?aP (fun _ hk => hk.elim) ?aF ?aO ?aB ?aS ?aL ?_; (case aP => exact k44_mkM _ _ _ (⟨(rd_T44 l0 x9_1).f0, (rd_T44 l0 x9_1).f1, (⟨(rd_T44 l0 x9_1).f2.f0, (rd_T44 l0 x9_1).f2.f1⟩ : S39), (rd_T44 l0 x9_1).f3, (rd_T44 l0 x9_1).f4, (⟨(rd_T44 l0 x9_1).f5.f0, (rd_T44 l0 x9_1).f5.f1⟩ : S39), (⟨(rd_T44 l0 x9_1).f6.f0, (rd_T44 l0 x9_1).f6.f1⟩ : S39)⟩ : S44)); (case aB => exact (by repeat (first | (with_reducible first | exact HB.out | apply lA | apply lN | apply lD | refine lS ?_ GE111.out) | exact HB.out))); (case aF => exact (fun k_ hk => Kd.freshB (g := b111) (o := .cells #[.int .u32 a1_0, .int .i32 a1_1, .int .i32 a1_2, .int .i32 a1_3, .int .i32 a1_4, .int .i32 a1_5, .int .i32 a1_6, .int .i32 a1_7, .int .i32 a1_8, .int .i32 a1_9] 44 (0, 0)) (by (with_reducible repeat first | apply bN | apply bD | apply bA); exact BK111.out) k_ hk)); (case aO => exact (by (with_reducible repeat (first | apply Kd.R_alloc | apply Kd.R_drewN | apply Kd.R_drew)); exact HO118.out)); (case aS => exact (lZ (by repeat (first | (with_reducible first | exact HB.out | apply lA | apply lN | apply lD | refine lS ?_ GE111.out) | exact HB.out)))); (case aL => have := LMc18.out; omega); intro v122 w22 ho hb hg hat; rw [← Ny121.out] at ho; have n0_ := aM (blk_grown (g := b111) (o := .cells #[.int .u32 a1_0, .int .i32 a1_1, .int .i32 a1_2, .int .i32 a1_3, .int .i32 a1_4, .int .i32 a1_5, .int .i32 a1_6, .int .i32 a1_7, .int .i32 a1_8, .int .i32 a1_9] 44 (0, 0)) (by (with_reducible repeat first | apply bN | apply bD | apply bA); exact BK111.out) hg (Kd.R_away HO118.out (fun _ hk => hk))); have n1_ := aM (hb); have n2_ := aM (ho); clear BK111; clear HB; clear HO118; have BK111 := n0_; have HB := n1_; have HO123 := n2_; clear n0_ n1_ n2_; clear ho hb hg hat))
            repeat (go_quiet (first | ((with_reducible refine gate_builtin (b := .append) (xs := #[.tmp 29, .tmp 31]) rfl ?_); at_builtin; refine Kd.R_append k44 (w0 := w) w.heap.size rfl (.tmp 29) (.tmp 31) 22 44 (.agg #[(.int .u32 0), (.int .i32 0), (.int .i32 0), (.int .i32 0), (.int .i32 0), (.int .i32 0), (.int .i32 0), (.int .i32 0), (.int .i32 0), (.int .i32 0)]) 40 rfl Try.underlying22 info44 rfl (by decide) (by omega) u7 x7_1 (⟨a1_0, a1_1, (⟨a1_2, a1_3⟩ : S39), a1_4, a1_5, (⟨a1_6, a1_7⟩ : S39), (⟨a1_8, a1_9⟩ : S39)⟩ : S44) [.int .u32 a1_0, .int .i32 a1_1, .int .i32 a1_2, .int .i32 a1_3, .int .i32 a1_4, .int .i32 a1_5, .int .i32 a1_6, .int .i32 a1_7, .int .i32 a1_8, .int .i32 a1_9] (fun k_ => k_ ≠ b111) (fun _ => False) rfl rfl ?aP (fun _ hk => hk.elim) ?aF ?aO ?aB ?aS ?aL ?_; (case aP => exact k44_mkM _ _ _ (⟨a1_0, a1_1, (⟨a1_2, a1_3⟩ : S39), a1_4, a1_5, (⟨a1_6, a1_7⟩ : S39), (⟨a1_8, a1_9⟩ : S39)⟩ : S44)); (case aB => exact (by repeat (first | (with_reducible first | exact HB.out | apply lA | apply lN | apply lD | refine lS ?_ GE111.out) | exact HB.out))); (case aF => exact (fun k_ hk => Kd.freshB (g := b111) (o := .cells #[.int .u32 a1_0, .int .i32 a1_1, .int .i32 a1_2, .int .i32 a1_3, .int .i32 a1_4, .int .i32 a1_5, .int .i32 a1_6, .int .i32 a1_7, .int .i32 a1_8, .int .i32 a1_9] 44 (0, 0)) (by (with_reducible repeat first | apply bN | apply bD | apply bA); exact BK111.out) k_ hk)); (case aO => exact (by (with_reducible repeat (first | apply Kd.R_alloc | apply Kd.R_drewN | apply Kd.R_drew)); exact HO_7.out)); (case aS => exact (lZ (by repeat (first | (with_reducible first | exact HB.out | apply lA | apply lN | apply lD | refine lS ?_ GE111.out) | exact HB.out)))); (case aL => have := LMc11.out; omega); intro v117 w20 ho hb hg hat; rw [← Ny116.out] at ho; have n0_ := aM (blk_grown (g := b111) (o := .cells #[.int .u32 a1_0, .int .i32 a1_1, .int .i32 a1_2, .int .i32 a1_3, .int .i32 a1_4, .int .i32 a1_5, .int .i32 a1_6, .int .i32 a1_7, .int .i32 a1_8, .int .i32 a1_9] 44 (0, 0)) (by (with_reducible repeat first | apply bN | apply bD | apply bA); exact BK111.out) hg (Kd.R_away HO_7.out (fun _ hk => hk))); have n1_ := aM (hb); have n2_ := aM (ho); clear BK111; clear HB; clear HO_7; have BK111 := n0_; have HB := n1_; have HO118 := n2_; clear n0_ n1_ n2_; clear ho hb hg hat; have p119 : 0 ≤ (x9_1 : Int) := of_decide_eq_true (by first | (with_reducible assumption) | assumption); have q119 : x9_1 < (l0.length : Int) := of_decide_eq_true (by first | (with_reducible assumption) | assumption); obtain ⟨ad119, e119, hx119_0, hx119_1, hx119_2, hx119_3, hx119_4, hx119_5, hx119_6, hx119_7, hx119_8, hx119_9⟩ := at_T44 HR0.out x9_1 p119 q119; cases e119; replace hx119_0 := (HB.out.cell (World.block_lt_of_cell? w _ hx119_0)).trans hx119_0; replace hx119_1 := (HB.out.cell (World.block_lt_of_cell? w _ hx119_1)).trans hx119_1; replace hx119_2 := (HB.out.cell (World.block_lt_of_cell? w _ hx119_2)).trans hx119_2; replace hx119_3 := (HB.out.cell (World.block_lt_of_cell? w _ hx119_3)).trans hx119_3; replace hx119_4 := (HB.out.cell (World.block_lt_of_cell? w _ hx119_4)).trans hx119_4; replace hx119_5 := (HB.out.cell (World.block_lt_of_cell? w _ hx119_5)).trans hx119_5; replace hx119_6 := (HB.out.cell (World.block_lt_of_cell? w _ hx119_6)).trans hx119_6; replace hx119_7 := (HB.out.cell (World.block_lt_of_cell? w _ hx119_7)).trans hx119_7; replace hx119_8 := (HB.out.cell (World.block_lt_of_cell? w _ hx119_8)).trans hx119_8; replace hx119_9 := (HB.out.cell (World.block_lt_of_cell? w _ hx119_9)).trans hx119_9; replace p119 := eq_true p119; replace q119 := eq_true q119; have hcz21_0 : w20.cell? ⟨b111, 0, none⟩ = some (.int .u32 a1_0) := (bC BK111.out 0).trans rfl; have hcz21_1 : w20.cell? ⟨b111, 1, none⟩ = some (.int .i32 a1_1) := (bC BK111.out 1).trans rfl; have hcz21_2 : w20.cell? ⟨b111, 2, none⟩ = some (.int .i32 a1_2) := (bC BK111.out 2).trans rfl; have hcz21_3 : w20.cell? ⟨b111, 3, none⟩ = some (.int .i32 a1_3) := (bC BK111.out 3).trans rfl; have hcz21_4 : w20.cell? ⟨b111, 4, none⟩ = some (.int .i32 a1_4) := (bC BK111.out 4).trans rfl; have hcz21_5 : w20.cell? ⟨b111, 5, none⟩ = some (.int .i32 a1_5) := (bC BK111.out 5).trans rfl; have hcz21_6 : w20.cell? ⟨b111, 6, none⟩ = some (.int .i32 a1_6) := (bC BK111.out 6).trans rfl; have hcz21_7 : w20.cell? ⟨b111, 7, none⟩ = some (.int .i32 a1_7) := (bC BK111.out 7).trans rfl; have hcz21_8 : w20.cell? ⟨b111, 8, none⟩ = some (.int .i32 a1_8) := (bC BK111.out 8).trans rfl; have hcz21_9 : w20.cell? ⟨b111, 9, none⟩ = some (.int .i32 a1_9) := (bC BK111.out 9).trans rfl; have hfz21_0 := bF BK111.out 0; have hfz21_1 := bF BK111.out 1; have hfz21_2 := bF BK111.out 2; have hfz21_3 := bF BK111.out 3; have hfz21_4 := bF BK111.out 4; have hfz21_5 := bF BK111.out 5; have hfz21_6 := bF BK111.out 6; have hfz21_7 := bF BK111.out 7; have hfz21_8 := bF BK111.out 8; have hfz21_9 := bF BK111.out 9; have p120 : 0 ≤ (x9_1 : Int) := of_decide_eq_true (by first | (with_reducible assumption) | assumption); have q120 : x9_1 < (l0.length : Int) := of_decide_eq_true (by first | (with_reducible assumption) | assumption); obtain ⟨ad120, e120, hx120_0, hx120_1, hx120_2, hx120_3, hx120_4, hx120_5, hx120_6, hx120_7, hx120_8, hx120_9⟩ := at_T44 HR0.out x9_1 p120 q120; obtain rfl : ad119 = ad120 := (by injection e120); replace hx120_0 := (HB.out.cell (World.block_lt_of_cell? w _ hx120_0)).trans hx120_0; replace hx120_1 := (HB.out.cell (World.block_lt_of_cell? w _ hx120_1)).trans hx120_1; replace hx120_2 := (HB.out.cell (World.block_lt_of_cell? w _ hx120_2)).trans hx120_2; replace hx120_3 := (HB.out.cell (World.block_lt_of_cell? w _ hx120_3)).trans hx120_3; replace hx120_4 := (HB.out.cell (World.block_lt_of_cell? w _ hx120_4)).trans hx120_4; replace hx120_5 := (HB.out.cell (World.block_lt_of_cell? w _ hx120_5)).trans hx120_5; replace hx120_6 := (HB.out.cell (World.block_lt_of_cell? w _ hx120_6)).trans hx120_6; replace hx120_7 := (HB.out.cell (World.block_lt_of_cell? w _ hx120_7)).trans hx120_7; replace hx120_8 := (HB.out.cell (World.block_lt_of_cell? w _ hx120_8)).trans hx120_8; replace hx120_9 := (HB.out.cell (World.block_lt_of_cell? w _ hx120_9)).trans hx120_9; replace p120 := eq_true p120; replace q120 := eq_true q120) | ((with_reducible refine gate_builtin (b := .append) (xs := #[.tmp 41, .tmp 46]) rfl ?_); at_builtin; refine Kd.R_append k44 (w0 := w) w.heap.size rfl (.tmp 41) (.tmp 46) 22 44 (.agg #[(.int .u32 0), (.int .i32 0), (.int .i32 0), (.int .i32 0), (.int .i32 0), (.int .i32 0), (.int .i32 0), (.int .i32 0), (.int .i32 0), (.int .i32 0)]) 40 rfl Try.underlying22 info44 rfl (by decide) (by omega) v117 y116 (⟨(rd_T44 l0 x9_1).f0, (rd_T44 l0 x9_1).f1, (⟨(rd_T44 l0 x9_1).f2.f0, (rd_T44 l0 x9_1).f2.f1⟩ : S39), (rd_T44 l0 x9_1).f3, (rd_T44 l0 x9_1).f4, (⟨(rd_T44 l0 x9_1).f5.f0, (rd_T44 l0 x9_1).f5.f1⟩ : S39), (⟨(rd_T44 l0 x9_1).f6.f0, (rd_T44 l0 x9_1).f6.f1⟩ : S39)⟩ : S44) [.int .u32 ((rd_T44 l0 x9_1).f0), .int .i32 ((rd_T44 l0 x9_1).f1), .int .i32 ((rd_T44 l0 x9_1).f2.f0), .int .i32 ((rd_T44 l0 x9_1).f2.f1), .int .i32 ((rd_T44 l0 x9_1).f3), .int .i32 ((rd_T44 l0 x9_1).f4), .int .i32 ((rd_T44 l0 x9_1).f5.f0), .int .i32 ((rd_T44 l0 x9_1).f5.f1), .int .i32 ((rd_T44 l0 x9_1).f6.f0), .int .i32 ((rd_T44 l0 x9_1).f6.f1)] (fun k_ => k_ ≠ b111) (fun _ => False) rfl rfl ?aP (fun _ hk => hk.elim) ?aF ?aO ?aB ?aS ?aL ?_; (case aP => exact k44_mkM _ _ _ (⟨(rd_T44 l0 x9_1).f0, (rd_T44 l0 x9_1).f1, (⟨(rd_T44 l0 x9_1).f2.f0, (rd_T44 l0 x9_1).f2.f1⟩ : S39), (rd_T44 l0 x9_1).f3, (rd_T44 l0 x9_1).f4, (⟨(rd_T44 l0 x9_1).f5.f0, (rd_T44 l0 x9_1).f5.f1⟩ : S39), (⟨(rd_T44 l0 x9_1).f6.f0, (rd_T44 l0 x9_1).f6.f1⟩ : S39)⟩ : S44)); (case aB => exact (by repeat (first | (with_reducible first | exact HB.out | apply lA | apply lN | apply lD | refine lS ?_ GE111.out) | exact HB.out))); (case aF => exact (fun k_ hk => Kd.freshB (g := b111) (o := .cells #[.int .u32 a1_0, .int .i32 a1_1, .int .i32 a1_2, .int .i32 a1_3, .int .i32 a1_4, .int .i32 a1_5, .int .i32 a1_6, .int .i32 a1_7, .int .i32 a1_8, .int .i32 a1_9] 44 (0, 0)) (by (with_reducible repeat first | apply bN | apply bD | apply bA); exact BK111.out) k_ hk)); (case aO => exact (by (with_reducible repeat (first | apply Kd.R_alloc | apply Kd.R_drewN | apply Kd.R_drew)); exact HO118.out)); (case aS => exact (lZ (by repeat (first | (with_reducible first | exact HB.out | apply lA | apply lN | apply lD | refine lS ?_ GE111.out) | exact HB.out)))); (case aL => have := LMc18.out; omega); intro v122 w22 ho hb hg hat; rw [← Ny121.out] at ho; have n0_ := aM (blk_grown (g := b111) (o := .cells #[.int .u32 a1_0, .int .i32 a1_1, .int .i32 a1_2, .int .i32 a1_3, .int .i32 a1_4, .int .i32 a1_5, .int .i32 a1_6, .int .i32 a1_7, .int .i32 a1_8, .int .i32 a1_9] 44 (0, 0)) (by (with_reducible repeat first | apply bN | apply bD | apply bA); exact BK111.out) hg (Kd.R_away HO118.out (fun _ hk => hk))); have n1_ := aM (hb); have n2_ := aM (ho); clear BK111; clear HB; clear HO118; have BK111 := n0_; have HB := n1_; have HO123 := n2_; clear n0_ n1_ n2_; clear ho hb hg hat)); try go_wp2_with (first | ((with_reducible refine gate_builtin (b := .append) (xs := #[.tmp 29, .tmp 31]) rfl ?_); at_builtin; refine Kd.R_append k44 (w0 := w) w.heap.size rfl (.tmp 29) (.tmp 31) 22 44 (.agg #[(.int .u32 0), (.int .i32 0), (.int .i32 0), (.int .i32 0), (.int .i32 0), (.int .i32 0), (.int .i32 0), (.int .i32 0), (.int .i32 0), (.int .i32 0)]) 40 rfl Try.underlying22 info44 rfl (by decide) (by omega) u7 x7_1 (⟨a1_0, a1_1, (⟨a1_2, a1_3⟩ : S39), a1_4, a1_5, (⟨a1_6, a1_7⟩ : S39), (⟨a1_8, a1_9⟩ : S39)⟩ : S44) [.int .u32 a1_0, .int .i32 a1_1, .int .i32 a1_2, .int .i32 a1_3, .int .i32 a1_4, .int .i32 a1_5, .int .i32 a1_6, .int .i32 a1_7, .int .i32 a1_8, .int .i32 a1_9] (fun k_ => k_ ≠ b111) (fun _ => False) rfl rfl ?aP (fun _ hk => hk.elim) ?aF ?aO ?aB ?aS ?aL ?_; (case aP => exact k44_mkM _ _ _ (⟨a1_0, a1_1, (⟨a1_2, a1_3⟩ : S39), a1_4, a1_5, (⟨a1_6, a1_7⟩ : S39), (⟨a1_8, a1_9⟩ : S39)⟩ : S44)); (case aB => exact (by repeat (first | (with_reducible first | exact HB.out | apply lA | apply lN | apply lD | refine lS ?_ GE111.out) | exact HB.out))); (case aF => exact (fun k_ hk => Kd.freshB (g := b111) (o := .cells #[.int .u32 a1_0, .int .i32 a1_1, .int .i32 a1_2, .int .i32 a1_3, .int .i32 a1_4, .int .i32 a1_5, .int .i32 a1_6, .int .i32 a1_7, .int .i32 a1_8, .int .i32 a1_9] 44 (0, 0)) (by (with_reducible repeat first | apply bN | apply bD | apply bA); exact BK111.out) k_ hk)); (case aO => exact (by (with_reducible repeat (first | apply Kd.R_alloc | apply Kd.R_drewN | apply Kd.R_drew)); exact HO_7.out)); (case aS => exact (lZ (by repeat (first | (with_reducible first | exact HB.out | apply lA | apply lN | apply lD | refine lS ?_ GE111.out) | exact HB.out)))); (case aL => have := LMc11.out; omega); intro v117 w20 ho hb hg hat; rw [← Ny116.out] at ho; have n0_ := aM (blk_grown (g := b111) (o := .cells #[.int .u32 a1_0, .int .i32 a1_1, .int .i32 a1_2, .int .i32 a1_3, .int .i32 a1_4, .int .i32 a1_5, .int .i32 a1_6, .int .i32 a1_7, .int .i32 a1_8, .int .i32 a1_9] 44 (0, 0)) (by (with_reducible repeat first | apply bN | apply bD | apply bA); exact BK111.out) hg (Kd.R_away HO_7.out (fun _ hk => hk))); have n1_ := aM (hb); have n2_ := aM (ho); clear BK111; clear HB; clear HO_7; have BK111 := n0_; have HB := n1_; have HO118 := n2_; clear n0_ n1_ n2_; clear ho hb hg hat; have p119 : 0 ≤ (x9_1 : Int) := of_decide_eq_true (by first | (with_reducible assumption) | assumption); have q119 : x9_1 < (l0.length : Int) := of_decide_eq_true (by first | (with_reducible assumption) | assumption); obtain ⟨ad119, e119, hx119_0, hx119_1, hx119_2, hx119_3, hx119_4, hx119_5, hx119_6, hx119_7, hx119_8, hx119_9⟩ := at_T44 HR0.out x9_1 p119 q119; cases e119; replace hx119_0 := (HB.out.cell (World.block_lt_of_cell? w _ hx119_0)).trans hx119_0; replace hx119_1 := (HB.out.cell (World.block_lt_of_cell? w _ hx119_1)).trans hx119_1; replace hx119_2 := (HB.out.cell (World.block_lt_of_cell? w _ hx119_2)).trans hx119_2; replace hx119_3 := (HB.out.cell (World.block_lt_of_cell? w _ hx119_3)).trans hx119_3; replace hx119_4 := (HB.out.cell (World.block_lt_of_cell? w _ hx119_4)).trans hx119_4; replace hx119_5 := (HB.out.cell (World.block_lt_of_cell? w _ hx119_5)).trans hx119_5; replace hx119_6 := (HB.out.cell (World.block_lt_of_cell? w _ hx119_6)).trans hx119_6; replace hx119_7 := (HB.out.cell (World.block_lt_of_cell? w _ hx119_7)).trans hx119_7; replace hx119_8 := (HB.out.cell (World.block_lt_of_cell? w _ hx119_8)).trans hx119_8; replace hx119_9 := (HB.out.cell (World.block_lt_of_cell? w _ hx119_9)).trans hx119_9; replace p119 := eq_true p119; replace q119 := eq_true q119; have hcz21_0 : w20.cell? ⟨b111, 0, none⟩ = some (.int .u32 a1_0) := (bC BK111.out 0).trans rfl; have hcz21_1 : w20.cell? ⟨b111, 1, none⟩ = some (.int .i32 a1_1) := (bC BK111.out 1).trans rfl; have hcz21_2 : w20.cell? ⟨b111, 2, none⟩ = some (.int .i32 a1_2) := (bC BK111.out 2).trans rfl; have hcz21_3 : w20.cell? ⟨b111, 3, none⟩ = some (.int .i32 a1_3) := (bC BK111.out 3).trans rfl; have hcz21_4 : w20.cell? ⟨b111, 4, none⟩ = some (.int .i32 a1_4) := (bC BK111.out 4).trans rfl; have hcz21_5 : w20.cell? ⟨b111, 5, none⟩ = some (.int .i32 a1_5) := (bC BK111.out 5).trans rfl; have hcz21_6 : w20.cell? ⟨b111, 6, none⟩ = some (.int .i32 a1_6) := (bC BK111.out 6).trans rfl; have hcz21_7 : w20.cell? ⟨b111, 7, none⟩ = some (.int .i32 a1_7) := (bC BK111.out 7).trans rfl; have hcz21_8 : w20.cell? ⟨b111, 8, none⟩ = some (.int .i32 a1_8) := (bC BK111.out 8).trans rfl; have hcz21_9 : w20.cell? ⟨b111, 9, none⟩ = some (.int .i32 a1_9) := (bC BK111.out 9).trans rfl; have hfz21_0 := bF BK111.out 0; have hfz21_1 := bF BK111.out 1; have hfz21_2 := bF BK111.out 2; have hfz21_3 := bF BK111.out 3; have hfz21_4 := bF BK111.out 4; have hfz21_5 := bF BK111.out 5; have hfz21_6 := bF BK111.out 6; have hfz21_7 := bF BK111.out 7; have hfz21_8 := bF BK111.out 8; have hfz21_9 := bF BK111.out 9; have p120 : 0 ≤ (x9_1 : Int) := of_decide_eq_true (by first | (with_reducible assumption) | assumption); have q120 : x9_1 < (l0.length : Int) := of_decide_eq_true (by first | (with_reducible assumption) | assumption); obtain ⟨ad120, e120, hx120_0, hx120_1, hx120_2, hx120_3, hx120_4, hx120_5, hx120_6, hx120_7, hx120_8, hx120_9⟩ := at_T44 HR0.out x9_1 p120 q120; obtain rfl : ad119 = ad120 := (by injection e120); replace hx120_0 := (HB.out.cell (World.block_lt_of_cell? w _ hx120_0)).trans hx120_0; replace hx120_1 := (HB.out.cell (World.block_lt_of_cell? w _ hx120_1)).trans hx120_1; replace hx120_2 := (HB.out.cell (World.block_lt_of_cell? w _ hx120_2)).trans hx120_2; replace hx120_3 := (HB.out.cell (World.block_lt_of_cell? w _ hx120_3)).trans hx120_3; replace hx120_4 := (HB.out.cell (World.block_lt_of_cell? w _ hx120_4)).trans hx120_4; replace hx120_5 := (HB.out.cell (World.block_lt_of_cell? w _ hx120_5)).trans hx120_5; replace hx120_6 := (HB.out.cell (World.block_lt_of_cell? w _ hx120_6)).trans hx120_6; replace hx120_7 := (HB.out.cell (World.block_lt_of_cell? w _ hx120_7)).trans hx120_7; replace hx120_8 := (HB.out.cell (World.block_lt_of_cell? w _ hx120_8)).trans hx120_8; replace hx120_9 := (HB.out.cell (World.block_lt_of_cell? w _ hx120_9)).trans hx120_9; replace p120 := eq_true p120; replace q120 := eq_true q120) | ((with_reducible refine gate_builtin (b := .append) (xs := #[.tmp 41, .tmp 46]) rfl ?_); at_builtin; refine Kd.R_append k44 (w0 := w) w.heap.size rfl (.tmp 41) (.tmp 46) 22 44 (.agg #[(.int .u32 0), (.int .i32 0), (.int .i32 0), (.int .i32 0), (.int .i32 0), (.int .i32 0), (.int .i32 0), (.int .i32 0), (.int .i32 0), (.int .i32 0)]) 40 rfl Try.underlying22 info44 rfl (by decide) (by omega) v117 y116 (⟨(rd_T44 l0 x9_1).f0, (rd_T44 l0 x9_1).f1, (⟨(rd_T44 l0 x9_1).f2.f0, (rd_T44 l0 x9_1).f2.f1⟩ : S39), (rd_T44 l0 x9_1).f3, (rd_T44 l0 x9_1).f4, (⟨(rd_T44 l0 x9_1).f5.f0, (rd_T44 l0 x9_1).f5.f1⟩ : S39), (⟨(rd_T44 l0 x9_1).f6.f0, (rd_T44 l0 x9_1).f6.f1⟩ : S39)⟩ : S44) [.int .u32 ((rd_T44 l0 x9_1).f0), .int .i32 ((rd_T44 l0 x9_1).f1), .int .i32 ((rd_T44 l0 x9_1).f2.f0), .int .i32 ((rd_T44 l0 x9_1).f2.f1), .int .i32 ((rd_T44 l0 x9_1).f3), .int .i32 ((rd_T44 l0 x9_1).f4), .int .i32 ((rd_T44 l0 x9_1).f5.f0), .int .i32 ((rd_T44 l0 x9_1).f5.f1), .int .i32 ((rd_T44 l0 x9_1).f6.f0), .int .i32 ((rd_T44 l0 x9_1).f6.f1)] (fun k_ => k_ ≠ b111) (fun _ => False) rfl rfl ?aP (fun _ hk => hk.elim) ?aF ?aO ?aB ?aS ?aL ?_; (case aP => exact k44_mkM _ _ _ (⟨(rd_T44 l0 x9_1).f0, (rd_T44 l0 x9_1).f1, (⟨(rd_T44 l0 x9_1).f2.f0, (rd_T44 l0 x9_1).f2.f1⟩ : S39), (rd_T44 l0 x9_1).f3, (rd_T44 l0 x9_1).f4, (⟨(rd_T44 l0 x9_1).f5.f0, (rd_T44 l0 x9_1).f5.f1⟩ : S39), (⟨(rd_T44 l0 x9_1).f6.f0, (rd_T44 l0 x9_1).f6.f1⟩ : S39)⟩ : S44)); (case aB => exact (by repeat (first | (with_reducible first | exact HB.out | apply lA | apply lN | apply lD | refine lS ?_ GE111.out) | exact HB.out))); (case aF => exact (fun k_ hk => Kd.freshB (g := b111) (o := .cells #[.int .u32 a1_0, .int .i32 a1_1, .int .i32 a1_2, .int .i32 a1_3, .int .i32 a1_4, .int .i32 a1_5, .int .i32 a1_6, .int .i32 a1_7, .int .i32 a1_8, .int .i32 a1_9] 44 (0, 0)) (by (with_reducible repeat first | apply bN | apply bD | apply bA); exact BK111.out) k_ hk)); (case aO => exact (by (with_reducible repeat (first | apply Kd.R_alloc | apply Kd.R_drewN | apply Kd.R_drew)); exact HO118.out)); (case aS => exact (lZ (by repeat (first | (with_reducible first | exact HB.out | apply lA | apply lN | apply lD | refine lS ?_ GE111.out) | exact HB.out)))); (case aL => have := LMc18.out; omega); intro v122 w22 ho hb hg hat; rw [← Ny121.out] at ho; have n0_ := aM (blk_grown (g := b111) (o := .cells #[.int .u32 a1_0, .int .i32 a1_1, .int .i32 a1_2, .int .i32 a1_3, .int .i32 a1_4, .int .i32 a1_5, .int .i32 a1_6, .int .i32 a1_7, .int .i32 a1_8, .int .i32 a1_9] 44 (0, 0)) (by (with_reducible repeat first | apply bN | apply bD | apply bA); exact BK111.out) hg (Kd.R_away HO118.out (fun _ hk => hk))); have n1_ := aM (hb); have n2_ := aM (ho); clear BK111; clear HB; clear HO118; have BK111 := n0_; have HB := n1_; have HO123 := n2_; clear n0_ n1_ n2_; clear ho hb hg hat)))
            go_roundg kj5
            case measure => have := HK1.out; have := HJ5.out; omega
            case rel => exact ⟨(y121), (true), (wrap64 (x9_1 + 1)), (by first | rfl | (simp; done) | (simp [*]; done)), (by first | rfl | (simp; done) | (simp [*]; done)), H', ⟨by have := HK1.out; have := HJ5.out; omega⟩, ⟨by (with_reducible repeat (first | apply Kd.R_alloc | apply Kd.R_drewN | apply Kd.R_drew)); exact HO123.out⟩, ⟨by (with_reducible repeat first | apply bN | apply bD | apply bA); exact BK111.out⟩, ⟨by repeat (first | (with_reducible first | exact HB.out | apply lA | apply lN | apply lD | refine lS ?_ GE111.out) | exact HB.out)⟩⟩
           ·rw [if_neg c18] at H
            exact absurd H (by simp)
         ·rw [if_neg c13] at H
          exact absurd H (by simp)
        ·rw [if_neg c12] at H
         exact absurd H (by simp)
       ·rw [if_neg c11] at H
        exact absurd H (by simp)
      ·replace c10 := Bool.eq_false_iff.mpr c10
       subst c10
       rw [if_neg (show ¬ (false = true) by decide)] at H
       by_cases c23 : 0 ≤ x9_1
       ·rw [if_pos c23] at H
        have c23b0 : decide (0 ≤ x9_1) = true := decide_eq_true c23
        clear c23
        by_cases c24 : x9_1 < (l0.length : Int)
        ·rw [if_pos c24] at H
         have c24b0 : decide (x9_1 < (l0.length : Int)) = true := decide_eq_true c24
         clear c24
         by_cases c25 : ((rd_T44 l0 x9_1).f0) = a1_0
         ·rw [if_pos c25] at H
          have c25b0 : (((rd_T44 l0 x9_1).f0) == a1_0) = true := beq_iff_eq.mpr c25
          have c25b1 : (((rd_T44 l0 x9_1).f0) != a1_0) = false := bne_eq_false_iff_eq.mpr c25
          clear c25
          have H' := aM H
          clear H
          have p124 : 0 ≤ (x9_1 : Int) := of_decide_eq_true (by first | (with_reducible assumption) | assumption)
          have q124 : x9_1 < (l0.length : Int) := of_decide_eq_true (by first | (with_reducible assumption) | assumption)
          obtain ⟨ad124, e124, hx124_0, hx124_1, hx124_2, hx124_3, hx124_4, hx124_5, hx124_6, hx124_7, hx124_8, hx124_9⟩ := at_T44 HR0.out x9_1 p124 q124
          cases e124
          replace hx124_0 := (HB.out.cell (World.block_lt_of_cell? w _ hx124_0)).trans hx124_0
          replace hx124_1 := (HB.out.cell (World.block_lt_of_cell? w _ hx124_1)).trans hx124_1
          replace hx124_2 := (HB.out.cell (World.block_lt_of_cell? w _ hx124_2)).trans hx124_2
          replace hx124_3 := (HB.out.cell (World.block_lt_of_cell? w _ hx124_3)).trans hx124_3
          replace hx124_4 := (HB.out.cell (World.block_lt_of_cell? w _ hx124_4)).trans hx124_4
          replace hx124_5 := (HB.out.cell (World.block_lt_of_cell? w _ hx124_5)).trans hx124_5
          replace hx124_6 := (HB.out.cell (World.block_lt_of_cell? w _ hx124_6)).trans hx124_6
          replace hx124_7 := (HB.out.cell (World.block_lt_of_cell? w _ hx124_7)).trans hx124_7
          replace hx124_8 := (HB.out.cell (World.block_lt_of_cell? w _ hx124_8)).trans hx124_8
          replace hx124_9 := (HB.out.cell (World.block_lt_of_cell? w _ hx124_9)).trans hx124_9
          replace p124 := eq_true p124
          replace q124 := eq_true q124
          have hcz26_0 : wc.cell? ⟨b111, 0, none⟩ = some (.int .u32 a1_0) := (bC BK111.out 0).trans rfl
          have hcz26_1 : wc.cell? ⟨b111, 1, none⟩ = some (.int .i32 a1_1) := (bC BK111.out 1).trans rfl
          have hcz26_2 : wc.cell? ⟨b111, 2, none⟩ = some (.int .i32 a1_2) := (bC BK111.out 2).trans rfl
          have hcz26_3 : wc.cell? ⟨b111, 3, none⟩ = some (.int .i32 a1_3) := (bC BK111.out 3).trans rfl
          have hcz26_4 : wc.cell? ⟨b111, 4, none⟩ = some (.int .i32 a1_4) := (bC BK111.out 4).trans rfl
          have hcz26_5 : wc.cell? ⟨b111, 5, none⟩ = some (.int .i32 a1_5) := (bC BK111.out 5).trans rfl
          have hcz26_6 : wc.cell? ⟨b111, 6, none⟩ = some (.int .i32 a1_6) := (bC BK111.out 6).trans rfl
          have hcz26_7 : wc.cell? ⟨b111, 7, none⟩ = some (.int .i32 a1_7) := (bC BK111.out 7).trans rfl
          have hcz26_8 : wc.cell? ⟨b111, 8, none⟩ = some (.int .i32 a1_8) := (bC BK111.out 8).trans rfl
          have hcz26_9 : wc.cell? ⟨b111, 9, none⟩ = some (.int .i32 a1_9) := (bC BK111.out 9).trans rfl
          have hfz26_0 := bF BK111.out 0
          have hfz26_1 := bF BK111.out 1
          have hfz26_2 := bF BK111.out 2
          have hfz26_3 := bF BK111.out 3
          have hfz26_4 := bF BK111.out 4
          have hfz26_5 := bF BK111.out 5
          have hfz26_6 := bF BK111.out 6
          have hfz26_7 := bF BK111.out 7
          have hfz26_8 := bF BK111.out 8
          have hfz26_9 := bF BK111.out 9
          go_wp2
          repeat (go_quiet (fail); try go_wp2)
          go_roundg kj5
          case measure => have := HK1.out; have := HJ5.out; omega
          case rel => exact ⟨(x7_1), (x8_1), (wrap64 (x9_1 + 1)), (by first | rfl | (simp; done) | (simp [*]; done)), (by first | rfl | (simp; done) | (simp [*]; done)), H', ⟨by have := HK1.out; have := HJ5.out; omega⟩, ⟨by (with_reducible repeat (first | apply Kd.R_alloc | apply Kd.R_drewN | apply Kd.R_drew)); exact HO_7.out⟩, ⟨by (with_reducible repeat first | apply bN | apply bD | apply bA); exact BK111.out⟩, ⟨by repeat (first | (with_reducible first | exact HB.out | apply lA | apply lN | apply lD | refine lS ?_ GE111.out) | exact HB.out)⟩⟩
         ·rw [if_neg c25] at H
          have c25b0 : (((rd_T44 l0 x9_1).f0) == a1_0) = false := beq_eq_false_iff_ne.mpr c25
          have c25b1 : (((rd_T44 l0 x9_1).f0) != a1_0) = true := bne_iff_ne.mpr c25
          by_cases c27 : x7_1.length < 3518437208883
          ·rw [if_pos c27] at H
           have LMc27 := aM c27
           clear c27
           obtain ⟨y126, hy126⟩ : ∃ y_ : List (S44), y_ = (x7_1 ++ [(⟨(rd_T44 l0 x9_1).f0, (rd_T44 l0 x9_1).f1, (⟨(rd_T44 l0 x9_1).f2.f0, (rd_T44 l0 x9_1).f2.f1⟩ : S39), (rd_T44 l0 x9_1).f3, (rd_T44 l0 x9_1).f4, (⟨(rd_T44 l0 x9_1).f5.f0, (rd_T44 l0 x9_1).f5.f1⟩ : S39), (⟨(rd_T44 l0 x9_1).f6.f0, (rd_T44 l0 x9_1).f6.f1⟩ : S39)⟩ : S44)]) := ⟨_, rfl⟩
           replace H : (billiardref06_Put.l0 kj5 l0 y126 x8_1 (wrap64 (x9_1 + 1)) a1_0 a1_1 a1_2 a1_3 a1_4 a1_5 a1_6 a1_7 a1_8 a1_9) = some r := by first | (rw [hy126]; with_reducible exact H) | (have H2_ := (Option.bind_some _ _).symm.trans H; rw [hy126]; with_reducible exact H2_) | (have H2_ := (Option.bind_some _ _).symm.trans H; with_reducible exact H2_) | with_reducible exact H | (rw [hy126]; exact H) | exact H
           have Ny126 := aM hy126
           clear hy126
           have H' := aM H
           clear H
           have p124 : 0 ≤ (x9_1 : Int) := of_decide_eq_true (by first | (with_reducible assumption) | assumption)
           have q124 : x9_1 < (l0.length : Int) := of_decide_eq_true (by first | (with_reducible assumption) | assumption)
           obtain ⟨ad124, e124, hx124_0, hx124_1, hx124_2, hx124_3, hx124_4, hx124_5, hx124_6, hx124_7, hx124_8, hx124_9⟩ := at_T44 HR0.out x9_1 p124 q124
           cases e124
           replace hx124_0 := (HB.out.cell (World.block_lt_of_cell? w _ hx124_0)).trans hx124_0
           replace hx124_1 := (HB.out.cell (World.block_lt_of_cell? w _ hx124_1)).trans hx124_1
           replace hx124_2 := (HB.out.cell (World.block_lt_of_cell? w _ hx124_2)).trans hx124_2
           replace hx124_3 := (HB.out.cell (World.block_lt_of_cell? w _ hx124_3)).trans hx124_3
           replace hx124_4 := (HB.out.cell (World.block_lt_of_cell? w _ hx124_4)).trans hx124_4
           replace hx124_5 := (HB.out.cell (World.block_lt_of_cell? w _ hx124_5)).trans hx124_5
           replace hx124_6 := (HB.out.cell (World.block_lt_of_cell? w _ hx124_6)).trans hx124_6
           replace hx124_7 := (HB.out.cell (World.block_lt_of_cell? w _ hx124_7)).trans hx124_7
           replace hx124_8 := (HB.out.cell (World.block_lt_of_cell? w _ hx124_8)).trans hx124_8
           replace hx124_9 := (HB.out.cell (World.block_lt_of_cell? w _ hx124_9)).trans hx124_9
           replace p124 := eq_true p124
           replace q124 := eq_true q124
           have hcz28_0 : wc.cell? ⟨b111, 0, none⟩ = some (.int .u32 a1_0) := (bC BK111.out 0).trans rfl
           have hcz28_1 : wc.cell? ⟨b111, 1, none⟩ = some (.int .i32 a1_1) := (bC BK111.out 1).trans rfl
           have hcz28_2 : wc.cell? ⟨b111, 2, none⟩ = some (.int .i32 a1_2) := (bC BK111.out 2).trans rfl
           have hcz28_3 : wc.cell? ⟨b111, 3, none⟩ = some (.int .i32 a1_3) := (bC BK111.out 3).trans rfl
           have hcz28_4 : wc.cell? ⟨b111, 4, none⟩ = some (.int .i32 a1_4) := (bC BK111.out 4).trans rfl
           have hcz28_5 : wc.cell? ⟨b111, 5, none⟩ = some (.int .i32 a1_5) := (bC BK111.out 5).trans rfl
           have hcz28_6 : wc.cell? ⟨b111, 6, none⟩ = some (.int .i32 a1_6) := (bC BK111.out 6).trans rfl
           have hcz28_7 : wc.cell? ⟨b111, 7, none⟩ = some (.int .i32 a1_7) := (bC BK111.out 7).trans rfl
           have hcz28_8 : wc.cell? ⟨b111, 8, none⟩ = some (.int .i32 a1_8) := (bC BK111.out 8).trans rfl
           have hcz28_9 : wc.cell? ⟨b111, 9, none⟩ = some (.int .i32 a1_9) := (bC BK111.out 9).trans rfl
           have hfz28_0 := bF BK111.out 0
           have hfz28_1 := bF BK111.out 1
           have hfz28_2 := bF BK111.out 2
           have hfz28_3 := bF BK111.out 3
           have hfz28_4 := bF BK111.out 4
           have hfz28_5 := bF BK111.out 5
           have hfz28_6 := bF BK111.out 6
           have hfz28_7 := bF BK111.out 7
           have hfz28_8 := bF BK111.out 8
           have hfz28_9 := bF BK111.out 9
           have p125 : 0 ≤ (x9_1 : Int) := of_decide_eq_true (by first | (with_reducible assumption) | assumption)
           have q125 : x9_1 < (l0.length : Int) := of_decide_eq_true (by first | (with_reducible assumption) | assumption)
           obtain ⟨ad125, e125, hx125_0, hx125_1, hx125_2, hx125_3, hx125_4, hx125_5, hx125_6, hx125_7, hx125_8, hx125_9⟩ := at_T44 HR0.out x9_1 p125 q125
           obtain rfl : ad124 = ad125 := (by injection e125)
           replace hx125_0 := (HB.out.cell (World.block_lt_of_cell? w _ hx125_0)).trans hx125_0
           replace hx125_1 := (HB.out.cell (World.block_lt_of_cell? w _ hx125_1)).trans hx125_1
           replace hx125_2 := (HB.out.cell (World.block_lt_of_cell? w _ hx125_2)).trans hx125_2
           replace hx125_3 := (HB.out.cell (World.block_lt_of_cell? w _ hx125_3)).trans hx125_3
           replace hx125_4 := (HB.out.cell (World.block_lt_of_cell? w _ hx125_4)).trans hx125_4
           replace hx125_5 := (HB.out.cell (World.block_lt_of_cell? w _ hx125_5)).trans hx125_5
           replace hx125_6 := (HB.out.cell (World.block_lt_of_cell? w _ hx125_6)).trans hx125_6
           replace hx125_7 := (HB.out.cell (World.block_lt_of_cell? w _ hx125_7)).trans hx125_7
           replace hx125_8 := (HB.out.cell (World.block_lt_of_cell? w _ hx125_8)).trans hx125_8
           replace hx125_9 := (HB.out.cell (World.block_lt_of_cell? w _ hx125_9)).trans hx125_9
           replace p125 := eq_true p125
           replace q125 := eq_true q125
           go_wp2_with (first | ((with_reducible refine gate_builtin (b := .append) (xs := #[.tmp 41, .tmp 46]) rfl ?_); at_builtin; refine Kd.R_append k44 (w0 := w) w.heap.size rfl (.tmp 41) (.tmp 46) 22 44 (.agg #[(.int .u32 0), (.int .i32 0), (.int .i32 0), (.int .i32 0), (.int .i32 0), (.int .i32 0), (.int .i32 0), (.int .i32 0), (.int .i32 0), (.int .i32 0)]) 40 rfl Try.underlying22 info44 rfl (by decide) (by omega) u7 x7_1 (⟨(rd_T44 l0 x9_1).f0, (rd_T44 l0 x9_1).f1, (⟨(rd_T44 l0 x9_1).f2.f0, (rd_T44 l0 x9_1).f2.f1⟩ : S39), (rd_T44 l0 x9_1).f3, (rd_T44 l0 x9_1).f4, (⟨(rd_T44 l0 x9_1).f5.f0, (rd_T44 l0 x9_1).f5.f1⟩ : S39), (⟨(rd_T44 l0 x9_1).f6.f0, (rd_T44 l0 x9_1).f6.f1⟩ : S39)⟩ : S44) [.int .u32 ((rd_T44 l0 x9_1).f0), .int .i32 ((rd_T44 l0 x9_1).f1), .int .i32 ((rd_T44 l0 x9_1).f2.f0), .int .i32 ((rd_T44 l0 x9_1).f2.f1), .int .i32 ((rd_T44 l0 x9_1).f3), .int .i32 ((rd_T44 l0 x9_1).f4), .int .i32 ((rd_T44 l0 x9_1).f5.f0), .int .i32 ((rd_T44 l0 x9_1).f5.f1), .int .i32 ((rd_T44 l0 x9_1).f6.f0), .int .i32 ((rd_T44 l0 x9_1).f6.f1)] (fun k_ => k_ ≠ b111) (fun _ => False) rfl rfl ?aP (fun _ hk => hk.elim) ?aF ?aO ?aB ?aS ?aL ?_; (case aP => exact k44_mkM _ _ _ (⟨(rd_T44 l0 x9_1).f0, (rd_T44 l0 x9_1).f1, (⟨(rd_T44 l0 x9_1).f2.f0, (rd_T44 l0 x9_1).f2.f1⟩ : S39), (rd_T44 l0 x9_1).f3, (rd_T44 l0 x9_1).f4, (⟨(rd_T44 l0 x9_1).f5.f0, (rd_T44 l0 x9_1).f5.f1⟩ : S39), (⟨(rd_T44 l0 x9_1).f6.f0, (rd_T44 l0 x9_1).f6.f1⟩ : S39)⟩ : S44)); (case aB => exact (by repeat (first | (with_reducible first | exact HB.out | apply lA | apply lN | apply lD | refine lS ?_ GE111.out) | exact HB.out))); (case aF => exact (fun k_ hk => Kd.freshB (g := b111) (o := .cells #[.int .u32 a1_0, .int .i32 a1_1, .int .i32 a1_2, .int .i32 a1_3, .int .i32 a1_4, .int .i32 a1_5, .int .i32 a1_6, .int .i32 a1_7, .int .i32 a1_8, .int .i32 a1_9] 44 (0, 0)) (by (with_reducible repeat first | apply bN | apply bD | apply bA); exact BK111.out) k_ hk)); (case aO => exact (by (with_reducible repeat (first | apply Kd.R_alloc | apply Kd.R_drewN | apply Kd.R_drew)); exact HO_7.out)); (case aS => exact (lZ (by repeat (first | (with_reducible first | exact HB.out | apply lA | apply lN | apply lD | refine lS ?_ GE111.out) | exact HB.out)))); (case aL => have := LMc27.out; omega); intro v127 w29 ho hb hg hat; rw [← Ny126.out] at ho; have n0_ := aM (blk_grown (g := b111) (o := .cells #[.int .u32 a1_0, .int .i32 a1_1, .int .i32 a1_2, .int .i32 a1_3, .int .i32 a1_4, .int .i32 a1_5, .int .i32 a1_6, .int .i32 a1_7, .int .i32 a1_8, .int .i32 a1_9] 44 (0, 0)) (by (with_reducible repeat first | apply bN | apply bD | apply bA); exact BK111.out) hg (Kd.R_away HO_7.out (fun _ hk => hk))); have n1_ := aM (hb); have n2_ := aM (ho); clear BK111; clear HB; clear HO_7; have BK111 := n0_; have HB := n1_; have HO128 := n2_; clear n0_ n1_ n2_; clear ho hb hg hat))
           repeat (go_quiet (first | ((with_reducible refine gate_builtin (b := .append) (xs := #[.tmp 41, .tmp 46]) rfl ?_); at_builtin; refine Kd.R_append k44 (w0 := w) w.heap.size rfl (.tmp 41) (.tmp 46) 22 44 (.agg #[(.int .u32 0), (.int .i32 0), (.int .i32 0), (.int .i32 0), (.int .i32 0), (.int .i32 0), (.int .i32 0), (.int .i32 0), (.int .i32 0), (.int .i32 0)]) 40 rfl Try.underlying22 info44 rfl (by decide) (by omega) u7 x7_1 (⟨(rd_T44 l0 x9_1).f0, (rd_T44 l0 x9_1).f1, (⟨(rd_T44 l0 x9_1).f2.f0, (rd_T44 l0 x9_1).f2.f1⟩ : S39), (rd_T44 l0 x9_1).f3, (rd_T44 l0 x9_1).f4, (⟨(rd_T44 l0 x9_1).f5.f0, (rd_T44 l0 x9_1).f5.f1⟩ : S39), (⟨(rd_T44 l0 x9_1).f6.f0, (rd_T44 l0 x9_1).f6.f1⟩ : S39)⟩ : S44) [.int .u32 ((rd_T44 l0 x9_1).f0), .int .i32 ((rd_T44 l0 x9_1).f1), .int .i32 ((rd_T44 l0 x9_1).f2.f0), .int .i32 ((rd_T44 l0 x9_1).f2.f1), .int .i32 ((rd_T44 l0 x9_1).f3), .int .i32 ((rd_T44 l0 x9_1).f4), .int .i32 ((rd_T44 l0 x9_1).f5.f0), .int .i32 ((rd_T44 l0 x9_1).f5.f1), .int .i32 ((rd_T44 l0 x9_1).f6.f0), .int .i32 ((rd_T44 l0 x9_1).f6.f1)] (fun k_ => k_ ≠ b111) (fun _ => False) rfl rfl ?aP (fun _ hk => hk.elim) ?aF ?aO ?aB ?aS ?aL ?_; (case aP => exact k44_mkM _ _ _ (⟨(rd_T44 l0 x9_1).f0, (rd_T44 l0 x9_1).f1, (⟨(rd_T44 l0 x9_1).f2.f0, (rd_T44 l0 x9_1).f2.f1⟩ : S39), (rd_T44 l0 x9_1).f3, (rd_T44 l0 x9_1).f4, (⟨(rd_T44 l0 x9_1).f5.f0, (rd_T44 l0 x9_1).f5.f1⟩ : S39), (⟨(rd_T44 l0 x9_1).f6.f0, (rd_T44 l0 x9_1).f6.f1⟩ : S39)⟩ : S44)); (case aB => exact (by repeat (first | (with_reducible first | exact HB.out | apply lA | apply lN | apply lD | refine lS ?_ GE111.out) | exact HB.out))); (case aF => exact (fun k_ hk => Kd.freshB (g := b111) (o := .cells #[.int .u32 a1_0, .int .i32 a1_1, .int .i32 a1_2, .int .i32 a1_3, .int .i32 a1_4, .int .i32 a1_5, .int .i32 a1_6, .int .i32 a1_7, .int .i32 a1_8, .int .i32 a1_9] 44 (0, 0)) (by (with_reducible repeat first | apply bN | apply bD | apply bA); exact BK111.out) k_ hk)); (case aO => exact (by (with_reducible repeat (first | apply Kd.R_alloc | apply Kd.R_drewN | apply Kd.R_drew)); exact HO_7.out)); (case aS => exact (lZ (by repeat (first | (with_reducible first | exact HB.out | apply lA | apply lN | apply lD | refine lS ?_ GE111.out) | exact HB.out)))); (case aL => have := LMc27.out; omega); intro v127 w29 ho hb hg hat; rw [← Ny126.out] at ho; have n0_ := aM (blk_grown (g := b111) (o := .cells #[.int .u32 a1_0, .int .i32 a1_1, .int .i32 a1_2, .int .i32 a1_3, .int .i32 a1_4, .int .i32 a1_5, .int .i32 a1_6, .int .i32 a1_7, .int .i32 a1_8, .int .i32 a1_9] 44 (0, 0)) (by (with_reducible repeat first | apply bN | apply bD | apply bA); exact BK111.out) hg (Kd.R_away HO_7.out (fun _ hk => hk))); have n1_ := aM (hb); have n2_ := aM (ho); clear BK111; clear HB; clear HO_7; have BK111 := n0_; have HB := n1_; have HO128 := n2_; clear n0_ n1_ n2_; clear ho hb hg hat)); try go_wp2_with (first | ((with_reducible refine gate_builtin (b := .append) (xs := #[.tmp 41, .tmp 46]) rfl ?_); at_builtin; refine Kd.R_append k44 (w0 := w) w.heap.size rfl (.tmp 41) (.tmp 46) 22 44 (.agg #[(.int .u32 0), (.int .i32 0), (.int .i32 0), (.int .i32 0), (.int .i32 0), (.int .i32 0), (.int .i32 0), (.int .i32 0), (.int .i32 0), (.int .i32 0)]) 40 rfl Try.underlying22 info44 rfl (by decide) (by omega) u7 x7_1 (⟨(rd_T44 l0 x9_1).f0, (rd_T44 l0 x9_1).f1, (⟨(rd_T44 l0 x9_1).f2.f0, (rd_T44 l0 x9_1).f2.f1⟩ : S39), (rd_T44 l0 x9_1).f3, (rd_T44 l0 x9_1).f4, (⟨(rd_T44 l0 x9_1).f5.f0, (rd_T44 l0 x9_1).f5.f1⟩ : S39), (⟨(rd_T44 l0 x9_1).f6.f0, (rd_T44 l0 x9_1).f6.f1⟩ : S39)⟩ : S44) [.int .u32 ((rd_T44 l0 x9_1).f0), .int .i32 ((rd_T44 l0 x9_1).f1), .int .i32 ((rd_T44 l0 x9_1).f2.f0), .int .i32 ((rd_T44 l0 x9_1).f2.f1), .int .i32 ((rd_T44 l0 x9_1).f3), .int .i32 ((rd_T44 l0 x9_1).f4), .int .i32 ((rd_T44 l0 x9_1).f5.f0), .int .i32 ((rd_T44 l0 x9_1).f5.f1), .int .i32 ((rd_T44 l0 x9_1).f6.f0), .int .i32 ((rd_T44 l0 x9_1).f6.f1)] (fun k_ => k_ ≠ b111) (fun _ => False) rfl rfl ?aP (fun _ hk => hk.elim) ?aF ?aO ?aB ?aS ?aL ?_; (case aP => exact k44_mkM _ _ _ (⟨(rd_T44 l0 x9_1).f0, (rd_T44 l0 x9_1).f1, (⟨(rd_T44 l0 x9_1).f2.f0, (rd_T44 l0 x9_1).f2.f1⟩ : S39), (rd_T44 l0 x9_1).f3, (rd_T44 l0 x9_1).f4, (⟨(rd_T44 l0 x9_1).f5.f0, (rd_T44 l0 x9_1).f5.f1⟩ : S39), (⟨(rd_T44 l0 x9_1).f6.f0, (rd_T44 l0 x9_1).f6.f1⟩ : S39)⟩ : S44)); (case aB => exact (by repeat (first | (with_reducible first | exact HB.out | apply lA | apply lN | apply lD | refine lS ?_ GE111.out) | exact HB.out))); (case aF => exact (fun k_ hk => Kd.freshB (g := b111) (o := .cells #[.int .u32 a1_0, .int .i32 a1_1, .int .i32 a1_2, .int .i32 a1_3, .int .i32 a1_4, .int .i32 a1_5, .int .i32 a1_6, .int .i32 a1_7, .int .i32 a1_8, .int .i32 a1_9] 44 (0, 0)) (by (with_reducible repeat first | apply bN | apply bD | apply bA); exact BK111.out) k_ hk)); (case aO => exact (by (with_reducible repeat (first | apply Kd.R_alloc | apply Kd.R_drewN | apply Kd.R_drew)); exact HO_7.out)); (case aS => exact (lZ (by repeat (first | (with_reducible first | exact HB.out | apply lA | apply lN | apply lD | refine lS ?_ GE111.out) | exact HB.out)))); (case aL => have := LMc27.out; omega); intro v127 w29 ho hb hg hat; rw [← Ny126.out] at ho; have n0_ := aM (blk_grown (g := b111) (o := .cells #[.int .u32 a1_0, .int .i32 a1_1, .int .i32 a1_2, .int .i32 a1_3, .int .i32 a1_4, .int .i32 a1_5, .int .i32 a1_6, .int .i32 a1_7, .int .i32 a1_8, .int .i32 a1_9] 44 (0, 0)) (by (with_reducible repeat first | apply bN | apply bD | apply bA); exact BK111.out) hg (Kd.R_away HO_7.out (fun _ hk => hk))); have n1_ := aM (hb); have n2_ := aM (ho); clear BK111; clear HB; clear HO_7; have BK111 := n0_; have HB := n1_; have HO128 := n2_; clear n0_ n1_ n2_; clear ho hb hg hat)))
           go_roundg kj5
           case measure => have := HK1.out; have := HJ5.out; omega
           case rel => exact ⟨(y126), (x8_1), (wrap64 (x9_1 + 1)), (by first | rfl | (simp; done) | (simp [*]; done)), (by first | rfl | (simp; done) | (simp [*]; done)), H', ⟨by have := HK1.out; have := HJ5.out; omega⟩, ⟨by (with_reducible repeat (first | apply Kd.R_alloc | apply Kd.R_drewN | apply Kd.R_drew)); exact HO128.out⟩, ⟨by (with_reducible repeat first | apply bN | apply bD | apply bA); exact BK111.out⟩, ⟨by repeat (first | (with_reducible first | exact HB.out | apply lA | apply lN | apply lD | refine lS ?_ GE111.out) | exact HB.out)⟩⟩
          ·rw [if_neg c27] at H
           exact absurd H (by simp)
        ·rw [if_neg c24] at H
         exact absurd H (by simp)
       ·rw [if_neg c23] at H
        exact absurd H (by simp)
   ·rw [if_neg c5] at H
    have c5b0 : decide (x9_1 < (l0.length : Int)) = false := decide_eq_false c5
    clear c5
    by_cases c30 : x8_1 = true
    ·subst c30
     rw [if_pos rfl] at H
     obtain rfl := Option.some.inj H
     go_wp2
     repeat (go_quiet (fail); try go_wp2)
     go_ret
     exact ⟨_, by first | rfl | (simp [errW_none, errW_some] <;> rfl) | (simp [*, errW_none, errW_some] <;> rfl), by (with_reducible repeat (first | apply Kd.R_alloc | apply Kd.R_drewN | apply Kd.R_drew)); exact Kd.R_mono HO_7.out (fun _ hk => trivial), by repeat (first | (with_reducible first | exact HB.out | apply lA | apply lN | apply lD | refine lS ?_ GE111.out) | exact HB.out)⟩
    ·replace c30 := Bool.eq_false_iff.mpr c30
     subst c30
     rw [if_neg (show ¬ (false = true) by decide)] at H
     by_cases c31 : x7_1.length < 3518437208883
     ·rw [if_pos c31] at H
      have LMc31 := aM c31
      clear c31
      obtain ⟨y112, hy112⟩ : ∃ y_ : List (S44), y_ = (x7_1 ++ [(⟨a1_0, a1_1, (⟨a1_2, a1_3⟩ : S39), a1_4, a1_5, (⟨a1_6, a1_7⟩ : S39), (⟨a1_8, a1_9⟩ : S39)⟩ : S44)]) := ⟨_, rfl⟩
      replace H : (some y112) = some r := by first | (rw [hy112]; with_reducible exact H) | (have H2_ := (Option.bind_some _ _).symm.trans H; rw [hy112]; with_reducible exact H2_) | (have H2_ := (Option.bind_some _ _).symm.trans H; with_reducible exact H2_) | with_reducible exact H | (rw [hy112]; exact H) | exact H
      have Ny112 := aM hy112
      clear hy112
      obtain rfl := Option.some.inj H
      have hcz32_0 : wr.cell? ⟨b111, 0, none⟩ = some (.int .u32 a1_0) := (bC BK111.out 0).trans rfl
      have hcz32_1 : wr.cell? ⟨b111, 1, none⟩ = some (.int .i32 a1_1) := (bC BK111.out 1).trans rfl
      have hcz32_2 : wr.cell? ⟨b111, 2, none⟩ = some (.int .i32 a1_2) := (bC BK111.out 2).trans rfl
      have hcz32_3 : wr.cell? ⟨b111, 3, none⟩ = some (.int .i32 a1_3) := (bC BK111.out 3).trans rfl
      have hcz32_4 : wr.cell? ⟨b111, 4, none⟩ = some (.int .i32 a1_4) := (bC BK111.out 4).trans rfl
      have hcz32_5 : wr.cell? ⟨b111, 5, none⟩ = some (.int .i32 a1_5) := (bC BK111.out 5).trans rfl
      have hcz32_6 : wr.cell? ⟨b111, 6, none⟩ = some (.int .i32 a1_6) := (bC BK111.out 6).trans rfl
      have hcz32_7 : wr.cell? ⟨b111, 7, none⟩ = some (.int .i32 a1_7) := (bC BK111.out 7).trans rfl
      have hcz32_8 : wr.cell? ⟨b111, 8, none⟩ = some (.int .i32 a1_8) := (bC BK111.out 8).trans rfl
      have hcz32_9 : wr.cell? ⟨b111, 9, none⟩ = some (.int .i32 a1_9) := (bC BK111.out 9).trans rfl
      have hfz32_0 := bF BK111.out 0
      have hfz32_1 := bF BK111.out 1
      have hfz32_2 := bF BK111.out 2
      have hfz32_3 := bF BK111.out 3
      have hfz32_4 := bF BK111.out 4
      have hfz32_5 := bF BK111.out 5
      have hfz32_6 := bF BK111.out 6
      have hfz32_7 := bF BK111.out 7
      have hfz32_8 := bF BK111.out 8
      have hfz32_9 := bF BK111.out 9
      go_wp2_with (first | ((with_reducible refine gate_builtin (b := .append) (xs := #[.tmp 50, .tmp 52]) rfl ?_); at_builtin; refine Kd.R_append k44 (w0 := w) w.heap.size rfl (.tmp 50) (.tmp 52) 22 44 (.agg #[(.int .u32 0), (.int .i32 0), (.int .i32 0), (.int .i32 0), (.int .i32 0), (.int .i32 0), (.int .i32 0), (.int .i32 0), (.int .i32 0), (.int .i32 0)]) 40 rfl Try.underlying22 info44 rfl (by decide) (by omega) u7 x7_1 (⟨a1_0, a1_1, (⟨a1_2, a1_3⟩ : S39), a1_4, a1_5, (⟨a1_6, a1_7⟩ : S39), (⟨a1_8, a1_9⟩ : S39)⟩ : S44) [.int .u32 a1_0, .int .i32 a1_1, .int .i32 a1_2, .int .i32 a1_3, .int .i32 a1_4, .int .i32 a1_5, .int .i32 a1_6, .int .i32 a1_7, .int .i32 a1_8, .int .i32 a1_9] (fun k_ => k_ ≠ b111) (fun _ => False) rfl rfl ?aP (fun _ hk => hk.elim) ?aF ?aO ?aB ?aS ?aL ?_; (case aP => exact k44_mkM _ _ _ (⟨a1_0, a1_1, (⟨a1_2, a1_3⟩ : S39), a1_4, a1_5, (⟨a1_6, a1_7⟩ : S39), (⟨a1_8, a1_9⟩ : S39)⟩ : S44)); (case aB => exact (by repeat (first | (with_reducible first | exact HB.out | apply lA | apply lN | apply lD | refine lS ?_ GE111.out) | exact HB.out))); (case aF => exact (fun k_ hk => Kd.freshB (g := b111) (o := .cells #[.int .u32 a1_0, .int .i32 a1_1, .int .i32 a1_2, .int .i32 a1_3, .int .i32 a1_4, .int .i32 a1_5, .int .i32 a1_6, .int .i32 a1_7, .int .i32 a1_8, .int .i32 a1_9] 44 (0, 0)) (by (with_reducible repeat first | apply bN | apply bD | apply bA); exact BK111.out) k_ hk)); (case aO => exact (by (with_reducible repeat (first | apply Kd.R_alloc | apply Kd.R_drewN | apply Kd.R_drew)); exact HO_7.out)); (case aS => exact (lZ (by repeat (first | (with_reducible first | exact HB.out | apply lA | apply lN | apply lD | refine lS ?_ GE111.out) | exact HB.out)))); (case aL => have := LMc31.out; omega); intro v113 w33 ho hb hg hat; rw [← Ny112.out] at ho; have n0_ := aM (blk_grown (g := b111) (o := .cells #[.int .u32 a1_0, .int .i32 a1_1, .int .i32 a1_2, .int .i32 a1_3, .int .i32 a1_4, .int .i32 a1_5, .int .i32 a1_6, .int .i32 a1_7, .int .i32 a1_8, .int .i32 a1_9] 44 (0, 0)) (by (with_reducible repeat first | apply bN | apply bD | apply bA); exact BK111.out) hg (Kd.R_away HO_7.out (fun _ hk => hk))); have n1_ := aM (hb); have n2_ := aM (ho); clear BK111; clear HB; clear HO_7; have BK111 := n0_; have HB := n1_; have HO114 := n2_; clear n0_ n1_ n2_; clear ho hb hg hat))
      repeat (go_quiet (first | ((with_reducible refine gate_builtin (b := .append) (xs := #[.tmp 50, .tmp 52]) rfl ?_); at_builtin; refine Kd.R_append k44 (w0 := w) w.heap.size rfl (.tmp 50) (.tmp 52) 22 44 (.agg #[(.int .u32 0), (.int .i32 0), (.int .i32 0), (.int .i32 0), (.int .i32 0), (.int .i32 0), (.int .i32 0), (.int .i32 0), (.int .i32 0), (.int .i32 0)]) 40 rfl Try.underlying22 info44 rfl (by decide) (by omega) u7 x7_1 (⟨a1_0, a1_1, (⟨a1_2, a1_3⟩ : S39), a1_4, a1_5, (⟨a1_6, a1_7⟩ : S39), (⟨a1_8, a1_9⟩ : S39)⟩ : S44) [.int .u32 a1_0, .int .i32 a1_1, .int .i32 a1_2, .int .i32 a1_3, .int .i32 a1_4, .int .i32 a1_5, .int .i32 a1_6, .int .i32 a1_7, .int .i32 a1_8, .int .i32 a1_9] (fun k_ => k_ ≠ b111) (fun _ => False) rfl rfl ?aP (fun _ hk => hk.elim) ?aF ?aO ?aB ?aS ?aL ?_; (case aP => exact k44_mkM _ _ _ (⟨a1_0, a1_1, (⟨a1_2, a1_3⟩ : S39), a1_4, a1_5, (⟨a1_6, a1_7⟩ : S39), (⟨a1_8, a1_9⟩ : S39)⟩ : S44)); (case aB => exact (by repeat (first | (with_reducible first | exact HB.out | apply lA | apply lN | apply lD | refine lS ?_ GE111.out) | exact HB.out))); (case aF => exact (fun k_ hk => Kd.freshB (g := b111) (o := .cells #[.int .u32 a1_0, .int .i32 a1_1, .int .i32 a1_2, .int .i32 a1_3, .int .i32 a1_4, .int .i32 a1_5, .int .i32 a1_6, .int .i32 a1_7, .int .i32 a1_8, .int .i32 a1_9] 44 (0, 0)) (by (with_reducible repeat first | apply bN | apply bD | apply bA); exact BK111.out) k_ hk)); (case aO => exact (by (with_reducible repeat (first | apply Kd.R_alloc | apply Kd.R_drewN | apply Kd.R_drew)); exact HO_7.out)); (case aS => exact (lZ (by repeat (first | (with_reducible first | exact HB.out | apply lA | apply lN | apply lD | refine lS ?_ GE111.out) | exact HB.out)))); (case aL => have := LMc31.out; omega); intro v113 w33 ho hb hg hat; rw [← Ny112.out] at ho; have n0_ := aM (blk_grown (g := b111) (o := .cells #[.int .u32 a1_0, .int .i32 a1_1, .int .i32 a1_2, .int .i32 a1_3, .int .i32 a1_4, .int .i32 a1_5, .int .i32 a1_6, .int .i32 a1_7, .int .i32 a1_8, .int .i32 a1_9] 44 (0, 0)) (by (with_reducible repeat first | apply bN | apply bD | apply bA); exact BK111.out) hg (Kd.R_away HO_7.out (fun _ hk => hk))); have n1_ := aM (hb); have n2_ := aM (ho); clear BK111; clear HB; clear HO_7; have BK111 := n0_; have HB := n1_; have HO114 := n2_; clear n0_ n1_ n2_; clear ho hb hg hat)); try go_wp2_with (first | ((with_reducible refine gate_builtin (b := .append) (xs := #[.tmp 50, .tmp 52]) rfl ?_); at_builtin; refine Kd.R_append k44 (w0 := w) w.heap.size rfl (.tmp 50) (.tmp 52) 22 44 (.agg #[(.int .u32 0), (.int .i32 0), (.int .i32 0), (.int .i32 0), (.int .i32 0), (.int .i32 0), (.int .i32 0), (.int .i32 0), (.int .i32 0), (.int .i32 0)]) 40 rfl Try.underlying22 info44 rfl (by decide) (by omega) u7 x7_1 (⟨a1_0, a1_1, (⟨a1_2, a1_3⟩ : S39), a1_4, a1_5, (⟨a1_6, a1_7⟩ : S39), (⟨a1_8, a1_9⟩ : S39)⟩ : S44) [.int .u32 a1_0, .int .i32 a1_1, .int .i32 a1_2, .int .i32 a1_3, .int .i32 a1_4, .int .i32 a1_5, .int .i32 a1_6, .int .i32 a1_7, .int .i32 a1_8, .int .i32 a1_9] (fun k_ => k_ ≠ b111) (fun _ => False) rfl rfl ?aP (fun _ hk => hk.elim) ?aF ?aO ?aB ?aS ?aL ?_; (case aP => exact k44_mkM _ _ _ (⟨a1_0, a1_1, (⟨a1_2, a1_3⟩ : S39), a1_4, a1_5, (⟨a1_6, a1_7⟩ : S39), (⟨a1_8, a1_9⟩ : S39)⟩ : S44)); (case aB => exact (by repeat (first | (with_reducible first | exact HB.out | apply lA | apply lN | apply lD | refine lS ?_ GE111.out) | exact HB.out))); (case aF => exact (fun k_ hk => Kd.freshB (g := b111) (o := .cells #[.int .u32 a1_0, .int .i32 a1_1, .int .i32 a1_2, .int .i32 a1_3, .int .i32 a1_4, .int .i32 a1_5, .int .i32 a1_6, .int .i32 a1_7, .int .i32 a1_8, .int .i32 a1_9] 44 (0, 0)) (by (with_reducible repeat first | apply bN | apply bD | apply bA); exact BK111.out) k_ hk)); (case aO => exact (by (with_reducible repeat (first | apply Kd.R_alloc | apply Kd.R_drewN | apply Kd.R_drew)); exact HO_7.out)); (case aS => exact (lZ (by repeat (first | (with_reducible first | exact HB.out | apply lA | apply lN | apply lD | refine lS ?_ GE111.out) | exact HB.out)))); (case aL => have := LMc31.out; omega); intro v113 w33 ho hb hg hat; rw [← Ny112.out] at ho; have n0_ := aM (blk_grown (g := b111) (o := .cells #[.int .u32 a1_0, .int .i32 a1_1, .int .i32 a1_2, .int .i32 a1_3, .int .i32 a1_4, .int .i32 a1_5, .int .i32 a1_6, .int .i32 a1_7, .int .i32 a1_8, .int .i32 a1_9] 44 (0, 0)) (by (with_reducible repeat first | apply bN | apply bD | apply bA); exact BK111.out) hg (Kd.R_away HO_7.out (fun _ hk => hk))); have n1_ := aM (hb); have n2_ := aM (ho); clear BK111; clear HB; clear HO_7; have BK111 := n0_; have HB := n1_; have HO114 := n2_; clear n0_ n1_ n2_; clear ho hb hg hat)))
      go_ret
      exact ⟨_, by first | rfl | (simp [errW_none, errW_some] <;> rfl) | (simp [*, errW_none, errW_some] <;> rfl), by (with_reducible repeat (first | apply Kd.R_alloc | apply Kd.R_drewN | apply Kd.R_drew)); exact Kd.R_mono HO114.out (fun _ hk => trivial), by repeat (first | (with_reducible first | exact HB.out | apply lA | apply lN | apply lD | refine lS ?_ GE111.out) | exact HB.out)⟩
     ·rw [if_neg c31] at H
      exact absurd H (by simp)

/-! ### billiardref06_Add: function 34 -/
def billiardref06_Add.f (k : Nat) (l0 : List (S44)) (a1_0 : Int) (a1_1 : Int) (a1_2 : Int) (a1_3 : Int) (a1_4 : Int) (a1_5 : Int) (a1_6 : Int) (a1_7 : Int) (a1_8 : Int) (a1_9 : Int) : Option ((List (S44)) × Int) := (billiardref05_Check.f k a1_0 a1_1 a1_2 a1_3 a1_4 a1_5 a1_6 a1_7 a1_8 a1_9).bind fun t130 => (if t130 = 0 then ((billiardref06_Find.f k l0 a1_0).bind fun t131 => (if t131 ≥ 0 then (some (l0, 10)) else (if (l0.length : Int) ≥ 4096 then (some (l0, 12)) else ((billiardref06_Put.f k l0 a1_0 a1_1 a1_2 a1_3 a1_4 a1_5 a1_6 a1_7 a1_8 a1_9 false).bind fun t132 => (some (t132, 0)))))) else (some (l0, t130)))
theorem billiardref06_Add.mono : ∀ a0 a1 a2 a3 a4 a5 a6 a7 a8 a9 a10 k, LeO (billiardref06_Add.f k a0 a1 a2 a3 a4 a5 a6 a7 a8 a9 a10) (billiardref06_Add.f (k + 1) a0 a1 a2 a3 a4 a5 a6 a7 a8 a9 a10) := by
 intro a0 a1 a2 a3 a4 a5 a6 a7 a8 a9 a10 k
 unfold billiardref06_Add.f
 repeat' first
   | (with_reducible exact billiardref05_Check.mono _ _ _ _ _ _ _ _ _ _ _)
   | (with_reducible exact billiardref06_Find.mono _ _ _)
   | (with_reducible exact billiardref06_Put.mono _ _ _ _ _ _ _ _ _ _ _ _ _)
   | (with_reducible exact LeO.refl _)
   | (with_reducible exact LeO.none _)
   | (with_reducible refine LeO.ite ?_ ?_)
   | (with_reducible refine LeO.bind ?_ (fun _ => ?_))
   | exact billiardref05_Check.mono _ _ _ _ _ _ _ _ _ _ _
   | exact billiardref06_Find.mono _ _ _
   | exact billiardref06_Put.mono _ _ _ _ _ _ _ _ _ _ _ _ _
   | exact LeO.none _
   | refine LeO.ite ?_ ?_
   | refine LeO.bind ?_ (fun _ => ?_)
set_option maxHeartbeats 8000000 in
set_option maxRecDepth 100000 in
theorem billiardref06_Add.calls (k : Nat) (P0_ : Nat → Prop) (u9000_ : Value) (l0 : List (S44)) (a1_0 : Int) (a1_1 : Int) (a1_2 : Int) (a1_3 : Int) (a1_4 : Int) (a1_5 : Int) (a1_6 : Int) (a1_7 : Int) (a1_8 : Int) (a1_9 : Int) (r1 : List (S44)) (r2 : Int) (w0 w : World) (hB : Below w0.heap.size w0 w) (ho0 : Kd.R k44 44 w w0.heap.size P0_ u9000_ l0) (h : billiardref06_Add.f k l0 a1_0 a1_1 a1_2 a1_3 a1_4 a1_5 a1_6 a1_7 a1_8 a1_9 = some (r1, r2)) :
  Calls Try.prog 34 #[u9000_, .agg #[.int .u32 a1_0, .int .i32 a1_1, .int .i32 a1_2, .int .i32 a1_3, .int .i32 a1_4, .int .i32 a1_5, .int .i32 a1_6, .int .i32 a1_7, .int .i32 a1_8, .int .i32 a1_9]] w fun e w' => ∃ v0_ : Value, e = .returned (.tuple #[v0_, .int .i64 r2]) ∧ Kd.R k44 44 w' w0.heap.size (fun k_ => (P0_ k_ ∨ w.heap.size ≤ k_)) v0_ r1 ∧ Below w0.heap.size w0 w' ∧ Kept w w' (fun k_ => P0_ k_) := by
 have hu44 := Try.underlying44
 have HO0 := aM (show Kd.R k44 44 w w0.heap.size (fun k_ => (P0_ k_ ∨ w.heap.size ≤ k_)) u9000_ l0 from Kd.R_mono ho0 (fun k_ hk => (.inl hk)))
 have HK := aM (Kept.refl w (fun k_ => P0_ k_))
 have HW0 := aM hB.size
 have HB := aM hB
 clear hB
 have H : ((billiardref05_Check.f k a1_0 a1_1 a1_2 a1_3 a1_4 a1_5 a1_6 a1_7 a1_8 a1_9).bind fun t130 => (if t130 = 0 then ((billiardref06_Find.f k l0 a1_0).bind fun t131 => (if t131 ≥ 0 then (some (l0, 10)) else (if (l0.length : Int) ≥ 4096 then (some (l0, 12)) else ((billiardref06_Put.f k l0 a1_0 a1_1 a1_2 a1_3 a1_4 a1_5 a1_6 a1_7 a1_8 a1_9 false).bind fun t132 => (some (t132, 0)))))) else (some (l0, t130)))) = some (r1, r2) := h
 clear h
 replace H := Option.bind_eq_some_iff.mp H
 obtain ⟨t130, A30, H⟩ := H
 try dsimp only at H
 have A3 := aM A30
 clear A30
 by_cases c4 : t130 = 0
 ·rw [if_pos c4] at H
  have c4b0 : (t130 == 0) = true := beq_iff_eq.mpr c4
  have c4b1 : (t130 != 0) = false := bne_eq_false_iff_eq.mpr c4
  clear c4
  replace H := Option.bind_eq_some_iff.mp H
  obtain ⟨t131, A50, H⟩ := H
  try dsimp only at H
  have A5 := aM A50
  clear A50
  by_cases c6 : t131 ≥ 0
  ·rw [if_pos c6] at H
   have c6b0 : decide (0 ≤ t131) = true := decide_eq_true c6
   clear c6
   simp only [Option.some.injEq, Prod.mk.injEq] at H
   obtain ⟨rfl, rfl⟩ := H
   go_enter Try.func34, Try.ntmps34
   go_wp2_with (first | ((with_reducible refine gate_dst (N := 3) rfl ?_); refine box_event ?hg (N := 3) ?hd (cs := #[.int .u32 a1_0, .int .i32 a1_1, .int .i32 a1_2, .int .i32 a1_3, .int .i32 a1_4, .int .i32 a1_5, .int .i32 a1_6, .int .i32 a1_7, .int .i32 a1_8, .int .i32 a1_9]) (t := 44) ?hr ?_; (case hd => rfl); (case hg => rfl); (case hr => first | (go_simp; done) | (go_simp; rfl)); intro b129 hg w7 hbox hb; have n0_ := aM (Kd.R_below (Kd.R_elderB (by (with_reducible repeat (first | apply Kd.R_alloc | apply Kd.R_drewN | apply Kd.R_drew)); exact HO0.out) b129 (Nat.le_of_eq hg.symm)) hb); have n1_ := aM (Kept.below (S := (fun k_ => P0_ k_)) (by repeat (first | (with_reducible first | exact HK.out | apply Kept.alloc | apply Kept.drewN | apply Kept.drew) | exact HK.out)) hb); have n2_ := aM (lT (by repeat (first | (with_reducible first | exact HB.out | apply lA | apply lN | apply lD) | exact HB.out)) hb); have n3_ := aM (hbox); have n4_ := aM ((by rw [hg]; exact (by first | exact HK.out.1 | exact (show Kept w _ (fun k_ => P0_ k_) from by repeat (first | (with_reducible first | exact HK.out | apply Kept.alloc | apply Kept.drewN | apply Kept.drew) | exact HK.out)).1) : w.heap.size ≤ b129)); have n5_ := aM ((by rw [hg]; exact (lZ (by repeat (first | (with_reducible first | exact HB.out | apply lA | apply lN | apply lD) | exact HB.out))) : w0.heap.size ≤ b129)); clear HO0; clear HK; clear HB; have HO0 := n0_; have HK := n1_; have HB := n2_; have BK129 := n3_; have GW129 := n4_; have GE129 := n5_; clear n0_ n1_ n2_ n3_ n4_ n5_; clear hb hbox hg; have hcz8_0 : w7.cell? ⟨b129, 0, none⟩ = some (.int .u32 a1_0) := (bC BK129.out 0).trans rfl; have hcz8_1 : w7.cell? ⟨b129, 1, none⟩ = some (.int .i32 a1_1) := (bC BK129.out 1).trans rfl; have hcz8_2 : w7.cell? ⟨b129, 2, none⟩ = some (.int .i32 a1_2) := (bC BK129.out 2).trans rfl; have hcz8_3 : w7.cell? ⟨b129, 3, none⟩ = some (.int .i32 a1_3) := (bC BK129.out 3).trans rfl; have hcz8_4 : w7.cell? ⟨b129, 4, none⟩ = some (.int .i32 a1_4) := (bC BK129.out 4).trans rfl; have hcz8_5 : w7.cell? ⟨b129, 5, none⟩ = some (.int .i32 a1_5) := (bC BK129.out 5).trans rfl; have hcz8_6 : w7.cell? ⟨b129, 6, none⟩ = some (.int .i32 a1_6) := (bC BK129.out 6).trans rfl; have hcz8_7 : w7.cell? ⟨b129, 7, none⟩ = some (.int .i32 a1_7) := (bC BK129.out 7).trans rfl; have hcz8_8 : w7.cell? ⟨b129, 8, none⟩ = some (.int .i32 a1_8) := (bC BK129.out 8).trans rfl; have hcz8_9 : w7.cell? ⟨b129, 9, none⟩ = some (.int .i32 a1_9) := (bC BK129.out 9).trans rfl; have hfz8_0 := bF BK129.out 0; have hfz8_1 := bF BK129.out 1; have hfz8_2 := bF BK129.out 2; have hfz8_3 := bF BK129.out 3; have hfz8_4 := bF BK129.out 4; have hfz8_5 := bF BK129.out 5; have hfz8_6 := bF BK129.out 6; have hfz8_7 := bF BK129.out 7; have hfz8_8 := bF BK129.out 8; have hfz8_9 := bF BK129.out 9) | ((with_reducible refine gate_callee (f := 33) rfl ?_); refine goesL_ (some 8) rfl rfl Try.func33 (by kernel_rfl) rfl #[.agg #[.int .u32 a1_0, .int .i32 a1_1, .int .i32 a1_2, .int .i32 a1_3, .int .i32 a1_4, .int .i32 a1_5, .int .i32 a1_6, .int .i32 a1_7, .int .i32 a1_8, .int .i32 a1_9]] rfl (by (try simp only [List.map_toArray, List.map_cons, List.map_nil]); first | done | rfl | (simp only [List.length_drop, List.length_take]; rfl)) ?_; (with_reducible refine (billiardref05_Check.calls k a1_0 a1_1 a1_2 a1_3 a1_4 a1_5 a1_6 a1_7 a1_8 a1_9 t130 _ A3.out).mono ?_); rintro e w9 ⟨rfl, hb⟩; refine ⟨_, rfl, ?_⟩; have n0_ := aM (Kd.R_below (by (with_reducible repeat (first | apply Kd.R_alloc | apply Kd.R_drewN | apply Kd.R_drew)); exact HO0.out) hb); have n1_ := aM (bB (by (with_reducible repeat first | apply bN | apply bD | apply bA); exact BK129.out) hb); have n2_ := aM (Kept.below (S := (fun k_ => P0_ k_)) (by repeat (first | (with_reducible first | exact HK.out | apply Kept.alloc | apply Kept.drewN | apply Kept.drew | refine Kept.setCell ?_ (.inr GW129.out) _) | exact HK.out)) hb); have n3_ := aM (lT (by repeat (first | (with_reducible first | exact HB.out | apply lA | apply lN | apply lD | refine lS ?_ GE129.out) | exact HB.out)) hb); clear HO0; clear BK129; clear HK; clear HB; have HO0 := n0_; have BK129 := n1_; have HK := n2_; have HB := n3_; clear n0_ n1_ n2_ n3_; (try clear hb); (try clear hb2); (try clear hk); (try clear hi); have hcz10_0 : w9.cell? ⟨b129, 0, none⟩ = some (.int .u32 a1_0) := (bC BK129.out 0).trans rfl; have hcz10_1 : w9.cell? ⟨b129, 1, none⟩ = some (.int .i32 a1_1) := (bC BK129.out 1).trans rfl; have hcz10_2 : w9.cell? ⟨b129, 2, none⟩ = some (.int .i32 a1_2) := (bC BK129.out 2).trans rfl; have hcz10_3 : w9.cell? ⟨b129, 3, none⟩ = some (.int .i32 a1_3) := (bC BK129.out 3).trans rfl; have hcz10_4 : w9.cell? ⟨b129, 4, none⟩ = some (.int .i32 a1_4) := (bC BK129.out 4).trans rfl; have hcz10_5 : w9.cell? ⟨b129, 5, none⟩ = some (.int .i32 a1_5) := (bC BK129.out 5).trans rfl; have hcz10_6 : w9.cell? ⟨b129, 6, none⟩ = some (.int .i32 a1_6) := (bC BK129.out 6).trans rfl; have hcz10_7 : w9.cell? ⟨b129, 7, none⟩ = some (.int .i32 a1_7) := (bC BK129.out 7).trans rfl; have hcz10_8 : w9.cell? ⟨b129, 8, none⟩ = some (.int .i32 a1_8) := (bC BK129.out 8).trans rfl; have hcz10_9 : w9.cell? ⟨b129, 9, none⟩ = some (.int .i32 a1_9) := (bC BK129.out 9).trans rfl; have hfz10_0 := bF BK129.out 0; have hfz10_1 := bF BK129.out 1; have hfz10_2 := bF BK129.out 2; have hfz10_3 := bF BK129.out 3; have hfz10_4 := bF BK129.out 4; have hfz10_5 := bF BK129.out 5; have hfz10_6 := bF BK129.out 6; have hfz10_7 := bF BK129.out 7; have hfz10_8 := bF BK129.out 8; have hfz10_9 := bF BK129.out 9; obtain ⟨Ao11, co11, eo11⟩ := Kd.R_slice HO0.out; subst eo11) | ((with_reducible refine gate_callee (f := 20) rfl ?_); refine goesL_ (some 16) rfl rfl Try.func20 (by kernel_rfl) rfl #[.slice Ao11 l0.length co11, .int .u32 a1_0] rfl (by (try simp only [List.map_toArray, List.map_cons, List.map_nil]); first | done | rfl | (simp only [List.length_drop, List.length_take]; rfl)) ?_; (with_reducible refine (billiardref06_Find.calls k _ _ l0 a1_0 t131 _ ?side1 ?side2 A5.out).mono ?_); (case side1 => repeat (first | exact (Kd.R_reads' HO0.out).2.2 | (with_reducible refine Kd.C_alloc ?_ _) | (with_reducible refine Kd.C_drewN ?_ _) | (with_reducible refine Kd.C_drew ?_))); (case side2 => exact (Kd.R_reads' HO0.out).2.1); rintro e w' ⟨rfl, ⟨nd, rfl⟩⟩; refine ⟨_, rfl, ?_⟩))
   go_ret2
   exact ⟨_, by first | rfl | (simp [errW_none, errW_some] <;> rfl) | (simp [*, errW_none, errW_some] <;> rfl), by (with_reducible repeat (first | apply Kd.R_alloc | apply Kd.R_drewN | apply Kd.R_drew)); exact Kd.R_mono HO0.out (fun _ hk => hk.1), by repeat (first | (with_reducible first | exact HB.out | apply lA | apply lN | apply lD | refine lS ?_ GE129.out) | exact HB.out), by repeat (first | (with_reducible first | exact HK.out | apply Kept.alloc | apply Kept.drewN | apply Kept.drew | refine Kept.setCell ?_ (.inr GW129.out) _) | exact HK.out)⟩
  ·rw [if_neg c6] at H
   have c6b0 : decide (0 ≤ t131) = false := decide_eq_false c6
   clear c6
   by_cases c12 : (l0.length : Int) ≥ 4096
   ·rw [if_pos c12] at H
    have c12b0 : decide (4096 ≤ (l0.length : Int)) = true := decide_eq_true c12
    have c12b1 : decide (4096 ≤ l0.length) = true := decide_eq_true (by omega)
    clear c12
    simp only [Option.some.injEq, Prod.mk.injEq] at H
    obtain ⟨rfl, rfl⟩ := H
    go_enter Try.func34, Try.ntmps34
    go_wp2_with (first | ((with_reducible refine gate_dst (N := 3) rfl ?_); refine box_event ?hg (N := 3) ?hd (cs := #[.int .u32 a1_0, .int .i32 a1_1, .int .i32 a1_2, .int .i32 a1_3, .int .i32 a1_4, .int .i32 a1_5, .int .i32 a1_6, .int .i32 a1_7, .int .i32 a1_8, .int .i32 a1_9]) (t := 44) ?hr ?_; (case hd => rfl); (case hg => rfl); (case hr => first | (go_simp; done) | (go_simp; rfl)); intro b129 hg w13 hbox hb; have n0_ := aM (Kd.R_below (Kd.R_elderB (by (with_reducible repeat (first | apply Kd.R_alloc | apply Kd.R_drewN | apply Kd.R_drew)); exact HO0.out) b129 (Nat.le_of_eq hg.symm)) hb); have n1_ := aM (Kept.below (S := (fun k_ => P0_ k_)) (by repeat (first | (with_reducible first | exact HK.out | apply Kept.alloc | apply Kept.drewN | apply Kept.drew) | exact HK.out)) hb); have n2_ := aM (lT (by repeat (first | (with_reducible first | exact HB.out | apply lA | apply lN | apply lD) | exact HB.out)) hb); have n3_ := aM (hbox); have n4_ := aM ((by rw [hg]; exact (by first | exact HK.out.1 | exact (show Kept w _ (fun k_ => P0_ k_) from by repeat (first | (with_reducible first | exact HK.out | apply Kept.alloc | apply Kept.drewN | apply Kept.drew) | exact HK.out)).1) : w.heap.size ≤ b129)); have n5_ := aM ((by rw [hg]; exact (lZ (by repeat (first | (with_reducible first | exact HB.out | apply lA | apply lN | apply lD) | exact HB.out))) : w0.heap.size ≤ b129)); clear HO0; clear HK; clear HB; have HO0 := n0_; have HK := n1_; have HB := n2_; have BK129 := n3_; have GW129 := n4_; have GE129 := n5_; clear n0_ n1_ n2_ n3_ n4_ n5_; clear hb hbox hg; have hcz14_0 : w13.cell? ⟨b129, 0, none⟩ = some (.int .u32 a1_0) := (bC BK129.out 0).trans rfl; have hcz14_1 : w13.cell? ⟨b129, 1, none⟩ = some (.int .i32 a1_1) := (bC BK129.out 1).trans rfl; have hcz14_2 : w13.cell? ⟨b129, 2, none⟩ = some (.int .i32 a1_2) := (bC BK129.out 2).trans rfl; have hcz14_3 : w13.cell? ⟨b129, 3, none⟩ = some (.int .i32 a1_3) := (bC BK129.out 3).trans rfl; have hcz14_4 : w13.cell? ⟨b129, 4, none⟩ = some (.int .i32 a1_4) := (bC BK129.out 4).trans rfl; have hcz14_5 : w13.cell? ⟨b129, 5, none⟩ = some (.int .i32 a1_5) := (bC BK129.out 5).trans rfl; have hcz14_6 : w13.cell? ⟨b129, 6, none⟩ = some (.int .i32 a1_6) := (bC BK129.out 6).trans rfl; have hcz14_7 : w13.cell? ⟨b129, 7, none⟩ = some (.int .i32 a1_7) := (bC BK129.out 7).trans rfl; have hcz14_8 : w13.cell? ⟨b129, 8, none⟩ = some (.int .i32 a1_8) := (bC BK129.out 8).trans rfl; have hcz14_9 : w13.cell? ⟨b129, 9, none⟩ = some (.int .i32 a1_9) := (bC BK129.out 9).trans rfl; have hfz14_0 := bF BK129.out 0; have hfz14_1 := bF BK129.out 1; have hfz14_2 := bF BK129.out 2; have hfz14_3 := bF BK129.out 3; have hfz14_4 := bF BK129.out 4; have hfz14_5 := bF BK129.out 5; have hfz14_6 := bF BK129.out 6; have hfz14_7 := bF BK129.out 7; have hfz14_8 := bF BK129.out 8; have hfz14_9 := bF BK129.out 9) | ((with_reducible refine gate_callee (f := 33) rfl ?_); refine goesL_ (some 8) rfl rfl Try.func33 (by kernel_rfl) rfl #[.agg #[.int .u32 a1_0, .int .i32 a1_1, .int .i32 a1_2, .int .i32 a1_3, .int .i32 a1_4, .int .i32 a1_5, .int .i32 a1_6, .int .i32 a1_7, .int .i32 a1_8, .int .i32 a1_9]] rfl (by (try simp only [List.map_toArray, List.map_cons, List.map_nil]); first | done | rfl | (simp only [List.length_drop, List.length_take]; rfl)) ?_; (with_reducible refine (billiardref05_Check.calls k a1_0 a1_1 a1_2 a1_3 a1_4 a1_5 a1_6 a1_7 a1_8 a1_9 t130 _ A3.out).mono ?_); rintro e w15 ⟨rfl, hb⟩; refine ⟨_, rfl, ?_⟩; have n0_ := aM (Kd.R_below (by (with_reducible repeat (first | apply Kd.R_alloc | apply Kd.R_drewN | apply Kd.R_drew)); exact HO0.out) hb); have n1_ := aM (bB (by (with_reducible repeat first | apply bN | apply bD | apply bA); exact BK129.out) hb); have n2_ := aM (Kept.below (S := (fun k_ => P0_ k_)) (by repeat (first | (with_reducible first | exact HK.out | apply Kept.alloc | apply Kept.drewN | apply Kept.drew | refine Kept.setCell ?_ (.inr GW129.out) _) | exact HK.out)) hb); have n3_ := aM (lT (by repeat (first | (with_reducible first | exact HB.out | apply lA | apply lN | apply lD | refine lS ?_ GE129.out) | exact HB.out)) hb); clear HO0; clear BK129; clear HK; clear HB; have HO0 := n0_; have BK129 := n1_; have HK := n2_; have HB := n3_; clear n0_ n1_ n2_ n3_; (try clear hb); (try clear hb2); (try clear hk); (try clear hi); have hcz16_0 : w15.cell? ⟨b129, 0, none⟩ = some (.int .u32 a1_0) := (bC BK129.out 0).trans rfl; have hcz16_1 : w15.cell? ⟨b129, 1, none⟩ = some (.int .i32 a1_1) := (bC BK129.out 1).trans rfl; have hcz16_2 : w15.cell? ⟨b129, 2, none⟩ = some (.int .i32 a1_2) := (bC BK129.out 2).trans rfl; have hcz16_3 : w15.cell? ⟨b129, 3, none⟩ = some (.int .i32 a1_3) := (bC BK129.out 3).trans rfl; have hcz16_4 : w15.cell? ⟨b129, 4, none⟩ = some (.int .i32 a1_4) := (bC BK129.out 4).trans rfl; have hcz16_5 : w15.cell? ⟨b129, 5, none⟩ = some (.int .i32 a1_5) := (bC BK129.out 5).trans rfl; have hcz16_6 : w15.cell? ⟨b129, 6, none⟩ = some (.int .i32 a1_6) := (bC BK129.out 6).trans rfl; have hcz16_7 : w15.cell? ⟨b129, 7, none⟩ = some (.int .i32 a1_7) := (bC BK129.out 7).trans rfl; have hcz16_8 : w15.cell? ⟨b129, 8, none⟩ = some (.int .i32 a1_8) := (bC BK129.out 8).trans rfl; have hcz16_9 : w15.cell? ⟨b129, 9, none⟩ = some (.int .i32 a1_9) := (bC BK129.out 9).trans rfl; have hfz16_0 := bF BK129.out 0; have hfz16_1 := bF BK129.out 1; have hfz16_2 := bF BK129.out 2; have hfz16_3 := bF BK129.out 3; have hfz16_4 := bF BK129.out 4; have hfz16_5 := bF BK129.out 5; have hfz16_6 := bF BK129.out 6; have hfz16_7 := bF BK129.out 7; have hfz16_8 := bF BK129.out 8; have hfz16_9 := bF BK129.out 9; obtain ⟨Ao17, co17, eo17⟩ := Kd.R_slice HO0.out; subst eo17) | ((with_reducible refine gate_callee (f := 20) rfl ?_); refine goesL_ (some 16) rfl rfl Try.func20 (by kernel_rfl) rfl #[.slice Ao17 l0.length co17, .int .u32 a1_0] rfl (by (try simp only [List.map_toArray, List.map_cons, List.map_nil]); first | done | rfl | (simp only [List.length_drop, List.length_take]; rfl)) ?_; (with_reducible refine (billiardref06_Find.calls k _ _ l0 a1_0 t131 _ ?side1 ?side2 A5.out).mono ?_); (case side1 => repeat (first | exact (Kd.R_reads' HO0.out).2.2 | (with_reducible refine Kd.C_alloc ?_ _) | (with_reducible refine Kd.C_drewN ?_ _) | (with_reducible refine Kd.C_drew ?_))); (case side2 => exact (Kd.R_reads' HO0.out).2.1); rintro e w' ⟨rfl, ⟨nd, rfl⟩⟩; refine ⟨_, rfl, ?_⟩))
    go_ret2
    exact ⟨_, by first | rfl | (simp [errW_none, errW_some] <;> rfl) | (simp [*, errW_none, errW_some] <;> rfl), by (with_reducible repeat (first | apply Kd.R_alloc | apply Kd.R_drewN | apply Kd.R_drew)); exact Kd.R_mono HO0.out (fun _ hk => hk.1), by repeat (first | (with_reducible first | exact HB.out | apply lA | apply lN | apply lD | refine lS ?_ GE129.out) | exact HB.out), by repeat (first | (with_reducible first | exact HK.out | apply Kept.alloc | apply Kept.drewN | apply Kept.drew | refine Kept.setCell ?_ (.inr GW129.out) _) | exact HK.out)⟩
   ·rw [if_neg c12] at H
    have c12b0 : decide (4096 ≤ (l0.length : Int)) = false := decide_eq_false c12
    have c12b1 : decide (4096 ≤ l0.length) = false := decide_eq_false (by omega)
    clear c12
    replace H := Option.bind_eq_some_iff.mp H
    obtain ⟨t132, A180, H⟩ := H
    try dsimp only at H
    have A18 := aM A180
    clear A180
    simp only [Option.some.injEq, Prod.mk.injEq] at H
    obtain ⟨rfl, rfl⟩ := H
    go_enter Try.func34, Try.ntmps34
    go_wp2_with (first | ((with_reducible refine gate_dst (N := 3) rfl ?_); refine box_event ?hg (N := 3) ?hd (cs := #[.int .u32 a1_0, .int .i32 a1_1, .int .i32 a1_2, .int .i32 a1_3, .int .i32 a1_4, .int .i32 a1_5, .int .i32 a1_6, .int .i32 a1_7, .int .i32 a1_8, .int .i32 a1_9]) (t := 44) ?hr ?_; (case hd => rfl); (case hg => rfl); (case hr => first | (go_simp; done) | (go_simp; rfl)); intro b129 hg w19 hbox hb; have n0_ := aM (Kd.R_below (Kd.R_elderB (by (with_reducible repeat (first | apply Kd.R_alloc | apply Kd.R_drewN | apply Kd.R_drew)); exact HO0.out) b129 (Nat.le_of_eq hg.symm)) hb); have n1_ := aM (Kept.below (S := (fun k_ => P0_ k_)) (by repeat (first | (with_reducible first | exact HK.out | apply Kept.alloc | apply Kept.drewN | apply Kept.drew) | exact HK.out)) hb); have n2_ := aM (lT (by repeat (first | (with_reducible first | exact HB.out | apply lA | apply lN | apply lD) | exact HB.out)) hb); have n3_ := aM (hbox); have n4_ := aM ((by rw [hg]; exact (by first | exact HK.out.1 | exact (show Kept w _ (fun k_ => P0_ k_) from by repeat (first | (with_reducible first | exact HK.out | apply Kept.alloc | apply Kept.drewN | apply Kept.drew) | exact HK.out)).1) : w.heap.size ≤ b129)); have n5_ := aM ((by rw [hg]; exact (lZ (by repeat (first | (with_reducible first | exact HB.out | apply lA | apply lN | apply lD) | exact HB.out))) : w0.heap.size ≤ b129)); clear HO0; clear HK; clear HB; have HO0 := n0_; have HK := n1_; have HB := n2_; have BK129 := n3_; have GW129 := n4_; have GE129 := n5_; clear n0_ n1_ n2_ n3_ n4_ n5_; clear hb hbox hg; have hcz20_0 : w19.cell? ⟨b129, 0, none⟩ = some (.int .u32 a1_0) := (bC BK129.out 0).trans rfl; have hcz20_1 : w19.cell? ⟨b129, 1, none⟩ = some (.int .i32 a1_1) := (bC BK129.out 1).trans rfl; have hcz20_2 : w19.cell? ⟨b129, 2, none⟩ = some (.int .i32 a1_2) := (bC BK129.out 2).trans rfl; have hcz20_3 : w19.cell? ⟨b129, 3, none⟩ = some (.int .i32 a1_3) := (bC BK129.out 3).trans rfl; have hcz20_4 : w19.cell? ⟨b129, 4, none⟩ = some (.int .i32 a1_4) := (bC BK129.out 4).trans rfl; have hcz20_5 : w19.cell? ⟨b129, 5, none⟩ = some (.int .i32 a1_5) := (bC BK129.out 5).trans rfl; have hcz20_6 : w19.cell? ⟨b129, 6, none⟩ = some (.int .i32 a1_6) := (bC BK129.out 6).trans rfl; have hcz20_7 : w19.cell? ⟨b129, 7, none⟩ = some (.int .i32 a1_7) := (bC BK129.out 7).trans rfl; have hcz20_8 : w19.cell? ⟨b129, 8, none⟩ = some (.int .i32 a1_8) := (bC BK129.out 8).trans rfl; have hcz20_9 : w19.cell? ⟨b129, 9, none⟩ = some (.int .i32 a1_9) := (bC BK129.out 9).trans rfl; have hfz20_0 := bF BK129.out 0; have hfz20_1 := bF BK129.out 1; have hfz20_2 := bF BK129.out 2; have hfz20_3 := bF BK129.out 3; have hfz20_4 := bF BK129.out 4; have hfz20_5 := bF BK129.out 5; have hfz20_6 := bF BK129.out 6; have hfz20_7 := bF BK129.out 7; have hfz20_8 := bF BK129.out 8; have hfz20_9 := bF BK129.out 9) | ((with_reducible refine gate_callee (f := 33) rfl ?_); refine goesL_ (some 8) rfl rfl Try.func33 (by kernel_rfl) rfl #[.agg #[.int .u32 a1_0, .int .i32 a1_1, .int .i32 a1_2, .int .i32 a1_3, .int .i32 a1_4, .int .i32 a1_5, .int .i32 a1_6, .int .i32 a1_7, .int .i32 a1_8, .int .i32 a1_9]] rfl (by (try simp only [List.map_toArray, List.map_cons, List.map_nil]); first | done | rfl | (simp only [List.length_drop, List.length_take]; rfl)) ?_; (with_reducible refine (billiardref05_Check.calls k a1_0 a1_1 a1_2 a1_3 a1_4 a1_5 a1_6 a1_7 a1_8 a1_9 t130 _ A3.out).mono ?_); rintro e w21 ⟨rfl, hb⟩; refine ⟨_, rfl, ?_⟩; have n0_ := aM (Kd.R_below (by (with_reducible repeat (first | apply Kd.R_alloc | apply Kd.R_drewN | apply Kd.R_drew)); exact HO0.out) hb); have n1_ := aM (bB (by (with_reducible repeat first | apply bN | apply bD | apply bA); exact BK129.out) hb); have n2_ := aM (Kept.below (S := (fun k_ => P0_ k_)) (by repeat (first | (with_reducible first | exact HK.out | apply Kept.alloc | apply Kept.drewN | apply Kept.drew | refine Kept.setCell ?_ (.inr GW129.out) _) | exact HK.out)) hb); have n3_ := aM (lT (by repeat (first | (with_reducible first | exact HB.out | apply lA | apply lN | apply lD | refine lS ?_ GE129.out) | exact HB.out)) hb); clear HO0; clear BK129; clear HK; clear HB; have HO0 := n0_; have BK129 := n1_; have HK := n2_; have HB := n3_; clear n0_ n1_ n2_ n3_; (try clear hb); (try clear hb2); (try clear hk); (try clear hi); have hcz22_0 : w21.cell? ⟨b129, 0, none⟩ = some (.int .u32 a1_0) := (bC BK129.out 0).trans rfl; have hcz22_1 : w21.cell? ⟨b129, 1, none⟩ = some (.int .i32 a1_1) := (bC BK129.out 1).trans rfl; have hcz22_2 : w21.cell? ⟨b129, 2, none⟩ = some (.int .i32 a1_2) := (bC BK129.out 2).trans rfl; have hcz22_3 : w21.cell? ⟨b129, 3, none⟩ = some (.int .i32 a1_3) := (bC BK129.out 3).trans rfl; have hcz22_4 : w21.cell? ⟨b129, 4, none⟩ = some (.int .i32 a1_4) := (bC BK129.out 4).trans rfl; have hcz22_5 : w21.cell? ⟨b129, 5, none⟩ = some (.int .i32 a1_5) := (bC BK129.out 5).trans rfl; have hcz22_6 : w21.cell? ⟨b129, 6, none⟩ = some (.int .i32 a1_6) := (bC BK129.out 6).trans rfl; have hcz22_7 : w21.cell? ⟨b129, 7, none⟩ = some (.int .i32 a1_7) := (bC BK129.out 7).trans rfl; have hcz22_8 : w21.cell? ⟨b129, 8, none⟩ = some (.int .i32 a1_8) := (bC BK129.out 8).trans rfl; have hcz22_9 : w21.cell? ⟨b129, 9, none⟩ = some (.int .i32 a1_9) := (bC BK129.out 9).trans rfl; have hfz22_0 := bF BK129.out 0; have hfz22_1 := bF BK129.out 1; have hfz22_2 := bF BK129.out 2; have hfz22_3 := bF BK129.out 3; have hfz22_4 := bF BK129.out 4; have hfz22_5 := bF BK129.out 5; have hfz22_6 := bF BK129.out 6; have hfz22_7 := bF BK129.out 7; have hfz22_8 := bF BK129.out 8; have hfz22_9 := bF BK129.out 9; obtain ⟨Ao23, co23, eo23⟩ := Kd.R_slice HO0.out; subst eo23) | ((with_reducible refine gate_callee (f := 20) rfl ?_); refine goesL_ (some 16) rfl rfl Try.func20 (by kernel_rfl) rfl #[.slice Ao23 l0.length co23, .int .u32 a1_0] rfl (by (try simp only [List.map_toArray, List.map_cons, List.map_nil]); first | done | rfl | (simp only [List.length_drop, List.length_take]; rfl)) ?_; (with_reducible refine (billiardref06_Find.calls k _ _ l0 a1_0 t131 _ ?side1 ?side2 A5.out).mono ?_); (case side1 => repeat (first | exact (Kd.R_reads' HO0.out).2.2 | (with_reducible refine Kd.C_alloc ?_ _) | (with_reducible refine Kd.C_drewN ?_ _) | (with_reducible refine Kd.C_drew ?_))); (case side2 => exact (Kd.R_reads' HO0.out).2.1); rintro e w' ⟨rfl, ⟨nd, rfl⟩⟩; refine ⟨_, rfl, ?_⟩) | ((with_reducible refine gate_callee (f := 47) rfl ?_); refine goesL_ (some 25) rfl rfl Try.func47 (by kernel_rfl) rfl #[.slice Ao23 l0.length co23, .agg #[.int .u32 a1_0, .int .i32 a1_1, .int .i32 a1_2, .int .i32 a1_3, .int .i32 a1_4, .int .i32 a1_5, .int .i32 a1_6, .int .i32 a1_7, .int .i32 a1_8, .int .i32 a1_9], .bool false] rfl (by (try simp only [List.map_toArray, List.map_cons, List.map_nil]); first | done | rfl | (simp only [List.length_drop, List.length_take]; rfl)) ?_; (with_reducible refine (billiardref06_Put.calls k _ _ l0 a1_0 a1_1 a1_2 a1_3 a1_4 a1_5 a1_6 a1_7 a1_8 a1_9 false t132 _ ?side1 ?side2 A18.out).mono ?_); (case side1 => repeat (first | exact (Kd.R_reads' HO0.out).2.2 | (with_reducible refine Kd.C_alloc ?_ _) | (with_reducible refine Kd.C_drewN ?_ _) | (with_reducible refine Kd.C_drew ?_))); (case side2 => exact (Kd.R_reads' HO0.out).2.1); rintro e w24 ⟨v133, rfl, ho0, hb⟩; refine ⟨_, rfl, ?_⟩; have n0_ := aM (Kd.R_elder' (by (with_reducible repeat (first | apply Kd.R_alloc | apply Kd.R_drewN | apply Kd.R_drew)); exact HO0.out) (Kd.R_base ho0) hb); have n1_ := aM (Kd.R_lower (Kd.R_newB (Kd.R_new' (Kd.R_newM (M := fun k_ => (P0_ k_ ∨ w.heap.size ≤ k_)) ho0 (by first | exact HK.out.1 | exact (show Kept w _ (fun k_ => P0_ k_) from by repeat (first | (with_reducible first | exact HK.out | apply Kept.alloc | apply Kept.drewN | apply Kept.drew | refine Kept.setCell ?_ (.inr GW129.out) _) | exact HK.out)).1) (fun k_ h_ => .inr h_)) (Kd.R_lt (by (with_reducible repeat (first | apply Kd.R_alloc | apply Kd.R_drewN | apply Kd.R_drew)); exact HO0.out))) (g := b129) (o := .cells #[.int .u32 a1_0, .int .i32 a1_1, .int .i32 a1_2, .int .i32 a1_3, .int .i32 a1_4, .int .i32 a1_5, .int .i32 a1_6, .int .i32 a1_7, .int .i32 a1_8, .int .i32 a1_9] 44 (0, 0)) (by (with_reducible repeat first | apply bN | apply bD | apply bA); exact BK129.out)) (lZ (by repeat (first | (with_reducible first | exact HB.out | apply lA | apply lN | apply lD | refine lS ?_ GE129.out) | exact HB.out)))); have n2_ := aM (bB (by (with_reducible repeat first | apply bN | apply bD | apply bA); exact BK129.out) hb); have n3_ := aM (Kept.below (S := (fun k_ => P0_ k_)) (by repeat (first | (with_reducible first | exact HK.out | apply Kept.alloc | apply Kept.drewN | apply Kept.drew | refine Kept.setCell ?_ (.inr GW129.out) _) | exact HK.out)) hb); have n4_ := aM (lT (by repeat (first | (with_reducible first | exact HB.out | apply lA | apply lN | apply lD | refine lS ?_ GE129.out) | exact HB.out)) hb); clear HO0; clear BK129; clear HK; clear HB; have HO0 := n0_; have HO134 := n1_; have BK129 := n2_; have HK := n3_; have HB := n4_; clear n0_ n1_ n2_ n3_ n4_; (try clear hb); (try clear hb2); (try clear hk); (try clear hi); (try clear ho0)))
    go_ret2
    exact ⟨_, by first | rfl | (simp [errW_none, errW_some] <;> rfl) | (simp [*, errW_none, errW_some] <;> rfl), by (with_reducible repeat (first | apply Kd.R_alloc | apply Kd.R_drewN | apply Kd.R_drew)); exact Kd.R_mono HO134.out (fun _ hk => hk.1.1.1), by repeat (first | (with_reducible first | exact HB.out | apply lA | apply lN | apply lD | refine lS ?_ GE129.out) | exact HB.out), by repeat (first | (with_reducible first | exact HK.out | apply Kept.alloc | apply Kept.drewN | apply Kept.drew | refine Kept.setCell ?_ (.inr GW129.out) _) | exact HK.out)⟩
 ·rw [if_neg c4] at H
  have c4b0 : (t130 == 0) = false := beq_eq_false_iff_ne.mpr c4
  have c4b1 : (t130 != 0) = true := bne_iff_ne.mpr c4
  simp only [Option.some.injEq, Prod.mk.injEq] at H
  obtain ⟨rfl, rfl⟩ := H
  go_enter Try.func34, Try.ntmps34
  go_wp2_with (first | ((with_reducible refine gate_dst (N := 3) rfl ?_); refine box_event ?hg (N := 3) ?hd (cs := #[.int .u32 a1_0, .int .i32 a1_1, .int .i32 a1_2, .int .i32 a1_3, .int .i32 a1_4, .int .i32 a1_5, .int .i32 a1_6, .int .i32 a1_7, .int .i32 a1_8, .int .i32 a1_9]) (t := 44) ?hr ?_; (case hd => rfl); (case hg => rfl); (case hr => first | (go_simp; done) | (go_simp; rfl)); intro b129 hg w25 hbox hb; have n0_ := aM (Kd.R_below (Kd.R_elderB (by (with_reducible repeat (first | apply Kd.R_alloc | apply Kd.R_drewN | apply Kd.R_drew)); exact HO0.out) b129 (Nat.le_of_eq hg.symm)) hb); have n1_ := aM (Kept.below (S := (fun k_ => P0_ k_)) (by repeat (first | (with_reducible first | exact HK.out | apply Kept.alloc | apply Kept.drewN | apply Kept.drew) | exact HK.out)) hb); have n2_ := aM (lT (by repeat (first | (with_reducible first | exact HB.out | apply lA | apply lN | apply lD) | exact HB.out)) hb); have n3_ := aM (hbox); have n4_ := aM ((by rw [hg]; exact (by first | exact HK.out.1 | exact (show Kept w _ (fun k_ => P0_ k_) from by repeat (first | (with_reducible first | exact HK.out | apply Kept.alloc | apply Kept.drewN | apply Kept.drew) | exact HK.out)).1) : w.heap.size ≤ b129)); have n5_ := aM ((by rw [hg]; exact (lZ (by repeat (first | (with_reducible first | exact HB.out | apply lA | apply lN | apply lD) | exact HB.out))) : w0.heap.size ≤ b129)); clear HO0; clear HK; clear HB; have HO0 := n0_; have HK := n1_; have HB := n2_; have BK129 := n3_; have GW129 := n4_; have GE129 := n5_; clear n0_ n1_ n2_ n3_ n4_ n5_; clear hb hbox hg; have hcz26_0 : w25.cell? ⟨b129, 0, none⟩ = some (.int .u32 a1_0) := (bC BK129.out 0).trans rfl; have hcz26_1 : w25.cell? ⟨b129, 1, none⟩ = some (.int .i32 a1_1) := (bC BK129.out 1).trans rfl; have hcz26_2 : w25.cell? ⟨b129, 2, none⟩ = some (.int .i32 a1_2) := (bC BK129.out 2).trans rfl; have hcz26_3 : w25.cell? ⟨b129, 3, none⟩ = some (.int .i32 a1_3) := (bC BK129.out 3).trans rfl; have hcz26_4 : w25.cell? ⟨b129, 4, none⟩ = some (.int .i32 a1_4) := (bC BK129.out 4).trans rfl; have hcz26_5 : w25.cell? ⟨b129, 5, none⟩ = some (.int .i32 a1_5) := (bC BK129.out 5).trans rfl; have hcz26_6 : w25.cell? ⟨b129, 6, none⟩ = some (.int .i32 a1_6) := (bC BK129.out 6).trans rfl; have hcz26_7 : w25.cell? ⟨b129, 7, none⟩ = some (.int .i32 a1_7) := (bC BK129.out 7).trans rfl; have hcz26_8 : w25.cell? ⟨b129, 8, none⟩ = some (.int .i32 a1_8) := (bC BK129.out 8).trans rfl; have hcz26_9 : w25.cell? ⟨b129, 9, none⟩ = some (.int .i32 a1_9) := (bC BK129.out 9).trans rfl; have hfz26_0 := bF BK129.out 0; have hfz26_1 := bF BK129.out 1; have hfz26_2 := bF BK129.out 2; have hfz26_3 := bF BK129.out 3; have hfz26_4 := bF BK129.out 4; have hfz26_5 := bF BK129.out 5; have hfz26_6 := bF BK129.out 6; have hfz26_7 := bF BK129.out 7; have hfz26_8 := bF BK129.out 8; have hfz26_9 := bF BK129.out 9) | ((with_reducible refine gate_callee (f := 33) rfl ?_); refine goesL_ (some 8) rfl rfl Try.func33 (by kernel_rfl) rfl #[.agg #[.int .u32 a1_0, .int .i32 a1_1, .int .i32 a1_2, .int .i32 a1_3, .int .i32 a1_4, .int .i32 a1_5, .int .i32 a1_6, .int .i32 a1_7, .int .i32 a1_8, .int .i32 a1_9]] rfl (by (try simp only [List.map_toArray, List.map_cons, List.map_nil]); first | done | rfl | (simp only [List.length_drop, List.length_take]; rfl)) ?_; (with_reducible refine (billiardref05_Check.calls k a1_0 a1_1 a1_2 a1_3 a1_4 a1_5 a1_6 a1_7 a1_8 a1_9 t130 _ A3.out).mono ?_); rintro e w27 ⟨rfl, hb⟩; refine ⟨_, rfl, ?_⟩; have n0_ := aM (Kd.R_below (by (with_reducible repeat (first | apply Kd.R_alloc | apply Kd.R_drewN | apply Kd.R_drew)); exact HO0.out) hb); have n1_ := aM (bB (by (with_reducible repeat first | apply bN | apply bD | apply bA); exact BK129.out) hb); have n2_ := aM (Kept.below (S := (fun k_ => P0_ k_)) (by repeat (first | (with_reducible first | exact HK.out | apply Kept.alloc | apply Kept.drewN | apply Kept.drew | refine Kept.setCell ?_ (.inr GW129.out) _) | exact HK.out)) hb); have n3_ := aM (lT (by repeat (first | (with_reducible first | exact HB.out | apply lA | apply lN | apply lD | refine lS ?_ GE129.out) | exact HB.out)) hb); clear HO0; clear BK129; clear HK; clear HB; have HO0 := n0_; have BK129 := n1_; have HK := n2_; have HB := n3_; clear n0_ n1_ n2_ n3_; (try clear hb); (try clear hb2); (try clear hk); (try clear hi)))
  go_ret2
  exact ⟨_, by first | rfl | (simp [errW_none, errW_some] <;> rfl) | (simp [*, errW_none, errW_some] <;> rfl), by (with_reducible repeat (first | apply Kd.R_alloc | apply Kd.R_drewN | apply Kd.R_drew)); exact Kd.R_mono HO0.out (fun _ hk => hk.1), by repeat (first | (with_reducible first | exact HB.out | apply lA | apply lN | apply lD | refine lS ?_ GE129.out) | exact HB.out), by repeat (first | (with_reducible first | exact HK.out | apply Kept.alloc | apply Kept.drewN | apply Kept.drew | refine Kept.setCell ?_ (.inr GW129.out) _) | exact HK.out)⟩

/-! ### billiardref06_All: function 27 -/
def billiardref06_All.l0 : Nat → List (S44) → List (S44) → Int → Option ((List (S44)))
 | 0, _, _, _ => none
 | k + 1, x0, x3, x4 => if x4 < (x0.length : Int) then (if 0 ≤ x4 then ((billiardref06_Add.f k x3 ((rd_T44 x0 x4).f0) ((rd_T44 x0 x4).f1) ((rd_T44 x0 x4).f2.f0) ((rd_T44 x0 x4).f2.f1) ((rd_T44 x0 x4).f3) ((rd_T44 x0 x4).f4) ((rd_T44 x0 x4).f5.f0) ((rd_T44 x0 x4).f5.f1) ((rd_T44 x0 x4).f6.f0) ((rd_T44 x0 x4).f6.f1)).bind fun bt136 => (billiardref06_All.l0 k x0 bt136.1 (wrap64 (x4 + 1)))) else (none)) else (some x3)
def billiardref06_All.f (k : Nat) (l0 : List (S44)) : Option ((List (S44))) := billiardref06_All.l0 k l0 ([] : List (S44)) 0
theorem billiardref06_All.mono_l : ∀ k, (∀ y0 y1 y2, LeO (billiardref06_All.l0 k y0 y1 y2) (billiardref06_All.l0 (k + 1) y0 y1 y2))
 | 0 => fun _ _ _ r h => by simp [billiardref06_All.l0] at h
 | k + 1 => by
  have ih0 := billiardref06_All.mono_l k
  ·intro y0 y1 y2
   unfold billiardref06_All.l0
   repeat' first
   | (with_reducible exact ih0 _ _ _)
   | (with_reducible exact billiardref06_Add.mono _ _ _ _ _ _ _ _ _ _ _ _)
   | (with_reducible exact LeO.refl _)
   | (with_reducible exact LeO.none _)
   | (with_reducible refine LeO.ite ?_ ?_)
   | (with_reducible refine LeO.bind ?_ (fun _ => ?_))
   | exact ih0 _ _ _
   | exact billiardref06_Add.mono _ _ _ _ _ _ _ _ _ _ _ _
   | exact LeO.none _
   | refine LeO.ite ?_ ?_
   | refine LeO.bind ?_ (fun _ => ?_)
theorem billiardref06_All.mono : ∀ a0 k, LeO (billiardref06_All.f k a0) (billiardref06_All.f (k + 1) a0) := by
 intro a0 k
 have ih0 := billiardref06_All.mono_l k
 unfold billiardref06_All.f
 repeat' first
   | (with_reducible exact ih0 _ _ _)
   | (with_reducible exact billiardref06_Add.mono _ _ _ _ _ _ _ _ _ _ _ _)
   | (with_reducible exact LeO.refl _)
   | (with_reducible exact LeO.none _)
   | (with_reducible refine LeO.ite ?_ ?_)
   | (with_reducible refine LeO.bind ?_ (fun _ => ?_))
   | exact ih0 _ _ _
   | exact billiardref06_Add.mono _ _ _ _ _ _ _ _ _ _ _ _
   | exact LeO.none _
   | refine LeO.ite ?_ ?_
   | refine LeO.bind ?_ (fun _ => ?_)
set_option maxHeartbeats 8000000 in
set_option maxRecDepth 100000 in
theorem billiardref06_All.calls (k : Nat) (A0 : Option Addr) (c0 : Nat) (l0 : List (S44)) (r : List (S44)) (w : World) (hr0 : Kd.C k44 w A0 l0.length l0) (hc0 : l0.length ≤ c0) (h : billiardref06_All.f k l0 = some r) :
  Calls Try.prog 27 #[.slice A0 l0.length c0] w fun e w' => ∃ v0_ : Value, e = .returned (v0_) ∧ Kd.R k44 44 w' w.heap.size (fun _ => True) v0_ r ∧ Below w.heap.size w w' := by
 have hu44 := Try.underlying44
 have HR0 := aM hr0
 have HC0 := aM hc0
 clear hr0 hc0
 have HB := aM (Below.refl w.heap.size w)
 have H : (billiardref06_All.l0 k l0 ([] : List (S44)) 0) = some r := h
 clear h
 have H' := aM H
 clear H
 go_enter Try.func27, Try.ntmps27
 go_wp2
 go_loopg [3, 4] k (fun kq v3 v4 w' => ∃ (x3_1 : List (S44)) (x4_1 : Int), v4 = .int .i64 x4_1 ∧ Aside0 (billiardref06_All.l0 kq l0 x3_1 x4_1 = some r) ∧ Aside0 (kq ≤ k) ∧ Aside0 (Kd.R k44 44 w' w.heap.size (fun _ => True) v3 x3_1) ∧ Aside0 (Below w.heap.size w w'))
 case atStart => exact ⟨(([] : List (S44))), (0), (by first | rfl | (simp; done) | (simp [*]; done)), H', ⟨Nat.le_refl _⟩, ⟨by first | exact Kd.R_nil _ _ _ _ _ | exact Kd.N_nil _ _ _ _ _ | exact Kd.V_nil _ _ _ _ _ | exact Kd.Q_nil _ _ _ _ _ | exact Kd.S_nil _ _ _ _ _⟩, ⟨by repeat (first | (with_reducible first | exact HB.out | apply lA | apply lN | apply lD) | exact HB.out)⟩⟩
 case round =>
  clear H'
  obtain ⟨x3_1, x4_1, rfl, HA, HK1, HO_3, HB⟩ := hrel
  cases gk with
  | zero => exact absurd HA.out (by simp [billiardref06_All.l0])
  | succ k1 =>
   have H := HA.out
   clear HA
   simp only [billiardref06_All.l0] at H
   by_cases c2 : x4_1 < (l0.length : Int)
   ·rw [if_pos c2] at H
    have c2b0 : decide (x4_1 < (l0.length : Int)) = true := decide_eq_true c2
    clear c2
    by_cases c3 : 0 ≤ x4_1
    ·rw [if_pos c3] at H
     have c3b0 : decide (0 ≤ x4_1) = true := decide_eq_true c3
     clear c3
     replace H := Option.bind_eq_some_iff.mp H
     obtain ⟨⟨t136, t139⟩, A40, H⟩ := H
     try dsimp only at H
     have A4 := aM A40
     clear A40
     have H' := aM H
     clear H
     have p135 : 0 ≤ (x4_1 : Int) := of_decide_eq_true (by first | (with_reducible assumption) | assumption)
     have q135 : x4_1 < (l0.length : Int) := of_decide_eq_true (by first | (with_reducible assumption) | assumption)
     obtain ⟨ad135, e135, hx135_0, hx135_1, hx135_2, hx135_3, hx135_4, hx135_5, hx135_6, hx135_7, hx135_8, hx135_9⟩ := at_T44 HR0.out x4_1 p135 q135
     cases e135
     replace hx135_0 := (HB.out.cell (World.block_lt_of_cell? w _ hx135_0)).trans hx135_0
     replace hx135_1 := (HB.out.cell (World.block_lt_of_cell? w _ hx135_1)).trans hx135_1
     replace hx135_2 := (HB.out.cell (World.block_lt_of_cell? w _ hx135_2)).trans hx135_2
     replace hx135_3 := (HB.out.cell (World.block_lt_of_cell? w _ hx135_3)).trans hx135_3
     replace hx135_4 := (HB.out.cell (World.block_lt_of_cell? w _ hx135_4)).trans hx135_4
     replace hx135_5 := (HB.out.cell (World.block_lt_of_cell? w _ hx135_5)).trans hx135_5
     replace hx135_6 := (HB.out.cell (World.block_lt_of_cell? w _ hx135_6)).trans hx135_6
     replace hx135_7 := (HB.out.cell (World.block_lt_of_cell? w _ hx135_7)).trans hx135_7
     replace hx135_8 := (HB.out.cell (World.block_lt_of_cell? w _ hx135_8)).trans hx135_8
     replace hx135_9 := (HB.out.cell (World.block_lt_of_cell? w _ hx135_9)).trans hx135_9
     replace p135 := eq_true p135
     replace q135 := eq_true q135
     obtain ⟨Ao5, co5, eo5⟩ := Kd.R_slice HO_3.out
     subst eo5
     go_wp2_with (first | ((with_reducible refine gate_callee (f := 34) rfl ?_); refine goesL_ (some 19) rfl rfl Try.func34 (by kernel_rfl) rfl #[.slice Ao5 x3_1.length co5, .agg #[.int .u32 ((rd_T44 l0 x4_1).f0), .int .i32 ((rd_T44 l0 x4_1).f1), .int .i32 ((rd_T44 l0 x4_1).f2.f0), .int .i32 ((rd_T44 l0 x4_1).f2.f1), .int .i32 ((rd_T44 l0 x4_1).f3), .int .i32 ((rd_T44 l0 x4_1).f4), .int .i32 ((rd_T44 l0 x4_1).f5.f0), .int .i32 ((rd_T44 l0 x4_1).f5.f1), .int .i32 ((rd_T44 l0 x4_1).f6.f0), .int .i32 ((rd_T44 l0 x4_1).f6.f1)]] rfl (by (try simp only [List.map_toArray, List.map_cons, List.map_nil]); first | done | rfl | (simp only [List.length_drop, List.length_take]; rfl)) ?_; (with_reducible refine (billiardref06_Add.calls k1 (fun k_ => some k_ = (.slice Ao5 x3_1.length co5 : Value).ownBlock) (.slice Ao5 x3_1.length co5) x3_1 ((rd_T44 l0 x4_1).f0) ((rd_T44 l0 x4_1).f1) ((rd_T44 l0 x4_1).f2.f0) ((rd_T44 l0 x4_1).f2.f1) ((rd_T44 l0 x4_1).f3) ((rd_T44 l0 x4_1).f4) ((rd_T44 l0 x4_1).f5.f0) ((rd_T44 l0 x4_1).f5.f1) ((rd_T44 l0 x4_1).f6.f0) ((rd_T44 l0 x4_1).f6.f1) t136 t139 w _ ?side1 ?side2 A4.out).mono ?_); (case side1 => repeat (first | (with_reducible first | exact HB.out | apply lA | apply lN | apply lD) | exact HB.out)); (case side2 => exact Kd.R_tight rfl HO_3.out); rintro e w6 ⟨v137, rfl, ho0, hb, hkp⟩; refine ⟨_, rfl, ?_⟩; have n0_ := aM (Kd.R_mono (ok' := fun k_ => True) ho0 (fun k_ hk_ => trivial)); have n1_ := aM (hb); clear HB; clear HO_3; have HO138 := n0_; have HB := n1_; clear n0_ n1_; (try clear hb); (try clear hkp); (try clear ho0)))
     go_roundg k1
     case measure => have := HK1.out; omega
     case rel => exact ⟨(t136), (wrap64 (x4_1 + 1)), (by first | rfl | (simp; done) | (simp [*]; done)), H', ⟨by have := HK1.out; omega⟩, ⟨by (with_reducible repeat (first | apply Kd.R_alloc | apply Kd.R_drewN | apply Kd.R_drew)); exact HO138.out⟩, ⟨by repeat (first | (with_reducible first | exact HB.out | apply lA | apply lN | apply lD) | exact HB.out)⟩⟩
    ·rw [if_neg c3] at H
     exact absurd H (by simp)
   ·rw [if_neg c2] at H
    have c2b0 : decide (x4_1 < (l0.length : Int)) = false := decide_eq_false c2
    clear c2
    obtain rfl := Option.some.inj H
    go_wp2
    go_ret
    exact ⟨_, by first | rfl | (simp [errW_none, errW_some] <;> rfl) | (simp [*, errW_none, errW_some] <;> rfl), by (with_reducible repeat (first | apply Kd.R_alloc | apply Kd.R_drewN | apply Kd.R_drew)); exact HO_3.out, by repeat (first | (with_reducible first | exact HB.out | apply lA | apply lN | apply lD) | exact HB.out)⟩

/-! ### billiardref06_Same: function 18 -/
def billiardref06_Same.l0 : Nat → List (S44) → List (S44) → Int → Option (Bool)
 | 0, _, _, _ => none
 | k + 1, x0, x1, x5 => if x5 < (x0.length : Int) then (if 0 ≤ x5 then (if x5 < (x1.length : Int) then (if (!(((rd_T44 x0 x5).f0) == ((rd_T44 x1 x5).f0)) || (!(((rd_T44 x0 x5).f1) == ((rd_T44 x1 x5).f1)) || ((!(((rd_T44 x0 x5).f2.f0) == ((rd_T44 x1 x5).f2.f0)) || (!(((rd_T44 x0 x5).f2.f1) == ((rd_T44 x1 x5).f2.f1)))) || (!(((rd_T44 x0 x5).f3) == ((rd_T44 x1 x5).f3)) || (!(((rd_T44 x0 x5).f4) == ((rd_T44 x1 x5).f4)) || ((!(((rd_T44 x0 x5).f5.f0) == ((rd_T44 x1 x5).f5.f0)) || (!(((rd_T44 x0 x5).f5.f1) == ((rd_T44 x1 x5).f5.f1)))) || ((!(((rd_T44 x0 x5).f6.f0) == ((rd_T44 x1 x5).f6.f0)) || (!(((rd_T44 x0 x5).f6.f1) == ((rd_T44 x1 x5).f6.f1))))))))))) = true then (some false) else (billiardref06_Same.l0 k x0 x1 (wrap64 (x5 + 1)))) else (none)) else (none)) else (some true)
def billiardref06_Same.f (k : Nat) (l0 : List (S44)) (l1 : List (S44)) : Option (Bool) := if (l0.length : Int) = (l1.length : Int) then (billiardref06_Same.l0 k l0 l1 0) else (some false)
theorem billiardref06_Same.mono_l : ∀ k, (∀ y0 y1 y2, LeO (billiardref06_Same.l0 k y0 y1 y2) (billiardref06_Same.l0 (k + 1) y0 y1 y2))
 | 0 => fun _ _ _ r h => by simp [billiardref06_Same.l0] at h
 | k + 1 => by
  have ih0 := billiardref06_Same.mono_l k
  ·intro y0 y1 y2
   unfold billiardref06_Same.l0
   repeat' first
   | (with_reducible exact ih0 _ _ _)
   | (with_reducible exact LeO.refl _)
   | (with_reducible exact LeO.none _)
   | (with_reducible refine LeO.ite ?_ ?_)
   | (with_reducible refine LeO.bind ?_ (fun _ => ?_))
   | exact ih0 _ _ _
   | exact LeO.none _
   | refine LeO.ite ?_ ?_
   | refine LeO.bind ?_ (fun _ => ?_)
theorem billiardref06_Same.mono : ∀ a0 a1 k, LeO (billiardref06_Same.f k a0 a1) (billiardref06_Same.f (k + 1) a0 a1) := by
 intro a0 a1 k
 have ih0 := billiardref06_Same.mono_l k
 unfold billiardref06_Same.f
 repeat' first
   | (with_reducible exact ih0 _ _ _)
   | (with_reducible exact LeO.refl _)
   | (with_reducible exact LeO.none _)
   | (with_reducible refine LeO.ite ?_ ?_)
   | (with_reducible refine LeO.bind ?_ (fun _ => ?_))
   | exact ih0 _ _ _
   | exact LeO.none _
   | refine LeO.ite ?_ ?_
   | refine LeO.bind ?_ (fun _ => ?_)
set_option maxHeartbeats 8000000 in
set_option maxRecDepth 100000 in
theorem billiardref06_Same.calls (k : Nat) (A0 : Option Addr) (c0 : Nat) (l0 : List (S44)) (A1 : Option Addr) (c1 : Nat) (l1 : List (S44)) (r : Bool) (w : World) (hr0 : Kd.C k44 w A0 l0.length l0) (hc0 : l0.length ≤ c0) (hr1 : Kd.C k44 w A1 l1.length l1) (hc1 : l1.length ≤ c1) (h : billiardref06_Same.f k l0 l1 = some r) :
  Calls Try.prog 18 #[.slice A0 l0.length c0, .slice A1 l1.length c1] w fun e w' => e = .returned (.bool r) ∧ Drawn0 w w' := by
 have hu44 := Try.underlying44
 have HR0 := aM hr0
 have HC0 := aM hc0
 clear hr0 hc0
 have HR1 := aM hr1
 have HC1 := aM hc1
 clear hr1 hc1
 have H : (if (l0.length : Int) = (l1.length : Int) then (billiardref06_Same.l0 k l0 l1 0) else (some false)) = some r := h
 clear h
 by_cases c3 : (l0.length : Int) = (l1.length : Int)
 ·rw [if_pos c3] at H
  have c3b0 : ((l0.length : Int) == (l1.length : Int)) = true := beq_iff_eq.mpr c3
  have c3b1 : ((l0.length : Int) != (l1.length : Int)) = false := bne_eq_false_iff_eq.mpr c3
  have c3b2 : (l0.length == l1.length) = true := by first | simpa using c3 | (simp at c3 ⊢; omega)
  clear c3
  have H' := aM H
  clear H
  go_enter Try.func18, Try.ntmps18
  go_wp2
  repeat (go_quiet (fail); try go_wp2)
  go_loopg [5] k (fun kq v5 w' => ∃ (x5_1 : Int), v5 = .int .i64 x5_1 ∧ Aside0 (billiardref06_Same.l0 kq l0 l1 x5_1 = some r) ∧ Aside0 (kq ≤ k) ∧ Drawn0 w w')
  case atStart => exact ⟨(0), (by first | rfl | (simp; done) | (simp [*]; done)), H', ⟨Nat.le_refl _⟩, by repeat (first | exact Drawn0.refl _ | apply Drawn0.step)⟩
  case round =>
   clear H'
   try clear c1
   try clear p2
   try clear c3
   try clear c3b0
   try clear c3b1
   try clear c3b2
   obtain ⟨x5_1, rfl, HA, HK1, ⟨m1, rfl⟩⟩ := hrel
   cases gk with
   | zero => exact absurd HA.out (by simp [billiardref06_Same.l0])
   | succ k1 =>
    have H := HA.out
    clear HA
    simp only [billiardref06_Same.l0] at H
    by_cases c4 : x5_1 < (l0.length : Int)
    ·rw [if_pos c4] at H
     have c4b0 : decide (x5_1 < (l0.length : Int)) = true := decide_eq_true c4
     clear c4
     by_cases c5 : 0 ≤ x5_1
     ·rw [if_pos c5] at H
      have c5b0 : decide (0 ≤ x5_1) = true := decide_eq_true c5
      clear c5
      by_cases c6 : x5_1 < (l1.length : Int)
      ·rw [if_pos c6] at H
       have c6b0 : decide (x5_1 < (l1.length : Int)) = true := decide_eq_true c6
       clear c6
       by_cases c7 : (!(((rd_T44 l0 x5_1).f0) == ((rd_T44 l1 x5_1).f0)) || (!(((rd_T44 l0 x5_1).f1) == ((rd_T44 l1 x5_1).f1)) || ((!(((rd_T44 l0 x5_1).f2.f0) == ((rd_T44 l1 x5_1).f2.f0)) || (!(((rd_T44 l0 x5_1).f2.f1) == ((rd_T44 l1 x5_1).f2.f1)))) || (!(((rd_T44 l0 x5_1).f3) == ((rd_T44 l1 x5_1).f3)) || (!(((rd_T44 l0 x5_1).f4) == ((rd_T44 l1 x5_1).f4)) || ((!(((rd_T44 l0 x5_1).f5.f0) == ((rd_T44 l1 x5_1).f5.f0)) || (!(((rd_T44 l0 x5_1).f5.f1) == ((rd_T44 l1 x5_1).f5.f1)))) || ((!(((rd_T44 l0 x5_1).f6.f0) == ((rd_T44 l1 x5_1).f6.f0)) || (!(((rd_T44 l0 x5_1).f6.f1) == ((rd_T44 l1 x5_1).f6.f1))))))))))) = true
       ·rw [if_pos c7] at H
        have c7b0 : (!(((rd_T44 l0 x5_1).f0) == ((rd_T44 l1 x5_1).f0)) || (!(((rd_T44 l0 x5_1).f1) == ((rd_T44 l1 x5_1).f1)) || ((!(((rd_T44 l0 x5_1).f2.f0) == ((rd_T44 l1 x5_1).f2.f0)) || (!(((rd_T44 l0 x5_1).f2.f1) == ((rd_T44 l1 x5_1).f2.f1)))) || (!(((rd_T44 l0 x5_1).f3) == ((rd_T44 l1 x5_1).f3)) || (!(((rd_T44 l0 x5_1).f4) == ((rd_T44 l1 x5_1).f4)) || ((!(((rd_T44 l0 x5_1).f5.f0) == ((rd_T44 l1 x5_1).f5.f0)) || (!(((rd_T44 l0 x5_1).f5.f1) == ((rd_T44 l1 x5_1).f5.f1)))) || ((!(((rd_T44 l0 x5_1).f6.f0) == ((rd_T44 l1 x5_1).f6.f0)) || (!(((rd_T44 l0 x5_1).f6.f1) == ((rd_T44 l1 x5_1).f6.f1))))))))))) = true := c7
        clear c7
        obtain rfl := Option.some.inj H
        have p193 : 0 ≤ (x5_1 : Int) := of_decide_eq_true (by first | (with_reducible assumption) | assumption)
        have q193 : x5_1 < (l0.length : Int) := of_decide_eq_true (by first | (with_reducible assumption) | assumption)
        obtain ⟨ad193, e193, hx193_0, hx193_1, hx193_2, hx193_3, hx193_4, hx193_5, hx193_6, hx193_7, hx193_8, hx193_9⟩ := at_T44 HR0.out x5_1 p193 q193
        cases e193
        replace p193 := eq_true p193
        replace q193 := eq_true q193
        have p194 : 0 ≤ (x5_1 : Int) := of_decide_eq_true (by first | (with_reducible assumption) | assumption)
        have q194 : x5_1 < (l1.length : Int) := of_decide_eq_true (by first | (with_reducible assumption) | assumption)
        obtain ⟨ad194, e194, hx194_0, hx194_1, hx194_2, hx194_3, hx194_4, hx194_5, hx194_6, hx194_7, hx194_8, hx194_9⟩ := at_T44 HR1.out x5_1 p194 q194
        cases e194
        replace p194 := eq_true p194
        replace q194 := eq_true q194
        go_wp2
        repeat (go_quiet (fail); try go_wp2)
        go_ret
        exact ⟨by first | rfl | (simp; done) | (simp [*]; done), by repeat (first | exact Drawn0.refl _ | apply Drawn0.step)⟩
       ·rw [if_neg c7] at H
        have c7b0 : (!(((rd_T44 l0 x5_1).f0) == ((rd_T44 l1 x5_1).f0)) || (!(((rd_T44 l0 x5_1).f1) == ((rd_T44 l1 x5_1).f1)) || ((!(((rd_T44 l0 x5_1).f2.f0) == ((rd_T44 l1 x5_1).f2.f0)) || (!(((rd_T44 l0 x5_1).f2.f1) == ((rd_T44 l1 x5_1).f2.f1)))) || (!(((rd_T44 l0 x5_1).f3) == ((rd_T44 l1 x5_1).f3)) || (!(((rd_T44 l0 x5_1).f4) == ((rd_T44 l1 x5_1).f4)) || ((!(((rd_T44 l0 x5_1).f5.f0) == ((rd_T44 l1 x5_1).f5.f0)) || (!(((rd_T44 l0 x5_1).f5.f1) == ((rd_T44 l1 x5_1).f5.f1)))) || ((!(((rd_T44 l0 x5_1).f6.f0) == ((rd_T44 l1 x5_1).f6.f0)) || (!(((rd_T44 l0 x5_1).f6.f1) == ((rd_T44 l1 x5_1).f6.f1))))))))))) = false := by simpa using c7
        clear c7
        have H' := aM H
        clear H
        have p193 : 0 ≤ (x5_1 : Int) := of_decide_eq_true (by first | (with_reducible assumption) | assumption)
        have q193 : x5_1 < (l0.length : Int) := of_decide_eq_true (by first | (with_reducible assumption) | assumption)
        obtain ⟨ad193, e193, hx193_0, hx193_1, hx193_2, hx193_3, hx193_4, hx193_5, hx193_6, hx193_7, hx193_8, hx193_9⟩ := at_T44 HR0.out x5_1 p193 q193
        cases e193
        replace p193 := eq_true p193
        replace q193 := eq_true q193
        have p194 : 0 ≤ (x5_1 : Int) := of_decide_eq_true (by first | (with_reducible assumption) | assumption)
        have q194 : x5_1 < (l1.length : Int) := of_decide_eq_true (by first | (with_reducible assumption) | assumption)
        obtain ⟨ad194, e194, hx194_0, hx194_1, hx194_2, hx194_3, hx194_4, hx194_5, hx194_6, hx194_7, hx194_8, hx194_9⟩ := at_T44 HR1.out x5_1 p194 q194
        cases e194
        replace p194 := eq_true p194
        replace q194 := eq_true q194
        go_wp2
        repeat (go_quiet (fail); try go_wp2)
        go_roundg k1
        case measure => have := HK1.out; omega
        case rel => exact ⟨(wrap64 (x5_1 + 1)), (by first | rfl | (simp; done) | (simp [*]; done)), H', ⟨by have := HK1.out; omega⟩, by repeat (first | exact Drawn0.refl _ | apply Drawn0.step)⟩
      ·rw [if_neg c6] at H
       exact absurd H (by simp)
     ·rw [if_neg c5] at H
      exact absurd H (by simp)
    ·rw [if_neg c4] at H
     have c4b0 : decide (x5_1 < (l0.length : Int)) = false := decide_eq_false c4
     clear c4
     obtain rfl := Option.some.inj H
     go_wp2
     repeat (go_quiet (fail); try go_wp2)
     go_ret
     exact ⟨by first | rfl | (simp; done) | (simp [*]; done), by repeat (first | exact Drawn0.refl _ | apply Drawn0.step)⟩
 ·rw [if_neg c3] at H
  have c3b0 : ((l0.length : Int) == (l1.length : Int)) = false := beq_eq_false_iff_ne.mpr c3
  have c3b1 : ((l0.length : Int) != (l1.length : Int)) = true := bne_iff_ne.mpr c3
  have c3b2 : (l0.length == l1.length) = false := by first | simpa using c3 | (simp at c3 ⊢; omega)
  obtain rfl := Option.some.inj H
  go_enter Try.func18, Try.ntmps18
  go_wp2
  repeat (go_quiet (fail); try go_wp2)
  go_ret
  exact ⟨by first | rfl | (simp; done) | (simp [*]; done), by repeat (first | exact Drawn0.refl _ | apply Drawn0.step)⟩

end Go.Proofs.Ytcbdcgghccjdpaa.Q
