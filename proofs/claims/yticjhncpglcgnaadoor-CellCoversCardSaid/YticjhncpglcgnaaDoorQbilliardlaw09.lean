-- PRINTED by print.py (a twelfth state) out of the translation. Not trusted: Lean checks it.
import Derived.Test.YticjhncpglcgnaaDoorQ0
import Derived.Test.YticjhncpglcgnaaDoorQE0
import Derived.Test.YticjhncpglcgnaaDoorQcell
import Derived.Test.YticjhncpglcgnaaDoorQcellA
import Derived.Test.YticjhncpglcgnaaDoorMglob
namespace Go.Proofs.YticjhncpglcgnaaDoor.Q
open Go.RowKit Go.Proofs.YticjhncpglcgnaaDoorW.PrintWords Go.Proofs.YticjhncpglcgnaaDoorW.PrintLast Go.Proofs.YticjhncpglcgnaaDoorW.PrintMore
attribute [local go_sem] max2_int min2_int max_two min_two max_three min_three max_four min_four   -- for this text's walks alone
set_option linter.unusedVariables false
set_option linter.unusedSimpArgs false

attribute [local go_sem high] eqA29
/-! ### billiardlaw09_same: function 17 -/
def billiardlaw09_same.l0 : Nat → List (S29) → List (S26) → Int → Option (Bool)
  | 0, _, _, _ => none
  | k + 1, x0, x1, x5 => if x5 < (x0.length : Int) then (if 0 ≤ x5 then (if x5 < (x1.length : Int) then (if (!(((rd_T29 x0 x5).f0) == ((rd_T26 x1 x5).f0)) || (!(((rd_T29 x0 x5).f1) == ((rd_T26 x1 x5).f1)))) = true then (some false) else (billiardlaw09_same.l0 k x0 x1 (wrap64 (x5 + 1)))) else (none)) else (none)) else (some true)
def billiardlaw09_same.f (k : Nat) (l0 : List (S29)) (l1 : List (S26)) : Option (Bool) := if (l0.length : Int) = (l1.length : Int) then (billiardlaw09_same.l0 k l0 l1 0) else (some false)
theorem billiardlaw09_same.mono_l : ∀ k, (∀ y0 y1 y2, LeO (billiardlaw09_same.l0 k y0 y1 y2) (billiardlaw09_same.l0 (k + 1) y0 y1 y2))
  | 0 => fun _ _ _ r h => by simp [billiardlaw09_same.l0] at h
  | k + 1 => by
    have ih0 := billiardlaw09_same.mono_l k
    · intro y0 y1 y2
      unfold billiardlaw09_same.l0
      repeat' first
      | (with_reducible exact ih0 _ _ _)
      | (with_reducible exact LeO.refl _)
      | (with_reducible exact LeO.none _)
      | (with_reducible refine LeO.ite ?_ ?_)
      | (with_reducible refine LeO.bind ?_ (fun _ => ?_))
      | exact ih0 _ _ _
      | exact LeO.none _
      | refine LeO.ite ?_ ?_
      | refine LeO.bind ?_ (fun _ => ?_)
theorem billiardlaw09_same.mono : ∀ a0 a1 k, LeO (billiardlaw09_same.f k a0 a1) (billiardlaw09_same.f (k + 1) a0 a1) := by
  intro a0 a1 k
  have ih0 := billiardlaw09_same.mono_l k
  unfold billiardlaw09_same.f
  repeat' first
      | (with_reducible exact ih0 _ _ _)
      | (with_reducible exact LeO.refl _)
      | (with_reducible exact LeO.none _)
      | (with_reducible refine LeO.ite ?_ ?_)
      | (with_reducible refine LeO.bind ?_ (fun _ => ?_))
      | exact ih0 _ _ _
      | exact LeO.none _
      | refine LeO.ite ?_ ?_
      | refine LeO.bind ?_ (fun _ => ?_)
set_option maxHeartbeats 8000000 in
set_option maxRecDepth 100000 in
theorem billiardlaw09_same.calls (k : Nat) (A0 : Option Addr) (c0 : Nat) (l0 : List (S29)) (A1 : Option Addr) (c1 : Nat) (l1 : List (S26)) (r : Bool) (w : World) (hr0 : Kd.C k29 w A0 l0.length l0) (hc0 : l0.length ≤ c0) (hr1 : Kd.C k26 w A1 l1.length l1) (hc1 : l1.length ≤ c1) (h : billiardlaw09_same.f k l0 l1 = some r) :
    Calls Tryd.prog 17 #[.slice A0 l0.length c0, .slice A1 l1.length c1] w fun e w' => e = .returned (.bool r) ∧ Drawn0 w w' := by
  have hu29 := Tryd.underlying29
  have HR0 := Aside0.mk hr0
  have HC0 := Aside0.mk hc0
  clear hr0 hc0
  have HR1 := Aside0.mk hr1
  have HC1 := Aside0.mk hc1
  clear hr1 hc1
  have H : (if (l0.length : Int) = (l1.length : Int) then (billiardlaw09_same.l0 k l0 l1 0) else (some false)) = some r := h
  clear h
  by_cases c3 : (l0.length : Int) = (l1.length : Int)
  · rw [if_pos c3] at H
    have c3b0 : ((l0.length : Int) == (l1.length : Int)) = true := beq_iff_eq.mpr c3
    have c3b1 : ((l0.length : Int) != (l1.length : Int)) = false := bne_eq_false_iff_eq.mpr c3
    have c3b2 : (l0.length == l1.length) = true := by first | simpa using c3 | (simp at c3 ⊢; omega)
    clear c3
    have H' := Aside0.mk H
    clear H
    go_enter Tryd.func17, Tryd.ntmps17
    go_wp2
    repeat (go_quiet (fail); try go_wp2)
    go_loopg [5] k (fun kq v5 w' => ∃ (x5_1 : Int), v5 = .int .i64 x5_1 ∧ Aside0 (billiardlaw09_same.l0 kq l0 l1 x5_1 = some r) ∧ Aside0 (kq ≤ k) ∧ Drawn0 w w')
    case atStart => exact ⟨(0), (by first | rfl | (simp; done) | (simp [*]; done)), H', ⟨Nat.le_refl _⟩, by repeat (first | exact Drawn0.refl _ | apply Drawn0.step)⟩
    case round =>
      clear H'
      try clear c1
      try clear p2
      try clear c3
      try clear c3b0
      try clear c3b1
      try clear c3b2
      obtain ⟨x5_1, rfl, HA, HK1, ⟨m1, rfl⟩⟩ := hrel
      cases gk with
      | zero => exact absurd HA.out (by simp [billiardlaw09_same.l0])
      | succ k1 =>
        have H := HA.out
        clear HA
        simp only [billiardlaw09_same.l0] at H
        by_cases c4 : x5_1 < (l0.length : Int)
        · rw [if_pos c4] at H
          have c4b0 : decide (x5_1 < (l0.length : Int)) = true := decide_eq_true c4
          clear c4
          by_cases c5 : 0 ≤ x5_1
          · rw [if_pos c5] at H
            have c5b0 : decide (0 ≤ x5_1) = true := decide_eq_true c5
            clear c5
            by_cases c6 : x5_1 < (l1.length : Int)
            · rw [if_pos c6] at H
              have c6b0 : decide (x5_1 < (l1.length : Int)) = true := decide_eq_true c6
              clear c6
              by_cases c7 : (!(((rd_T29 l0 x5_1).f0) == ((rd_T26 l1 x5_1).f0)) || (!(((rd_T29 l0 x5_1).f1) == ((rd_T26 l1 x5_1).f1)))) = true
              · rw [if_pos c7] at H
                have c7b0 : (!(((rd_T29 l0 x5_1).f0) == ((rd_T26 l1 x5_1).f0)) || (!(((rd_T29 l0 x5_1).f1) == ((rd_T26 l1 x5_1).f1)))) = true := c7
                clear c7
                obtain rfl := Option.some.inj H
                have p104 : 0 ≤ (x5_1 : Int) := of_decide_eq_true (by first | (with_reducible assumption) | assumption)
                have q104 : x5_1 < (l0.length : Int) := of_decide_eq_true (by first | (with_reducible assumption) | assumption)
                obtain ⟨ad104, e104, hx104_0, hx104_1⟩ := at_T29 HR0.out x5_1 p104 q104
                cases e104
                replace p104 := eq_true p104
                replace q104 := eq_true q104
                have p105 : 0 ≤ (x5_1 : Int) := of_decide_eq_true (by first | (with_reducible assumption) | assumption)
                have q105 : x5_1 < (l1.length : Int) := of_decide_eq_true (by first | (with_reducible assumption) | assumption)
                obtain ⟨ad105, e105, hx105_0, hx105_1⟩ := at_T26 HR1.out x5_1 p105 q105
                cases e105
                replace p105 := eq_true p105
                replace q105 := eq_true q105
                have p106 : 0 ≤ (x5_1 : Int) := of_decide_eq_true (by first | (with_reducible assumption) | assumption)
                have q106 : x5_1 < (l1.length : Int) := of_decide_eq_true (by first | (with_reducible assumption) | assumption)
                obtain ⟨ad106, e106, hx106_0, hx106_1⟩ := at_T26 HR1.out x5_1 p106 q106
                obtain rfl : ad105 = ad106 := (by injection e106)
                replace p106 := eq_true p106
                replace q106 := eq_true q106
                go_wp2
                repeat (go_quiet (fail); try go_wp2)
                go_ret
                exact ⟨by first | rfl | (simp; done) | (simp [*]; done), by repeat (first | exact Drawn0.refl _ | apply Drawn0.step)⟩
              · rw [if_neg c7] at H
                have c7b0 : (!(((rd_T29 l0 x5_1).f0) == ((rd_T26 l1 x5_1).f0)) || (!(((rd_T29 l0 x5_1).f1) == ((rd_T26 l1 x5_1).f1)))) = false := by simpa using c7
                clear c7
                have H' := Aside0.mk H
                clear H
                have p104 : 0 ≤ (x5_1 : Int) := of_decide_eq_true (by first | (with_reducible assumption) | assumption)
                have q104 : x5_1 < (l0.length : Int) := of_decide_eq_true (by first | (with_reducible assumption) | assumption)
                obtain ⟨ad104, e104, hx104_0, hx104_1⟩ := at_T29 HR0.out x5_1 p104 q104
                cases e104
                replace p104 := eq_true p104
                replace q104 := eq_true q104
                have p105 : 0 ≤ (x5_1 : Int) := of_decide_eq_true (by first | (with_reducible assumption) | assumption)
                have q105 : x5_1 < (l1.length : Int) := of_decide_eq_true (by first | (with_reducible assumption) | assumption)
                obtain ⟨ad105, e105, hx105_0, hx105_1⟩ := at_T26 HR1.out x5_1 p105 q105
                cases e105
                replace p105 := eq_true p105
                replace q105 := eq_true q105
                have p106 : 0 ≤ (x5_1 : Int) := of_decide_eq_true (by first | (with_reducible assumption) | assumption)
                have q106 : x5_1 < (l1.length : Int) := of_decide_eq_true (by first | (with_reducible assumption) | assumption)
                obtain ⟨ad106, e106, hx106_0, hx106_1⟩ := at_T26 HR1.out x5_1 p106 q106
                obtain rfl : ad105 = ad106 := (by injection e106)
                replace p106 := eq_true p106
                replace q106 := eq_true q106
                go_wp2
                repeat (go_quiet (fail); try go_wp2)
                go_roundg k1
                case measure => have := HK1.out; omega
                case rel => exact ⟨(wrap64 (x5_1 + 1)), (by first | rfl | (simp; done) | (simp [*]; done)), H', ⟨by have := HK1.out; omega⟩, by repeat (first | exact Drawn0.refl _ | apply Drawn0.step)⟩
            · rw [if_neg c6] at H
              exact absurd H (by simp)
          · rw [if_neg c5] at H
            exact absurd H (by simp)
        · rw [if_neg c4] at H
          have c4b0 : decide (x5_1 < (l0.length : Int)) = false := decide_eq_false c4
          clear c4
          obtain rfl := Option.some.inj H
          go_wp2
          repeat (go_quiet (fail); try go_wp2)
          go_ret
          exact ⟨by first | rfl | (simp; done) | (simp [*]; done), by repeat (first | exact Drawn0.refl _ | apply Drawn0.step)⟩
  · rw [if_neg c3] at H
    have c3b0 : ((l0.length : Int) == (l1.length : Int)) = false := beq_eq_false_iff_ne.mpr c3
    have c3b1 : ((l0.length : Int) != (l1.length : Int)) = true := bne_iff_ne.mpr c3
    have c3b2 : (l0.length == l1.length) = false := by first | simpa using c3 | (simp at c3 ⊢; omega)
    obtain rfl := Option.some.inj H
    go_enter Tryd.func17, Tryd.ntmps17
    go_wp2
    repeat (go_quiet (fail); try go_wp2)
    go_ret
    exact ⟨by first | rfl | (simp; done) | (simp [*]; done), by repeat (first | exact Drawn0.refl _ | apply Drawn0.step)⟩

/-! ### billiardlaw09_awake: function 8 -/
-- IMPORT Derived.Test.YticjhncpglcgnaaDoorMglob
def billiardlaw09_awake.f (k : Nat)  : Option (Bool) := (cell_All.f (-1) 0 0 4194304).bind fun t108 => ((cell_Span.f (-1) 0 0 4194304).bind fun bt111 => ((cell_Span.f 1 0 0 0).bind fun bt118 => ((cell_Of.f (-1) 4194304).bind fun bt125 => (if (bt125.1 == (-1) && (bt125.2 == 1)) = true then ((billiardlaw09_same.f k t108 (([(⟨(-1), 0⟩ : S26), (⟨0, 0⟩ : S26), (⟨(-1), 1⟩ : S26), (⟨0, 1⟩ : S26)] : List (S26)))).bind fun t130 => (if t130 = true then (if (bt111.1 == (-1) && (bt111.2.1 == 0)) = true then (if (bt111.2.2.1 == 0 && (bt111.2.2.2.1 == 1)) = true then (if bt111.2.2.2.2 = true then (if bt118.2.2.2.2 = true then (some false) else ((cell_Bucket.f 0 0).bind fun t131 => (if t131 = 0 then ((cell_Bucket.f 1 0).bind fun t132 => (some (t132 == 93))) else (some false)))) else (some false)) else (some false)) else (some false)) else (some false))) else (some false)))))
theorem billiardlaw09_awake.mono : ∀ k, LeO (billiardlaw09_awake.f k ) (billiardlaw09_awake.f (k + 1) ) := by
  intro  k
  unfold billiardlaw09_awake.f
  repeat' first
      | (with_reducible exact billiardlaw09_same.mono _ _ _)
      | (with_reducible exact LeO.refl _)
      | (with_reducible exact LeO.none _)
      | (with_reducible refine LeO.ite ?_ ?_)
      | (with_reducible refine LeO.bind ?_ (fun _ => ?_))
      | exact billiardlaw09_same.mono _ _ _
      | exact LeO.none _
      | refine LeO.ite ?_ ?_
      | refine LeO.bind ?_ (fun _ => ?_)
theorem billiardlaw09_awake.only {k : Nat} {r : Bool} (h : billiardlaw09_awake.f k = some r) : r = true := by
  have e : billiardlaw09_awake.f 300 = some true := by decide +kernel
  have h1 := at_rounds billiardlaw09_awake.mono (Nat.le_add_right k 300) h
  have h2 := at_rounds billiardlaw09_awake.mono (Nat.le_add_left 300 k) e
  exact Option.some.inj (h1.symm.trans h2)
set_option maxHeartbeats 8000000 in
set_option maxRecDepth 100000 in
theorem billiardlaw09_awake.calls (k : Nat)  (r : Bool) (w : World) (h : billiardlaw09_awake.f k  = some r) (HGF0 : GlobF w) :
    Calls Tryd.prog 8 #[] w fun e w' => e = .returned (.bool r) ∧ Below w.heap.size w w' := by
  have HGF := Aside0.mk HGF0
  clear HGF0
  have HR := Aside0.mk (billiardlaw09_awake.only h)
  have hu33 := Tryd.underlying33
  have hu29 := Tryd.underlying29
  have hu23 := Tryd.underlying23
  have hu26 := Tryd.underlying26
  have HB := Aside0.mk (Below.refl w.heap.size w)
  have H : ((cell_All.f (-1) 0 0 4194304).bind fun t108 => ((cell_Span.f (-1) 0 0 4194304).bind fun bt111 => ((cell_Span.f 1 0 0 0).bind fun bt118 => ((cell_Of.f (-1) 4194304).bind fun bt125 => (if (bt125.1 == (-1) && (bt125.2 == 1)) = true then ((billiardlaw09_same.f k t108 (([(⟨(-1), 0⟩ : S26), (⟨0, 0⟩ : S26), (⟨(-1), 1⟩ : S26), (⟨0, 1⟩ : S26)] : List (S26)))).bind fun t130 => (if t130 = true then (if (bt111.1 == (-1) && (bt111.2.1 == 0)) = true then (if (bt111.2.2.1 == 0 && (bt111.2.2.2.1 == 1)) = true then (if bt111.2.2.2.2 = true then (if bt118.2.2.2.2 = true then (some false) else ((cell_Bucket.f 0 0).bind fun t131 => (if t131 = 0 then ((cell_Bucket.f 1 0).bind fun t132 => (some (t132 == 93))) else (some false)))) else (some false)) else (some false)) else (some false)) else (some false))) else (some false)))))) = some r := h
  clear h
  replace H := Option.bind_eq_some_iff.mp H
  obtain ⟨t108, A10, H⟩ := H
  replace H : ((cell_Span.f (-1) 0 0 4194304).bind fun bt111 => ((cell_Span.f 1 0 0 0).bind fun bt118 => ((cell_Of.f (-1) 4194304).bind fun bt125 => (if (bt125.1 == (-1) && (bt125.2 == 1)) = true then ((billiardlaw09_same.f k t108 (([(⟨(-1), 0⟩ : S26), (⟨0, 0⟩ : S26), (⟨(-1), 1⟩ : S26), (⟨0, 1⟩ : S26)] : List (S26)))).bind fun t130 => (if t130 = true then (if (bt111.1 == (-1) && (bt111.2.1 == 0)) = true then (if (bt111.2.2.1 == 0 && (bt111.2.2.2.1 == 1)) = true then (if bt111.2.2.2.2 = true then (if bt118.2.2.2.2 = true then (some false) else ((cell_Bucket.f 0 0).bind fun t131 => (if t131 = 0 then ((cell_Bucket.f 1 0).bind fun t132 => (some (t132 == 93))) else (some false)))) else (some false)) else (some false)) else (some false)) else (some false))) else (some false))))) = some r := H
  have A1 := Aside0.mk A10
  clear A10
  replace H := Option.bind_eq_some_iff.mp H
  obtain ⟨⟨t111, t112, t113, t114, t115⟩, A20, H⟩ := H
  replace H : ((cell_Span.f 1 0 0 0).bind fun bt118 => ((cell_Of.f (-1) 4194304).bind fun bt125 => (if (bt125.1 == (-1) && (bt125.2 == 1)) = true then ((billiardlaw09_same.f k t108 (([(⟨(-1), 0⟩ : S26), (⟨0, 0⟩ : S26), (⟨(-1), 1⟩ : S26), (⟨0, 1⟩ : S26)] : List (S26)))).bind fun t130 => (if t130 = true then (if (t111 == (-1) && (t112 == 0)) = true then (if (t113 == 0 && (t114 == 1)) = true then (if t115 = true then (if bt118.2.2.2.2 = true then (some false) else ((cell_Bucket.f 0 0).bind fun t131 => (if t131 = 0 then ((cell_Bucket.f 1 0).bind fun t132 => (some (t132 == 93))) else (some false)))) else (some false)) else (some false)) else (some false)) else (some false))) else (some false)))) = some r := H
  have A2 := Aside0.mk A20
  clear A20
  replace H := Option.bind_eq_some_iff.mp H
  obtain ⟨⟨t118, t119, t120, t121, t122⟩, A30, H⟩ := H
  replace H : ((cell_Of.f (-1) 4194304).bind fun bt125 => (if (bt125.1 == (-1) && (bt125.2 == 1)) = true then ((billiardlaw09_same.f k t108 (([(⟨(-1), 0⟩ : S26), (⟨0, 0⟩ : S26), (⟨(-1), 1⟩ : S26), (⟨0, 1⟩ : S26)] : List (S26)))).bind fun t130 => (if t130 = true then (if (t111 == (-1) && (t112 == 0)) = true then (if (t113 == 0 && (t114 == 1)) = true then (if t115 = true then (if t122 = true then (some false) else ((cell_Bucket.f 0 0).bind fun t131 => (if t131 = 0 then ((cell_Bucket.f 1 0).bind fun t132 => (some (t132 == 93))) else (some false)))) else (some false)) else (some false)) else (some false)) else (some false))) else (some false))) = some r := H
  have A3 := Aside0.mk A30
  clear A30
  replace H := Option.bind_eq_some_iff.mp H
  obtain ⟨⟨t125, t126⟩, A40, H⟩ := H
  replace H : (if (t125 == (-1) && (t126 == 1)) = true then ((billiardlaw09_same.f k t108 (([(⟨(-1), 0⟩ : S26), (⟨0, 0⟩ : S26), (⟨(-1), 1⟩ : S26), (⟨0, 1⟩ : S26)] : List (S26)))).bind fun t130 => (if t130 = true then (if (t111 == (-1) && (t112 == 0)) = true then (if (t113 == 0 && (t114 == 1)) = true then (if t115 = true then (if t122 = true then (some false) else ((cell_Bucket.f 0 0).bind fun t131 => (if t131 = 0 then ((cell_Bucket.f 1 0).bind fun t132 => (some (t132 == 93))) else (some false)))) else (some false)) else (some false)) else (some false)) else (some false))) else (some false)) = some r := H
  have A4 := Aside0.mk A40
  clear A40
  by_cases c5 : (t125 == (-1) && (t126 == 1)) = true
  · rw [if_pos c5] at H
    have c5b0 : (t125 == (-1) && (t126 == 1)) = true := c5
    (try (have c5b1 : decide (t125 = (-1) && (t126 == 1)) = true := by simpa using c5))
    (try (have c5b2 : (t125 == (-1) && (t126 == 1)) = true := by simpa using c5))
    clear c5
    obtain ⟨y127, hy127⟩ : ∃ y_ : List (S26), y_ = (([(⟨(-1), 0⟩ : S26), (⟨0, 0⟩ : S26), (⟨(-1), 1⟩ : S26), (⟨0, 1⟩ : S26)] : List (S26))) := ⟨_, rfl⟩
    replace H : ((billiardlaw09_same.f k t108 y127).bind fun t130 => (if t130 = true then (if (t111 == (-1) && (t112 == 0)) = true then (if (t113 == 0 && (t114 == 1)) = true then (if t115 = true then (if t122 = true then (some false) else ((cell_Bucket.f 0 0).bind fun t131 => (if t131 = 0 then ((cell_Bucket.f 1 0).bind fun t132 => (some (t132 == 93))) else (some false)))) else (some false)) else (some false)) else (some false)) else (some false))) = some r := by first | (rw [hy127]; with_reducible exact H) | (have H2_ := (Option.bind_some _ _).symm.trans H; rw [hy127]; with_reducible exact H2_) | (have H2_ := (Option.bind_some _ _).symm.trans H; with_reducible exact H2_) | with_reducible exact H | (rw [hy127]; exact H) | exact H
    have Ny127 := Aside0.mk hy127
    clear hy127
    replace H := Option.bind_eq_some_iff.mp H
    obtain ⟨t130, A60, H⟩ := H
    replace H : (if t130 = true then (if (t111 == (-1) && (t112 == 0)) = true then (if (t113 == 0 && (t114 == 1)) = true then (if t115 = true then (if t122 = true then (some false) else ((cell_Bucket.f 0 0).bind fun t131 => (if t131 = 0 then ((cell_Bucket.f 1 0).bind fun t132 => (some (t132 == 93))) else (some false)))) else (some false)) else (some false)) else (some false)) else (some false)) = some r := H
    have A6 := Aside0.mk A60
    clear A60
    by_cases c7 : t130 = true
    · subst c7
      have H1 : (if (t111 == (-1) && (t112 == 0)) = true then (if (t113 == 0 && (t114 == 1)) = true then (if t115 = true then (if t122 = true then (some false) else ((cell_Bucket.f 0 0).bind fun t131 => (if t131 = 0 then ((cell_Bucket.f 1 0).bind fun t132 => (some (t132 == 93))) else (some false)))) else (some false)) else (some false)) else (some false)) = some r := by rw [if_pos rfl] at H; exact H
      clear H
      have H := H1
      clear H1
      by_cases c8 : (t111 == (-1) && (t112 == 0)) = true
      · rw [if_pos c8] at H
        have c8b0 : (t111 == (-1) && (t112 == 0)) = true := c8
        (try (have c8b1 : decide (t111 = (-1) && (t112 == 0)) = true := by simpa using c8))
        (try (have c8b2 : (t111 == (-1) && (t112 == 0)) = true := by simpa using c8))
        clear c8
        by_cases c9 : (t113 == 0 && (t114 == 1)) = true
        · rw [if_pos c9] at H
          have c9b0 : (t113 == 0 && (t114 == 1)) = true := c9
          (try (have c9b1 : decide (t113 = 0 && (t114 == 1)) = true := by simpa using c9))
          (try (have c9b2 : (t113 == 0 && (t114 == 1)) = true := by simpa using c9))
          clear c9
          by_cases c10 : t115 = true
          · subst c10
            have H1 : (if t122 = true then (some false) else ((cell_Bucket.f 0 0).bind fun t131 => (if t131 = 0 then ((cell_Bucket.f 1 0).bind fun t132 => (some (t132 == 93))) else (some false)))) = some r := by rw [if_pos rfl] at H; exact H
            clear H
            have H := H1
            clear H1
            by_cases c11 : t122 = true
            · subst c11
              have H1 : (some false) = some r := by rw [if_pos rfl] at H; exact H
              clear H
              have H := H1
              clear H1
              exact absurd ((Option.some.inj H).trans HR.out) (by decide)
            · replace c11 := Bool.eq_false_iff.mpr c11
              subst c11
              have H1 : ((cell_Bucket.f 0 0).bind fun t131 => (if t131 = 0 then ((cell_Bucket.f 1 0).bind fun t132 => (some (t132 == 93))) else (some false))) = some r := by rw [if_neg (show ¬ (false = true) by decide)] at H; exact H
              clear H
              have H := H1
              clear H1
              replace H := Option.bind_eq_some_iff.mp H
              obtain ⟨t131, A120, H⟩ := H
              replace H : (if t131 = 0 then ((cell_Bucket.f 1 0).bind fun t132 => (some (t132 == 93))) else (some false)) = some r := H
              have A12 := Aside0.mk A120
              clear A120
              by_cases c13 : t131 = 0
              · rw [if_pos c13] at H
                have c13b0 : (t131 == 0) = true := beq_iff_eq.mpr c13
                have c13b1 : (t131 != 0) = false := bne_eq_false_iff_eq.mpr c13
                clear c13
                replace H := Option.bind_eq_some_iff.mp H
                obtain ⟨t132, A140, H⟩ := H
                replace H : (some (t132 == 93)) = some r := H
                have A14 := Aside0.mk A140
                clear A140
                obtain rfl := Option.some.inj H
                go_enter Tryd.func8, Tryd.ntmps8
                go_wp2_with (first | ((with_reducible refine gate_dst (N := 1) rfl ?_); (try (refine gate_guard (by rfl) ?_; dsimp only)); refine box_event ?hg (N := 1) ?hd (cs := #[.int .i32 0, .int .i32 0, .int .i32 0, .int .i32 0]) (t := 33) ?hr ?_; (case hd => rfl); (case hg => rfl); (case hr => first | (go_simp; done) | (go_simp; rfl)); intro gb107 hg w15 hbox hb; have n0_ := Aside0.mk (below_step (by repeat (first | (with_reducible first | exact HB.out | apply below_alloc | apply pw_below_drewN | apply below_drew1) | exact HB.out)) hb); have n1_ := Aside0.mk (hbox); have n2_ := Aside0.mk ((by rw [hg]; exact (below_size (by repeat (first | (with_reducible first | exact HB.out | apply below_alloc | apply pw_below_drewN | apply below_drew1) | exact HB.out))) : w.heap.size ≤ gb107)); have n3_ := Aside0.mk ((by rw [hg]; exact (below_size (by repeat (first | (with_reducible first | exact HB.out | apply below_alloc | apply pw_below_drewN | apply below_drew1) | exact HB.out))) : w.heap.size ≤ gb107)); clear HB; have HB := n0_; have BK107 := n1_; have GW107 := n2_; have GE107 := n3_; clear n0_ n1_ n2_ n3_; clear hb hbox hg; have hcz16_0 : w15.cell? ⟨gb107, 0, none⟩ = some (.int .i32 0) := (blk_cell BK107.out 0).trans rfl; have hcz16_1 : w15.cell? ⟨gb107, 1, none⟩ = some (.int .i32 0) := (blk_cell BK107.out 1).trans rfl; have hcz16_2 : w15.cell? ⟨gb107, 2, none⟩ = some (.int .i32 0) := (blk_cell BK107.out 2).trans rfl; have hcz16_3 : w15.cell? ⟨gb107, 3, none⟩ = some (.int .i32 0) := (blk_cell BK107.out 3).trans rfl; have hfz16_0 := blk_frozen BK107.out 0; have hfz16_1 := blk_frozen BK107.out 1; have hfz16_2 := blk_frozen BK107.out 2; have hfz16_3 := blk_frozen BK107.out 3) | ((with_reducible refine gate_callee (f := 18) rfl ?_); refine goesL_ (some 11) rfl rfl Tryd.func18 (by kernel_rfl) rfl #[.agg #[.int .i32 (-1), .int .i32 0, .int .i32 0, .int .i32 4194304]] rfl (by (try simp only [List.map_toArray, List.map_cons, List.map_nil]); first | done | rfl | (simp only [List.length_drop, List.length_take]; rfl)) ?_; (with_reducible refine (cell_All.calls (-1) 0 0 4194304 t108 _ A1.out).mono ?_); rintro e w17 ⟨v109, rfl, ho0, hb⟩; refine ⟨_, rfl, ?_⟩; have n0_ := Aside0.mk (Kd.R_lower ho0 (below_size (by repeat (first | (with_reducible first | exact HB.out | apply below_alloc | apply pw_below_drewN | apply below_drew1 | refine below_set ?_ GE107.out) | exact HB.out)))); have n1_ := Aside0.mk (blk_below (g := gb107) (o := .cells #[.int .i32 (-1), .int .i32 0, .int .i32 0, .int .i32 4194304] 33 (0, 0)) (by (with_reducible repeat (first | refine blk_drewN ?_ _ | refine blk_drew ?_ | refine blk_alloc ?_ _)); refine blk_put (cs := #[.int .i32 (-1), .int .i32 0, .int .i32 0, .int .i32 0]) ?_ 3 _ rfl; (with_reducible repeat (first | refine blk_drewN ?_ _ | refine blk_drew ?_ | refine blk_alloc ?_ _)); refine blk_put (cs := #[.int .i32 (-1), .int .i32 0, .int .i32 0, .int .i32 0]) ?_ 2 _ rfl; (with_reducible repeat (first | refine blk_drewN ?_ _ | refine blk_drew ?_ | refine blk_alloc ?_ _)); refine blk_put (cs := #[.int .i32 (-1), .int .i32 0, .int .i32 0, .int .i32 0]) ?_ 1 _ rfl; (with_reducible repeat (first | refine blk_drewN ?_ _ | refine blk_drew ?_ | refine blk_alloc ?_ _)); refine blk_put (cs := #[.int .i32 0, .int .i32 0, .int .i32 0, .int .i32 0]) ?_ 0 _ rfl; (with_reducible repeat (first | refine blk_drewN ?_ _ | refine blk_drew ?_ | refine blk_alloc ?_ _)); exact BK107.out) hb); have n2_ := Aside0.mk (below_step (by repeat (first | (with_reducible first | exact HB.out | apply below_alloc | apply pw_below_drewN | apply below_drew1 | refine below_set ?_ GE107.out) | exact HB.out)) hb); clear BK107; clear HB; have HO110 := n0_; have BK107 := n1_; have HB := n2_; clear n0_ n1_ n2_; (try clear hb); (try clear hb2); (try clear hk); (try clear hi); (try clear ho0); have hcz18_0 : w17.cell? ⟨gb107, 0, none⟩ = some (.int .i32 (-1)) := (blk_cell BK107.out 0).trans rfl; have hcz18_1 : w17.cell? ⟨gb107, 1, none⟩ = some (.int .i32 0) := (blk_cell BK107.out 1).trans rfl; have hcz18_2 : w17.cell? ⟨gb107, 2, none⟩ = some (.int .i32 0) := (blk_cell BK107.out 2).trans rfl; have hcz18_3 : w17.cell? ⟨gb107, 3, none⟩ = some (.int .i32 4194304) := (blk_cell BK107.out 3).trans rfl; have hfz18_0 := blk_frozen BK107.out 0; have hfz18_1 := blk_frozen BK107.out 1; have hfz18_2 := blk_frozen BK107.out 2; have hfz18_3 := blk_frozen BK107.out 3) | ((with_reducible refine gate_callee (f := 13) rfl ?_); refine goesL_ (some 14) rfl rfl Tryd.func13 (by kernel_rfl) rfl #[.agg #[.int .i32 (-1), .int .i32 0, .int .i32 0, .int .i32 4194304]] rfl (by (try simp only [List.map_toArray, List.map_cons, List.map_nil]); first | done | rfl | (simp only [List.length_drop, List.length_take]; rfl)) ?_; (with_reducible refine (cell_Span.calls (-1) 0 0 4194304 t111 t112 t113 t114 true _ A2.out).mono ?_); rintro e w19 ⟨rfl, hb⟩; refine ⟨_, rfl, ?_⟩; have n0_ := Aside0.mk (Kd.R_below (by (with_reducible repeat (first | apply Kd.R_alloc | apply Kd.R_drewN | apply Kd.R_drew)); exact HO110.out) hb); have n1_ := Aside0.mk (blk_below (g := gb107) (o := .cells #[.int .i32 (-1), .int .i32 0, .int .i32 0, .int .i32 4194304] 33 (0, 0)) (by (with_reducible repeat (first | refine blk_drewN ?_ _ | refine blk_drew ?_ | refine blk_alloc ?_ _)); exact BK107.out) hb); have n2_ := Aside0.mk (below_step (by repeat (first | (with_reducible first | exact HB.out | apply below_alloc | apply pw_below_drewN | apply below_drew1 | refine below_set ?_ GE107.out) | exact HB.out)) hb); clear HO110; clear BK107; clear HB; have HO110 := n0_; have BK107 := n1_; have HB := n2_; clear n0_ n1_ n2_; (try clear hb); (try clear hb2); (try clear hk); (try clear hi)) | ((with_reducible refine gate_dst (N := 3) rfl ?_); (try (refine gate_guard (by rfl) ?_; dsimp only)); refine box_event ?hg (N := 3) ?hd (cs := #[.int .i32 0, .int .i32 0]) (t := 29) ?hr ?_; (case hd => rfl); (case hg => rfl); (case hr => first | (go_simp; done) | (go_simp; rfl)); intro gb116 hg w20 hbox hb; have n0_ := Aside0.mk (Kd.R_below (Kd.R_elderB (by (with_reducible repeat (first | apply Kd.R_alloc | apply Kd.R_drewN | apply Kd.R_drew)); exact HO110.out) gb116 (Nat.le_of_eq hg.symm)) hb); have n1_ := Aside0.mk (blk_below (g := gb107) (o := .cells #[.int .i32 (-1), .int .i32 0, .int .i32 0, .int .i32 4194304] 33 (0, 0)) (by (with_reducible repeat (first | refine blk_drewN ?_ _ | refine blk_drew ?_ | refine blk_alloc ?_ _)); exact BK107.out) hb); have n2_ := Aside0.mk (below_step (by repeat (first | (with_reducible first | exact HB.out | apply below_alloc | apply pw_below_drewN | apply below_drew1 | refine below_set ?_ GE107.out) | exact HB.out)) hb); have n3_ := Aside0.mk (hbox); have n4_ := Aside0.mk ((by rw [hg]; exact (below_size (by repeat (first | (with_reducible first | exact HB.out | apply below_alloc | apply pw_below_drewN | apply below_drew1 | refine below_set ?_ GE107.out) | exact HB.out))) : w.heap.size ≤ gb116)); have n5_ := Aside0.mk ((by rw [hg]; exact (below_size (by repeat (first | (with_reducible first | exact HB.out | apply below_alloc | apply pw_below_drewN | apply below_drew1 | refine below_set ?_ GE107.out) | exact HB.out))) : w.heap.size ≤ gb116)); have n6_ := Aside0.mk ((by rw [hg]; exact Nat.ne_of_lt (blk_lt (g := gb107) (o := .cells #[.int .i32 (-1), .int .i32 0, .int .i32 0, .int .i32 4194304] 33 (0, 0)) (by (with_reducible repeat (first | refine blk_drewN ?_ _ | refine blk_drew ?_ | refine blk_alloc ?_ _)); exact BK107.out)) : gb107 ≠ gb116)); have n7_ := Aside0.mk ((by rw [hg]; exact Nat.ne_of_gt (blk_lt (g := gb107) (o := .cells #[.int .i32 (-1), .int .i32 0, .int .i32 0, .int .i32 4194304] 33 (0, 0)) (by (with_reducible repeat (first | refine blk_drewN ?_ _ | refine blk_drew ?_ | refine blk_alloc ?_ _)); exact BK107.out)) : gb116 ≠ gb107)); clear HO110; clear BK107; clear HB; have HO110 := n0_; have BK107 := n1_; have HB := n2_; have BK116 := n3_; have GW116 := n4_; have GE116 := n5_; have NB107_116 := n6_; have NB116_107 := n7_; clear n0_ n1_ n2_ n3_ n4_ n5_ n6_ n7_; clear hb hbox hg) | ((with_reducible refine gate_dst (N := 4) rfl ?_); (try (refine gate_guard (by rfl) ?_; dsimp only)); refine box_event ?hg (N := 4) ?hd (cs := #[.int .i32 0, .int .i32 0]) (t := 29) ?hr ?_; (case hd => rfl); (case hg => rfl); (case hr => first | (go_simp; done) | (go_simp; rfl)); intro gb117 hg w21 hbox hb; have n0_ := Aside0.mk (Kd.R_below (Kd.R_elderB (by (with_reducible repeat (first | apply Kd.R_alloc | apply Kd.R_drewN | apply Kd.R_drew)); exact HO110.out) gb117 (Nat.le_of_eq hg.symm)) hb); have n1_ := Aside0.mk (blk_below (g := gb107) (o := .cells #[.int .i32 (-1), .int .i32 0, .int .i32 0, .int .i32 4194304] 33 (0, 0)) (by (with_reducible repeat (first | refine blk_drewN ?_ _ | refine blk_drew ?_ | refine blk_alloc ?_ _)); exact BK107.out) hb); have n2_ := Aside0.mk (blk_below (g := gb116) (o := .cells #[.int .i32 0, .int .i32 0] 29 (0, 0)) (by (with_reducible repeat (first | refine blk_drewN ?_ _ | refine blk_drew ?_ | refine blk_alloc ?_ _)); exact BK116.out) hb); have n3_ := Aside0.mk (below_step (by repeat (first | (with_reducible first | exact HB.out | apply below_alloc | apply pw_below_drewN | apply below_drew1 | refine below_set ?_ GE107.out | refine below_set ?_ GE116.out) | exact HB.out)) hb); have n4_ := Aside0.mk (hbox); have n5_ := Aside0.mk ((by rw [hg]; exact (below_size (by repeat (first | (with_reducible first | exact HB.out | apply below_alloc | apply pw_below_drewN | apply below_drew1 | refine below_set ?_ GE107.out | refine below_set ?_ GE116.out) | exact HB.out))) : w.heap.size ≤ gb117)); have n6_ := Aside0.mk ((by rw [hg]; exact (below_size (by repeat (first | (with_reducible first | exact HB.out | apply below_alloc | apply pw_below_drewN | apply below_drew1 | refine below_set ?_ GE107.out | refine below_set ?_ GE116.out) | exact HB.out))) : w.heap.size ≤ gb117)); have n7_ := Aside0.mk ((by rw [hg]; exact Nat.ne_of_lt (blk_lt (g := gb107) (o := .cells #[.int .i32 (-1), .int .i32 0, .int .i32 0, .int .i32 4194304] 33 (0, 0)) (by (with_reducible repeat (first | refine blk_drewN ?_ _ | refine blk_drew ?_ | refine blk_alloc ?_ _)); exact BK107.out)) : gb107 ≠ gb117)); have n8_ := Aside0.mk ((by rw [hg]; exact Nat.ne_of_gt (blk_lt (g := gb107) (o := .cells #[.int .i32 (-1), .int .i32 0, .int .i32 0, .int .i32 4194304] 33 (0, 0)) (by (with_reducible repeat (first | refine blk_drewN ?_ _ | refine blk_drew ?_ | refine blk_alloc ?_ _)); exact BK107.out)) : gb117 ≠ gb107)); have n9_ := Aside0.mk ((by rw [hg]; exact Nat.ne_of_lt (blk_lt (g := gb116) (o := .cells #[.int .i32 0, .int .i32 0] 29 (0, 0)) (by (with_reducible repeat (first | refine blk_drewN ?_ _ | refine blk_drew ?_ | refine blk_alloc ?_ _)); exact BK116.out)) : gb116 ≠ gb117)); have n10_ := Aside0.mk ((by rw [hg]; exact Nat.ne_of_gt (blk_lt (g := gb116) (o := .cells #[.int .i32 0, .int .i32 0] 29 (0, 0)) (by (with_reducible repeat (first | refine blk_drewN ?_ _ | refine blk_drew ?_ | refine blk_alloc ?_ _)); exact BK116.out)) : gb117 ≠ gb116)); clear HO110; clear BK107; clear BK116; clear HB; have HO110 := n0_; have BK107 := n1_; have BK116 := n2_; have HB := n3_; have BK117 := n4_; have GW117 := n5_; have GE117 := n6_; have NB107_117 := n7_; have NB117_107 := n8_; have NB116_117 := n9_; have NB117_116 := n10_; clear n0_ n1_ n2_ n3_ n4_ n5_ n6_ n7_ n8_ n9_ n10_; clear hb hbox hg; have hnb22 := NB116_107.out; have hnc22 := NB107_116.out; have hnb23 := NB116_117.out; have hnc23 := NB117_116.out; have hcz24_0 : w21.cell? ⟨gb116, 0, none⟩ = some (.int .i32 0) := (blk_cell BK116.out 0).trans rfl; have hcz24_1 : w21.cell? ⟨gb116, 1, none⟩ = some (.int .i32 0) := (blk_cell BK116.out 1).trans rfl; have hfz24_0 := blk_frozen BK116.out 0; have hfz24_1 := blk_frozen BK116.out 1; have hnb25 := NB117_107.out; have hnc25 := NB107_117.out; have hcz26_0 : w21.cell? ⟨gb117, 0, none⟩ = some (.int .i32 0) := (blk_cell BK117.out 0).trans rfl; have hcz26_1 : w21.cell? ⟨gb117, 1, none⟩ = some (.int .i32 0) := (blk_cell BK117.out 1).trans rfl; have hfz26_0 := blk_frozen BK117.out 0; have hfz26_1 := blk_frozen BK117.out 1) | ((with_reducible refine gate_callee (f := 13) rfl ?_); refine goesL_ (some 20) rfl rfl Tryd.func13 (by kernel_rfl) rfl #[.agg #[.int .i32 1, .int .i32 0, .int .i32 0, .int .i32 0]] rfl (by (try simp only [List.map_toArray, List.map_cons, List.map_nil]); first | done | rfl | (simp only [List.length_drop, List.length_take]; rfl)) ?_; (with_reducible refine (cell_Span.calls 1 0 0 0 t118 t119 t120 t121 false _ A3.out).mono ?_); rintro e w27 ⟨rfl, hb⟩; refine ⟨_, rfl, ?_⟩; have n0_ := Aside0.mk (Kd.R_below (by (with_reducible repeat (first | apply Kd.R_alloc | apply Kd.R_drewN | apply Kd.R_drew)); exact (Kd.R_mono (Kd.R_mono (Kd.R_far (p := ⟨gb117, 1, none⟩) (Kd.R_far (p := ⟨gb117, 0, none⟩) (Kd.R_far (p := ⟨gb116, 1, none⟩) (Kd.R_far (p := ⟨gb116, 0, none⟩) (Kd.R_mono (Kd.R_mono HO110.out (fun k_ hk => (⟨hk, hk.1.2⟩ : _ ∧ k_ ≠ gb116))) (fun k_ hk => (⟨hk, hk.1.2⟩ : _ ∧ k_ ≠ gb117))) (fun _ hk => hk.1.2) (.int .i32 t111)) (fun _ hk => hk.1.2) (.int .i32 t112)) (fun _ hk => hk.2) (.int .i32 t113)) (fun _ hk => hk.2) (.int .i32 t114)) (fun _ h_ => h_.1)) (fun _ h_ => h_.1))) hb); have n1_ := Aside0.mk (blk_below (g := gb107) (o := .cells #[.int .i32 (-1), .int .i32 0, .int .i32 0, .int .i32 4194304] 33 (0, 0)) (by (with_reducible repeat (first | refine blk_drewN ?_ _ | refine blk_drew ?_ | refine blk_alloc ?_ _)); refine blk_far ?_ NB107_117.out _; (with_reducible repeat (first | refine blk_drewN ?_ _ | refine blk_drew ?_ | refine blk_alloc ?_ _)); refine blk_far ?_ NB107_117.out _; (with_reducible repeat (first | refine blk_drewN ?_ _ | refine blk_drew ?_ | refine blk_alloc ?_ _)); refine blk_far ?_ NB107_116.out _; (with_reducible repeat (first | refine blk_drewN ?_ _ | refine blk_drew ?_ | refine blk_alloc ?_ _)); refine blk_far ?_ NB107_116.out _; (with_reducible repeat (first | refine blk_drewN ?_ _ | refine blk_drew ?_ | refine blk_alloc ?_ _)); exact BK107.out) hb); have n2_ := Aside0.mk (blk_below (g := gb116) (o := .cells #[.int .i32 t111, .int .i32 t112] 29 (0, 0)) (by (with_reducible repeat (first | refine blk_drewN ?_ _ | refine blk_drew ?_ | refine blk_alloc ?_ _)); refine blk_far ?_ NB116_117.out _; (with_reducible repeat (first | refine blk_drewN ?_ _ | refine blk_drew ?_ | refine blk_alloc ?_ _)); refine blk_far ?_ NB116_117.out _; (with_reducible repeat (first | refine blk_drewN ?_ _ | refine blk_drew ?_ | refine blk_alloc ?_ _)); refine blk_put (cs := #[.int .i32 t111, .int .i32 0]) ?_ 1 _ rfl; (with_reducible repeat (first | refine blk_drewN ?_ _ | refine blk_drew ?_ | refine blk_alloc ?_ _)); refine blk_put (cs := #[.int .i32 0, .int .i32 0]) ?_ 0 _ rfl; (with_reducible repeat (first | refine blk_drewN ?_ _ | refine blk_drew ?_ | refine blk_alloc ?_ _)); exact BK116.out) hb); have n3_ := Aside0.mk (blk_below (g := gb117) (o := .cells #[.int .i32 t113, .int .i32 t114] 29 (0, 0)) (by (with_reducible repeat (first | refine blk_drewN ?_ _ | refine blk_drew ?_ | refine blk_alloc ?_ _)); refine blk_put (cs := #[.int .i32 t113, .int .i32 0]) ?_ 1 _ rfl; (with_reducible repeat (first | refine blk_drewN ?_ _ | refine blk_drew ?_ | refine blk_alloc ?_ _)); refine blk_put (cs := #[.int .i32 0, .int .i32 0]) ?_ 0 _ rfl; (with_reducible repeat (first | refine blk_drewN ?_ _ | refine blk_drew ?_ | refine blk_alloc ?_ _)); refine blk_far ?_ NB117_116.out _; (with_reducible repeat (first | refine blk_drewN ?_ _ | refine blk_drew ?_ | refine blk_alloc ?_ _)); refine blk_far ?_ NB117_116.out _; (with_reducible repeat (first | refine blk_drewN ?_ _ | refine blk_drew ?_ | refine blk_alloc ?_ _)); exact BK117.out) hb); have n4_ := Aside0.mk (below_step (by repeat (first | (with_reducible first | exact HB.out | apply below_alloc | apply pw_below_drewN | apply below_drew1 | refine below_set ?_ GE107.out | refine below_set ?_ GE116.out | refine below_set ?_ GE117.out) | exact HB.out)) hb); clear HO110; clear BK107; clear BK116; clear BK117; clear HB; have HO110 := n0_; have BK107 := n1_; have BK116 := n2_; have BK117 := n3_; have HB := n4_; clear n0_ n1_ n2_ n3_ n4_; (try clear hb); (try clear hb2); (try clear hk); (try clear hi)) | ((with_reducible refine gate_dst (N := 6) rfl ?_); (try (refine gate_guard (by rfl) ?_; dsimp only)); refine box_event ?hg (N := 6) ?hd (cs := #[.int .i32 0, .int .i32 0]) (t := 29) ?hr ?_; (case hd => rfl); (case hg => rfl); (case hr => first | (go_simp; done) | (go_simp; rfl)); intro gb123 hg w28 hbox hb; have n0_ := Aside0.mk (Kd.R_below (Kd.R_elderB (by (with_reducible repeat (first | apply Kd.R_alloc | apply Kd.R_drewN | apply Kd.R_drew)); exact HO110.out) gb123 (Nat.le_of_eq hg.symm)) hb); have n1_ := Aside0.mk (blk_below (g := gb107) (o := .cells #[.int .i32 (-1), .int .i32 0, .int .i32 0, .int .i32 4194304] 33 (0, 0)) (by (with_reducible repeat (first | refine blk_drewN ?_ _ | refine blk_drew ?_ | refine blk_alloc ?_ _)); exact BK107.out) hb); have n2_ := Aside0.mk (blk_below (g := gb116) (o := .cells #[.int .i32 t111, .int .i32 t112] 29 (0, 0)) (by (with_reducible repeat (first | refine blk_drewN ?_ _ | refine blk_drew ?_ | refine blk_alloc ?_ _)); exact BK116.out) hb); have n3_ := Aside0.mk (blk_below (g := gb117) (o := .cells #[.int .i32 t113, .int .i32 t114] 29 (0, 0)) (by (with_reducible repeat (first | refine blk_drewN ?_ _ | refine blk_drew ?_ | refine blk_alloc ?_ _)); exact BK117.out) hb); have n4_ := Aside0.mk (below_step (by repeat (first | (with_reducible first | exact HB.out | apply below_alloc | apply pw_below_drewN | apply below_drew1 | refine below_set ?_ GE107.out | refine below_set ?_ GE116.out | refine below_set ?_ GE117.out) | exact HB.out)) hb); have n5_ := Aside0.mk (hbox); have n6_ := Aside0.mk ((by rw [hg]; exact (below_size (by repeat (first | (with_reducible first | exact HB.out | apply below_alloc | apply pw_below_drewN | apply below_drew1 | refine below_set ?_ GE107.out | refine below_set ?_ GE116.out | refine below_set ?_ GE117.out) | exact HB.out))) : w.heap.size ≤ gb123)); have n7_ := Aside0.mk ((by rw [hg]; exact (below_size (by repeat (first | (with_reducible first | exact HB.out | apply below_alloc | apply pw_below_drewN | apply below_drew1 | refine below_set ?_ GE107.out | refine below_set ?_ GE116.out | refine below_set ?_ GE117.out) | exact HB.out))) : w.heap.size ≤ gb123)); have n8_ := Aside0.mk ((by rw [hg]; exact Nat.ne_of_lt (blk_lt (g := gb107) (o := .cells #[.int .i32 (-1), .int .i32 0, .int .i32 0, .int .i32 4194304] 33 (0, 0)) (by (with_reducible repeat (first | refine blk_drewN ?_ _ | refine blk_drew ?_ | refine blk_alloc ?_ _)); exact BK107.out)) : gb107 ≠ gb123)); have n9_ := Aside0.mk ((by rw [hg]; exact Nat.ne_of_gt (blk_lt (g := gb107) (o := .cells #[.int .i32 (-1), .int .i32 0, .int .i32 0, .int .i32 4194304] 33 (0, 0)) (by (with_reducible repeat (first | refine blk_drewN ?_ _ | refine blk_drew ?_ | refine blk_alloc ?_ _)); exact BK107.out)) : gb123 ≠ gb107)); have n10_ := Aside0.mk ((by rw [hg]; exact Nat.ne_of_lt (blk_lt (g := gb116) (o := .cells #[.int .i32 t111, .int .i32 t112] 29 (0, 0)) (by (with_reducible repeat (first | refine blk_drewN ?_ _ | refine blk_drew ?_ | refine blk_alloc ?_ _)); exact BK116.out)) : gb116 ≠ gb123)); have n11_ := Aside0.mk ((by rw [hg]; exact Nat.ne_of_gt (blk_lt (g := gb116) (o := .cells #[.int .i32 t111, .int .i32 t112] 29 (0, 0)) (by (with_reducible repeat (first | refine blk_drewN ?_ _ | refine blk_drew ?_ | refine blk_alloc ?_ _)); exact BK116.out)) : gb123 ≠ gb116)); have n12_ := Aside0.mk ((by rw [hg]; exact Nat.ne_of_lt (blk_lt (g := gb117) (o := .cells #[.int .i32 t113, .int .i32 t114] 29 (0, 0)) (by (with_reducible repeat (first | refine blk_drewN ?_ _ | refine blk_drew ?_ | refine blk_alloc ?_ _)); exact BK117.out)) : gb117 ≠ gb123)); have n13_ := Aside0.mk ((by rw [hg]; exact Nat.ne_of_gt (blk_lt (g := gb117) (o := .cells #[.int .i32 t113, .int .i32 t114] 29 (0, 0)) (by (with_reducible repeat (first | refine blk_drewN ?_ _ | refine blk_drew ?_ | refine blk_alloc ?_ _)); exact BK117.out)) : gb123 ≠ gb117)); clear HO110; clear BK107; clear BK116; clear BK117; clear HB; have HO110 := n0_; have BK107 := n1_; have BK116 := n2_; have BK117 := n3_; have HB := n4_; have BK123 := n5_; have GW123 := n6_; have GE123 := n7_; have NB107_123 := n8_; have NB123_107 := n9_; have NB116_123 := n10_; have NB123_116 := n11_; have NB117_123 := n12_; have NB123_117 := n13_; clear n0_ n1_ n2_ n3_ n4_ n5_ n6_ n7_ n8_ n9_ n10_ n11_ n12_ n13_; clear hb hbox hg) | ((with_reducible refine gate_dst (N := 7) rfl ?_); (try (refine gate_guard (by rfl) ?_; dsimp only)); refine box_event ?hg (N := 7) ?hd (cs := #[.int .i32 0, .int .i32 0]) (t := 29) ?hr ?_; (case hd => rfl); (case hg => rfl); (case hr => first | (go_simp; done) | (go_simp; rfl)); intro gb124 hg w29 hbox hb; have n0_ := Aside0.mk (Kd.R_below (Kd.R_elderB (by (with_reducible repeat (first | apply Kd.R_alloc | apply Kd.R_drewN | apply Kd.R_drew)); exact HO110.out) gb124 (Nat.le_of_eq hg.symm)) hb); have n1_ := Aside0.mk (blk_below (g := gb107) (o := .cells #[.int .i32 (-1), .int .i32 0, .int .i32 0, .int .i32 4194304] 33 (0, 0)) (by (with_reducible repeat (first | refine blk_drewN ?_ _ | refine blk_drew ?_ | refine blk_alloc ?_ _)); exact BK107.out) hb); have n2_ := Aside0.mk (blk_below (g := gb116) (o := .cells #[.int .i32 t111, .int .i32 t112] 29 (0, 0)) (by (with_reducible repeat (first | refine blk_drewN ?_ _ | refine blk_drew ?_ | refine blk_alloc ?_ _)); exact BK116.out) hb); have n3_ := Aside0.mk (blk_below (g := gb117) (o := .cells #[.int .i32 t113, .int .i32 t114] 29 (0, 0)) (by (with_reducible repeat (first | refine blk_drewN ?_ _ | refine blk_drew ?_ | refine blk_alloc ?_ _)); exact BK117.out) hb); have n4_ := Aside0.mk (blk_below (g := gb123) (o := .cells #[.int .i32 0, .int .i32 0] 29 (0, 0)) (by (with_reducible repeat (first | refine blk_drewN ?_ _ | refine blk_drew ?_ | refine blk_alloc ?_ _)); exact BK123.out) hb); have n5_ := Aside0.mk (below_step (by repeat (first | (with_reducible first | exact HB.out | apply below_alloc | apply pw_below_drewN | apply below_drew1 | refine below_set ?_ GE107.out | refine below_set ?_ GE116.out | refine below_set ?_ GE117.out | refine below_set ?_ GE123.out) | exact HB.out)) hb); have n6_ := Aside0.mk (hbox); have n7_ := Aside0.mk ((by rw [hg]; exact (below_size (by repeat (first | (with_reducible first | exact HB.out | apply below_alloc | apply pw_below_drewN | apply below_drew1 | refine below_set ?_ GE107.out | refine below_set ?_ GE116.out | refine below_set ?_ GE117.out | refine below_set ?_ GE123.out) | exact HB.out))) : w.heap.size ≤ gb124)); have n8_ := Aside0.mk ((by rw [hg]; exact (below_size (by repeat (first | (with_reducible first | exact HB.out | apply below_alloc | apply pw_below_drewN | apply below_drew1 | refine below_set ?_ GE107.out | refine below_set ?_ GE116.out | refine below_set ?_ GE117.out | refine below_set ?_ GE123.out) | exact HB.out))) : w.heap.size ≤ gb124)); have n9_ := Aside0.mk ((by rw [hg]; exact Nat.ne_of_lt (blk_lt (g := gb107) (o := .cells #[.int .i32 (-1), .int .i32 0, .int .i32 0, .int .i32 4194304] 33 (0, 0)) (by (with_reducible repeat (first | refine blk_drewN ?_ _ | refine blk_drew ?_ | refine blk_alloc ?_ _)); exact BK107.out)) : gb107 ≠ gb124)); have n10_ := Aside0.mk ((by rw [hg]; exact Nat.ne_of_gt (blk_lt (g := gb107) (o := .cells #[.int .i32 (-1), .int .i32 0, .int .i32 0, .int .i32 4194304] 33 (0, 0)) (by (with_reducible repeat (first | refine blk_drewN ?_ _ | refine blk_drew ?_ | refine blk_alloc ?_ _)); exact BK107.out)) : gb124 ≠ gb107)); have n11_ := Aside0.mk ((by rw [hg]; exact Nat.ne_of_lt (blk_lt (g := gb116) (o := .cells #[.int .i32 t111, .int .i32 t112] 29 (0, 0)) (by (with_reducible repeat (first | refine blk_drewN ?_ _ | refine blk_drew ?_ | refine blk_alloc ?_ _)); exact BK116.out)) : gb116 ≠ gb124)); have n12_ := Aside0.mk ((by rw [hg]; exact Nat.ne_of_gt (blk_lt (g := gb116) (o := .cells #[.int .i32 t111, .int .i32 t112] 29 (0, 0)) (by (with_reducible repeat (first | refine blk_drewN ?_ _ | refine blk_drew ?_ | refine blk_alloc ?_ _)); exact BK116.out)) : gb124 ≠ gb116)); have n13_ := Aside0.mk ((by rw [hg]; exact Nat.ne_of_lt (blk_lt (g := gb117) (o := .cells #[.int .i32 t113, .int .i32 t114] 29 (0, 0)) (by (with_reducible repeat (first | refine blk_drewN ?_ _ | refine blk_drew ?_ | refine blk_alloc ?_ _)); exact BK117.out)) : gb117 ≠ gb124)); have n14_ := Aside0.mk ((by rw [hg]; exact Nat.ne_of_gt (blk_lt (g := gb117) (o := .cells #[.int .i32 t113, .int .i32 t114] 29 (0, 0)) (by (with_reducible repeat (first | refine blk_drewN ?_ _ | refine blk_drew ?_ | refine blk_alloc ?_ _)); exact BK117.out)) : gb124 ≠ gb117)); have n15_ := Aside0.mk ((by rw [hg]; exact Nat.ne_of_lt (blk_lt (g := gb123) (o := .cells #[.int .i32 0, .int .i32 0] 29 (0, 0)) (by (with_reducible repeat (first | refine blk_drewN ?_ _ | refine blk_drew ?_ | refine blk_alloc ?_ _)); exact BK123.out)) : gb123 ≠ gb124)); have n16_ := Aside0.mk ((by rw [hg]; exact Nat.ne_of_gt (blk_lt (g := gb123) (o := .cells #[.int .i32 0, .int .i32 0] 29 (0, 0)) (by (with_reducible repeat (first | refine blk_drewN ?_ _ | refine blk_drew ?_ | refine blk_alloc ?_ _)); exact BK123.out)) : gb124 ≠ gb123)); clear HO110; clear BK107; clear BK116; clear BK117; clear BK123; clear HB; have HO110 := n0_; have BK107 := n1_; have BK116 := n2_; have BK117 := n3_; have BK123 := n4_; have HB := n5_; have BK124 := n6_; have GW124 := n7_; have GE124 := n8_; have NB107_124 := n9_; have NB124_107 := n10_; have NB116_124 := n11_; have NB124_116 := n12_; have NB117_124 := n13_; have NB124_117 := n14_; have NB123_124 := n15_; have NB124_123 := n16_; clear n0_ n1_ n2_ n3_ n4_ n5_ n6_ n7_ n8_ n9_ n10_ n11_ n12_ n13_ n14_ n15_ n16_; clear hb hbox hg; have hnb30 := NB123_107.out; have hnc30 := NB107_123.out; have hnb31 := NB123_116.out; have hnc31 := NB116_123.out; have hnb32 := NB123_117.out; have hnc32 := NB117_123.out; have hnb33 := NB123_124.out; have hnc33 := NB124_123.out; have hcz34_0 : w29.cell? ⟨gb123, 0, none⟩ = some (.int .i32 0) := (blk_cell BK123.out 0).trans rfl; have hcz34_1 : w29.cell? ⟨gb123, 1, none⟩ = some (.int .i32 0) := (blk_cell BK123.out 1).trans rfl; have hfz34_0 := blk_frozen BK123.out 0; have hfz34_1 := blk_frozen BK123.out 1; have hnb35 := NB124_107.out; have hnc35 := NB107_124.out; have hnb36 := NB124_116.out; have hnc36 := NB116_124.out; have hnb37 := NB124_117.out; have hnc37 := NB117_124.out; have hcz38_0 : w29.cell? ⟨gb124, 0, none⟩ = some (.int .i32 0) := (blk_cell BK124.out 0).trans rfl; have hcz38_1 : w29.cell? ⟨gb124, 1, none⟩ = some (.int .i32 0) := (blk_cell BK124.out 1).trans rfl; have hfz38_0 := blk_frozen BK124.out 0; have hfz38_1 := blk_frozen BK124.out 1) | ((with_reducible refine gate_callee (f := 10) rfl ?_); refine goesL_ (some 25) rfl rfl Tryd.func10 (by kernel_rfl) rfl #[.agg #[.int .i32 (-1), .int .i32 4194304]] rfl (by (try simp only [List.map_toArray, List.map_cons, List.map_nil]); first | done | rfl | (simp only [List.length_drop, List.length_take]; rfl)) ?_; (with_reducible refine (cell_Of.calls (-1) 4194304 t125 t126 _ A4.out).mono ?_); rintro e w39 ⟨rfl, hb⟩; refine ⟨_, rfl, ?_⟩; have n0_ := Aside0.mk (Kd.R_below (by (with_reducible repeat (first | apply Kd.R_alloc | apply Kd.R_drewN | apply Kd.R_drew)); exact (Kd.R_mono (Kd.R_mono (Kd.R_far (p := ⟨gb124, 1, none⟩) (Kd.R_far (p := ⟨gb124, 0, none⟩) (Kd.R_far (p := ⟨gb123, 1, none⟩) (Kd.R_far (p := ⟨gb123, 0, none⟩) (Kd.R_mono (Kd.R_mono HO110.out (fun k_ hk => (⟨hk, hk.1.2⟩ : _ ∧ k_ ≠ gb123))) (fun k_ hk => (⟨hk, hk.1.2⟩ : _ ∧ k_ ≠ gb124))) (fun _ hk => hk.1.2) (.int .i32 t118)) (fun _ hk => hk.1.2) (.int .i32 t119)) (fun _ hk => hk.2) (.int .i32 t120)) (fun _ hk => hk.2) (.int .i32 t121)) (fun _ h_ => h_.1)) (fun _ h_ => h_.1))) hb); have n1_ := Aside0.mk (blk_below (g := gb107) (o := .cells #[.int .i32 (-1), .int .i32 0, .int .i32 0, .int .i32 4194304] 33 (0, 0)) (by (with_reducible repeat (first | refine blk_drewN ?_ _ | refine blk_drew ?_ | refine blk_alloc ?_ _)); refine blk_far ?_ NB107_124.out _; (with_reducible repeat (first | refine blk_drewN ?_ _ | refine blk_drew ?_ | refine blk_alloc ?_ _)); refine blk_far ?_ NB107_124.out _; (with_reducible repeat (first | refine blk_drewN ?_ _ | refine blk_drew ?_ | refine blk_alloc ?_ _)); refine blk_far ?_ NB107_123.out _; (with_reducible repeat (first | refine blk_drewN ?_ _ | refine blk_drew ?_ | refine blk_alloc ?_ _)); refine blk_far ?_ NB107_123.out _; (with_reducible repeat (first | refine blk_drewN ?_ _ | refine blk_drew ?_ | refine blk_alloc ?_ _)); exact BK107.out) hb); have n2_ := Aside0.mk (blk_below (g := gb116) (o := .cells #[.int .i32 t111, .int .i32 t112] 29 (0, 0)) (by (with_reducible repeat (first | refine blk_drewN ?_ _ | refine blk_drew ?_ | refine blk_alloc ?_ _)); refine blk_far ?_ NB116_124.out _; (with_reducible repeat (first | refine blk_drewN ?_ _ | refine blk_drew ?_ | refine blk_alloc ?_ _)); refine blk_far ?_ NB116_124.out _; (with_reducible repeat (first | refine blk_drewN ?_ _ | refine blk_drew ?_ | refine blk_alloc ?_ _)); refine blk_far ?_ NB116_123.out _; (with_reducible repeat (first | refine blk_drewN ?_ _ | refine blk_drew ?_ | refine blk_alloc ?_ _)); refine blk_far ?_ NB116_123.out _; (with_reducible repeat (first | refine blk_drewN ?_ _ | refine blk_drew ?_ | refine blk_alloc ?_ _)); exact BK116.out) hb); have n3_ := Aside0.mk (blk_below (g := gb117) (o := .cells #[.int .i32 t113, .int .i32 t114] 29 (0, 0)) (by (with_reducible repeat (first | refine blk_drewN ?_ _ | refine blk_drew ?_ | refine blk_alloc ?_ _)); refine blk_far ?_ NB117_124.out _; (with_reducible repeat (first | refine blk_drewN ?_ _ | refine blk_drew ?_ | refine blk_alloc ?_ _)); refine blk_far ?_ NB117_124.out _; (with_reducible repeat (first | refine blk_drewN ?_ _ | refine blk_drew ?_ | refine blk_alloc ?_ _)); refine blk_far ?_ NB117_123.out _; (with_reducible repeat (first | refine blk_drewN ?_ _ | refine blk_drew ?_ | refine blk_alloc ?_ _)); refine blk_far ?_ NB117_123.out _; (with_reducible repeat (first | refine blk_drewN ?_ _ | refine blk_drew ?_ | refine blk_alloc ?_ _)); exact BK117.out) hb); have n4_ := Aside0.mk (blk_below (g := gb123) (o := .cells #[.int .i32 t118, .int .i32 t119] 29 (0, 0)) (by (with_reducible repeat (first | refine blk_drewN ?_ _ | refine blk_drew ?_ | refine blk_alloc ?_ _)); refine blk_far ?_ NB123_124.out _; (with_reducible repeat (first | refine blk_drewN ?_ _ | refine blk_drew ?_ | refine blk_alloc ?_ _)); refine blk_far ?_ NB123_124.out _; (with_reducible repeat (first | refine blk_drewN ?_ _ | refine blk_drew ?_ | refine blk_alloc ?_ _)); refine blk_put (cs := #[.int .i32 t118, .int .i32 0]) ?_ 1 _ rfl; (with_reducible repeat (first | refine blk_drewN ?_ _ | refine blk_drew ?_ | refine blk_alloc ?_ _)); refine blk_put (cs := #[.int .i32 0, .int .i32 0]) ?_ 0 _ rfl; (with_reducible repeat (first | refine blk_drewN ?_ _ | refine blk_drew ?_ | refine blk_alloc ?_ _)); exact BK123.out) hb); have n5_ := Aside0.mk (blk_below (g := gb124) (o := .cells #[.int .i32 t120, .int .i32 t121] 29 (0, 0)) (by (with_reducible repeat (first | refine blk_drewN ?_ _ | refine blk_drew ?_ | refine blk_alloc ?_ _)); refine blk_put (cs := #[.int .i32 t120, .int .i32 0]) ?_ 1 _ rfl; (with_reducible repeat (first | refine blk_drewN ?_ _ | refine blk_drew ?_ | refine blk_alloc ?_ _)); refine blk_put (cs := #[.int .i32 0, .int .i32 0]) ?_ 0 _ rfl; (with_reducible repeat (first | refine blk_drewN ?_ _ | refine blk_drew ?_ | refine blk_alloc ?_ _)); refine blk_far ?_ NB124_123.out _; (with_reducible repeat (first | refine blk_drewN ?_ _ | refine blk_drew ?_ | refine blk_alloc ?_ _)); refine blk_far ?_ NB124_123.out _; (with_reducible repeat (first | refine blk_drewN ?_ _ | refine blk_drew ?_ | refine blk_alloc ?_ _)); exact BK124.out) hb); have n6_ := Aside0.mk (below_step (by repeat (first | (with_reducible first | exact HB.out | apply below_alloc | apply pw_below_drewN | apply below_drew1 | refine below_set ?_ GE107.out | refine below_set ?_ GE116.out | refine below_set ?_ GE117.out | refine below_set ?_ GE123.out | refine below_set ?_ GE124.out) | exact HB.out)) hb); clear HO110; clear BK107; clear BK116; clear BK117; clear BK123; clear BK124; clear HB; have HO110 := n0_; have BK107 := n1_; have BK116 := n2_; have BK117 := n3_; have BK123 := n4_; have BK124 := n5_; have HB := n6_; clear n0_ n1_ n2_ n3_ n4_ n5_ n6_; (try clear hb); (try clear hb2); (try clear hk); (try clear hi)) | ((with_reducible refine gate_dst (N := 34) rfl ?_); (try (refine gate_guard (by rfl) ?_; dsimp only)); refine Kd.R_lit k26 _ 26 ?hg (N := 34) ?hd (xs := ([(⟨(-1), 0⟩ : S26), (⟨0, 0⟩ : S26), (⟨(-1), 1⟩ : S26), (⟨0, 1⟩ : S26)] : List (S26))) (inner := [.int .i32 (-1), .int .i32 0, .int .i32 0, .int .i32 0, .int .i32 (-1), .int .i32 1, .int .i32 0, .int .i32 1]) (ok := fun _ => True) (okp := fun _ => True) ?hr ?hp (fun _ hk => hk) trivial (Below.refl _ _) (Nat.le_refl _) (by simp) ?_; (case hd => rfl); (case hg => rfl); (case hr => first | (go_simp; done) | (go_simp; rfl)); (case hp => exact (Reps.c2 (show Kd.M k26 _ _ _ (⟨(-1), 0⟩ : S26) [.int .i32 (-1), .int .i32 0] from (k26_mkM _ _ _ (⟨(-1), 0⟩ : S26) )) (Reps.c2 (show Kd.M k26 _ _ _ (⟨0, 0⟩ : S26) [.int .i32 0, .int .i32 0] from (k26_mkM _ _ _ (⟨0, 0⟩ : S26) )) (Reps.c2 (show Kd.M k26 _ _ _ (⟨(-1), 1⟩ : S26) [.int .i32 (-1), .int .i32 1] from (k26_mkM _ _ _ (⟨(-1), 1⟩ : S26) )) (Reps.c2 (show Kd.M k26 _ _ _ (⟨0, 1⟩ : S26) [.int .i32 0, .int .i32 1] from (k26_mkM _ _ _ (⟨0, 1⟩ : S26) )) (Reps.none _ _)))))); intro v128 w40 ho41 hb hg_ hnew_; clear hg_ hnew_; (first | rw [← Ny127.out] at ho41 | (simp only [Int.reduceToNat] at ho41; rw [← Ny127.out] at ho41)); have n0_ := Aside0.mk (Kd.R_below (by (with_reducible repeat (first | apply Kd.R_alloc | apply Kd.R_drewN | apply Kd.R_drew)); exact HO110.out) hb); have n1_ := Aside0.mk (Kd.R_lower ho41 (below_size (by repeat (first | (with_reducible first | exact HB.out | apply below_alloc | apply pw_below_drewN | apply below_drew1 | refine below_set ?_ GE107.out | refine below_set ?_ GE116.out | refine below_set ?_ GE117.out | refine below_set ?_ GE123.out | refine below_set ?_ GE124.out) | exact HB.out)))); have n2_ := Aside0.mk (blk_below (g := gb107) (o := .cells #[.int .i32 (-1), .int .i32 0, .int .i32 0, .int .i32 4194304] 33 (0, 0)) (by (with_reducible repeat (first | refine blk_drewN ?_ _ | refine blk_drew ?_ | refine blk_alloc ?_ _)); exact BK107.out) hb); have n3_ := Aside0.mk (blk_below (g := gb116) (o := .cells #[.int .i32 t111, .int .i32 t112] 29 (0, 0)) (by (with_reducible repeat (first | refine blk_drewN ?_ _ | refine blk_drew ?_ | refine blk_alloc ?_ _)); exact BK116.out) hb); have n4_ := Aside0.mk (blk_below (g := gb117) (o := .cells #[.int .i32 t113, .int .i32 t114] 29 (0, 0)) (by (with_reducible repeat (first | refine blk_drewN ?_ _ | refine blk_drew ?_ | refine blk_alloc ?_ _)); exact BK117.out) hb); have n5_ := Aside0.mk (blk_below (g := gb123) (o := .cells #[.int .i32 t118, .int .i32 t119] 29 (0, 0)) (by (with_reducible repeat (first | refine blk_drewN ?_ _ | refine blk_drew ?_ | refine blk_alloc ?_ _)); exact BK123.out) hb); have n6_ := Aside0.mk (blk_below (g := gb124) (o := .cells #[.int .i32 t120, .int .i32 t121] 29 (0, 0)) (by (with_reducible repeat (first | refine blk_drewN ?_ _ | refine blk_drew ?_ | refine blk_alloc ?_ _)); exact BK124.out) hb); have n7_ := Aside0.mk (below_step (by repeat (first | (with_reducible first | exact HB.out | apply below_alloc | apply pw_below_drewN | apply below_drew1 | refine below_set ?_ GE107.out | refine below_set ?_ GE116.out | refine below_set ?_ GE117.out | refine below_set ?_ GE123.out | refine below_set ?_ GE124.out) | exact HB.out)) hb); clear HO110; clear BK107; clear BK116; clear BK117; clear BK123; clear BK124; clear HB; have HO110 := n0_; have HO129 := n1_; have BK107 := n2_; have BK116 := n3_; have BK117 := n4_; have BK123 := n5_; have BK124 := n6_; have HB := n7_; clear n0_ n1_ n2_ n3_ n4_ n5_ n6_ n7_; clear hb ho41; obtain ⟨Ao42, co42, eo42⟩ := Kd.R_slice HO110.out; subst eo42; obtain ⟨Ao43, co43, eo43⟩ := Kd.R_slice HO129.out; subst eo43) | (go_at_call 17; (with_reducible refine (billiardlaw09_same.calls k _ _ t108 _ _ y127 true _ ?side1 ?side2 ?side3 ?side4 A6.out).mono ?_); (case side1 => repeat (first | exact (Kd.R_reads' HO110.out).2.2 | (with_reducible refine Kd.C_alloc ?_ _) | (with_reducible refine Kd.C_drewN ?_ _) | (with_reducible refine Kd.C_drew ?_))); (case side2 => exact (Kd.R_reads' HO110.out).2.1); (case side3 => repeat (first | exact (Kd.R_reads' HO129.out).2.2 | (with_reducible refine Kd.C_alloc ?_ _) | (with_reducible refine Kd.C_drewN ?_ _) | (with_reducible refine Kd.C_drew ?_))); (case side4 => exact (Kd.R_reads' HO129.out).2.1); rintro e w' ⟨rfl, ⟨nd, rfl⟩⟩; have hcz44_0 : w40.cell? ⟨gb116, 0, none⟩ = some (.int .i32 t111) := (blk_cell BK116.out 0).trans rfl; have hcz44_1 : w40.cell? ⟨gb116, 1, none⟩ = some (.int .i32 t112) := (blk_cell BK116.out 1).trans rfl; have hfz44_0 := blk_frozen BK116.out 0; have hfz44_1 := blk_frozen BK116.out 1; have hcz45_0 : w40.cell? ⟨gb117, 0, none⟩ = some (.int .i32 t113) := (blk_cell BK117.out 0).trans rfl; have hcz45_1 : w40.cell? ⟨gb117, 1, none⟩ = some (.int .i32 t114) := (blk_cell BK117.out 1).trans rfl; have hfz45_0 := blk_frozen BK117.out 0; have hfz45_1 := blk_frozen BK117.out 1) | (go_at_call 11; (with_reducible refine (cell_Bucket.calls 0 0 t131 _ A12.out (HGF.out.below (by repeat (first | (with_reducible first | exact HB.out | apply below_alloc | apply pw_below_drewN | apply below_drew1 | refine below_set ?_ GE107.out | refine below_set ?_ GE116.out | refine below_set ?_ GE117.out | refine below_set ?_ GE123.out | refine below_set ?_ GE124.out) | exact HB.out)))).mono ?_); rintro e w46 ⟨rfl, hb⟩; have n0_ := Aside0.mk (Kd.R_below (by (with_reducible repeat (first | apply Kd.R_alloc | apply Kd.R_drewN | apply Kd.R_drew)); exact HO110.out) hb); have n1_ := Aside0.mk (Kd.R_below (by (with_reducible repeat (first | apply Kd.R_alloc | apply Kd.R_drewN | apply Kd.R_drew)); exact HO129.out) hb); have n2_ := Aside0.mk (blk_below (g := gb107) (o := .cells #[.int .i32 (-1), .int .i32 0, .int .i32 0, .int .i32 4194304] 33 (0, 0)) (by (with_reducible repeat (first | refine blk_drewN ?_ _ | refine blk_drew ?_ | refine blk_alloc ?_ _)); exact BK107.out) hb); have n3_ := Aside0.mk (blk_below (g := gb116) (o := .cells #[.int .i32 t111, .int .i32 t112] 29 (0, 0)) (by (with_reducible repeat (first | refine blk_drewN ?_ _ | refine blk_drew ?_ | refine blk_alloc ?_ _)); exact BK116.out) hb); have n4_ := Aside0.mk (blk_below (g := gb117) (o := .cells #[.int .i32 t113, .int .i32 t114] 29 (0, 0)) (by (with_reducible repeat (first | refine blk_drewN ?_ _ | refine blk_drew ?_ | refine blk_alloc ?_ _)); exact BK117.out) hb); have n5_ := Aside0.mk (blk_below (g := gb123) (o := .cells #[.int .i32 t118, .int .i32 t119] 29 (0, 0)) (by (with_reducible repeat (first | refine blk_drewN ?_ _ | refine blk_drew ?_ | refine blk_alloc ?_ _)); exact BK123.out) hb); have n6_ := Aside0.mk (blk_below (g := gb124) (o := .cells #[.int .i32 t120, .int .i32 t121] 29 (0, 0)) (by (with_reducible repeat (first | refine blk_drewN ?_ _ | refine blk_drew ?_ | refine blk_alloc ?_ _)); exact BK124.out) hb); have n7_ := Aside0.mk (below_step (by repeat (first | (with_reducible first | exact HB.out | apply below_alloc | apply pw_below_drewN | apply below_drew1 | refine below_set ?_ GE107.out | refine below_set ?_ GE116.out | refine below_set ?_ GE117.out | refine below_set ?_ GE123.out | refine below_set ?_ GE124.out) | exact HB.out)) hb); clear HO110; clear HO129; clear BK107; clear BK116; clear BK117; clear BK123; clear BK124; clear HB; have HO110 := n0_; have HO129 := n1_; have BK107 := n2_; have BK116 := n3_; have BK117 := n4_; have BK123 := n5_; have BK124 := n6_; have HB := n7_; clear n0_ n1_ n2_ n3_ n4_ n5_ n6_ n7_; (try clear hb); (try clear hb2); (try clear hk); (try clear hi)) | (go_at_call 11; (with_reducible refine (cell_Bucket.calls 1 0 t132 _ A14.out (HGF.out.below (by repeat (first | (with_reducible first | exact HB.out | apply below_alloc | apply pw_below_drewN | apply below_drew1 | refine below_set ?_ GE107.out | refine below_set ?_ GE116.out | refine below_set ?_ GE117.out | refine below_set ?_ GE123.out | refine below_set ?_ GE124.out) | exact HB.out)))).mono ?_); rintro e w47 ⟨rfl, hb⟩; have n0_ := Aside0.mk (Kd.R_below (by (with_reducible repeat (first | apply Kd.R_alloc | apply Kd.R_drewN | apply Kd.R_drew)); exact HO110.out) hb); have n1_ := Aside0.mk (Kd.R_below (by (with_reducible repeat (first | apply Kd.R_alloc | apply Kd.R_drewN | apply Kd.R_drew)); exact HO129.out) hb); have n2_ := Aside0.mk (blk_below (g := gb107) (o := .cells #[.int .i32 (-1), .int .i32 0, .int .i32 0, .int .i32 4194304] 33 (0, 0)) (by (with_reducible repeat (first | refine blk_drewN ?_ _ | refine blk_drew ?_ | refine blk_alloc ?_ _)); exact BK107.out) hb); have n3_ := Aside0.mk (blk_below (g := gb116) (o := .cells #[.int .i32 t111, .int .i32 t112] 29 (0, 0)) (by (with_reducible repeat (first | refine blk_drewN ?_ _ | refine blk_drew ?_ | refine blk_alloc ?_ _)); exact BK116.out) hb); have n4_ := Aside0.mk (blk_below (g := gb117) (o := .cells #[.int .i32 t113, .int .i32 t114] 29 (0, 0)) (by (with_reducible repeat (first | refine blk_drewN ?_ _ | refine blk_drew ?_ | refine blk_alloc ?_ _)); exact BK117.out) hb); have n5_ := Aside0.mk (blk_below (g := gb123) (o := .cells #[.int .i32 t118, .int .i32 t119] 29 (0, 0)) (by (with_reducible repeat (first | refine blk_drewN ?_ _ | refine blk_drew ?_ | refine blk_alloc ?_ _)); exact BK123.out) hb); have n6_ := Aside0.mk (blk_below (g := gb124) (o := .cells #[.int .i32 t120, .int .i32 t121] 29 (0, 0)) (by (with_reducible repeat (first | refine blk_drewN ?_ _ | refine blk_drew ?_ | refine blk_alloc ?_ _)); exact BK124.out) hb); have n7_ := Aside0.mk (below_step (by repeat (first | (with_reducible first | exact HB.out | apply below_alloc | apply pw_below_drewN | apply below_drew1 | refine below_set ?_ GE107.out | refine below_set ?_ GE116.out | refine below_set ?_ GE117.out | refine below_set ?_ GE123.out | refine below_set ?_ GE124.out) | exact HB.out)) hb); clear HO110; clear HO129; clear BK107; clear BK116; clear BK117; clear BK123; clear BK124; clear HB; have HO110 := n0_; have HO129 := n1_; have BK107 := n2_; have BK116 := n3_; have BK117 := n4_; have BK123 := n5_; have BK124 := n6_; have HB := n7_; clear n0_ n1_ n2_ n3_ n4_ n5_ n6_ n7_; (try clear hb); (try clear hb2); (try clear hk); (try clear hi)))
                go_ret
                exact ⟨by first | rfl | (simp [errW_none, errW_some] <;> rfl) | (simp [*, errW_none, errW_some] <;> rfl), by repeat (first | (with_reducible first | exact HB.out | apply below_alloc | apply pw_below_drewN | apply below_drew1 | refine below_set ?_ GE107.out | refine below_set ?_ GE116.out | refine below_set ?_ GE117.out | refine below_set ?_ GE123.out | refine below_set ?_ GE124.out) | exact HB.out)⟩
              · rw [if_neg c13] at H
                have c13b0 : (t131 == 0) = false := beq_eq_false_iff_ne.mpr c13
                have c13b1 : (t131 != 0) = true := bne_iff_ne.mpr c13
                exact absurd ((Option.some.inj H).trans HR.out) (by decide)
          · replace c10 := Bool.eq_false_iff.mpr c10
            subst c10
            have H1 : (some false) = some r := by rw [if_neg (show ¬ (false = true) by decide)] at H; exact H
            clear H
            have H := H1
            clear H1
            exact absurd ((Option.some.inj H).trans HR.out) (by decide)
        · rw [if_neg c9] at H
          have c9b0 : (t113 == 0 && (t114 == 1)) = false := by simpa using c9
          (try (have c9b1 : decide (t113 = 0 && (t114 == 1)) = false := by simpa using c9))
          (try (have c9b2 : (t113 == 0 && (t114 == 1)) = false := by simpa using c9))
          (try (have c9b3 : ¬ (t113 = 0 && (t114 == 1)) := by simpa using c9))
          clear c9
          exact absurd ((Option.some.inj H).trans HR.out) (by decide)
      · rw [if_neg c8] at H
        have c8b0 : (t111 == (-1) && (t112 == 0)) = false := by simpa using c8
        (try (have c8b1 : decide (t111 = (-1) && (t112 == 0)) = false := by simpa using c8))
        (try (have c8b2 : (t111 == (-1) && (t112 == 0)) = false := by simpa using c8))
        (try (have c8b3 : ¬ (t111 = (-1) && (t112 == 0)) := by simpa using c8))
        clear c8
        exact absurd ((Option.some.inj H).trans HR.out) (by decide)
    · replace c7 := Bool.eq_false_iff.mpr c7
      subst c7
      have H1 : (some false) = some r := by rw [if_neg (show ¬ (false = true) by decide)] at H; exact H
      clear H
      have H := H1
      clear H1
      exact absurd ((Option.some.inj H).trans HR.out) (by decide)
  · rw [if_neg c5] at H
    have c5b0 : (t125 == (-1) && (t126 == 1)) = false := by simpa using c5
    (try (have c5b1 : decide (t125 = (-1) && (t126 == 1)) = false := by simpa using c5))
    (try (have c5b2 : (t125 == (-1) && (t126 == 1)) = false := by simpa using c5))
    (try (have c5b3 : ¬ (t125 = (-1) && (t126 == 1)) := by simpa using c5))
    clear c5
    exact absurd ((Option.some.inj H).trans HR.out) (by decide)

end Go.Proofs.YticjhncpglcgnaaDoor.Q
