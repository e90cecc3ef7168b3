-- PRINTED by print.py (a twelfth state) out of the translation. Not trusted: Lean checks it.
import Derived.Test.YtjgeakahbelgiaaQ0
import Derived.Test.YtjgeakahbelgiaaQE0
import Derived.Test.YtjgeakahbelgiaaQbilliardlaw04
import Derived.Test.YtjgeakahbelgiaaQbilliardref04
import Derived.Test.YtjgeakahbelgiaaQvec
namespace Go.Proofs.Ytjgeakahbelgiaa.Q
open Go.RowKit Go.Proofs.YtjgeakahbelgiaaW.PrintWords Go.Proofs.YtjgeakahbelgiaaW.PrintLast Go.Proofs.YtjgeakahbelgiaaW.PrintMore
attribute [local go_sem] max2_int min2_int max_two min_two max_three min_three max_four min_four   -- for this text's walks alone
set_option linter.unusedVariables false
set_option linter.unusedSimpArgs false

attribute [local go_sem high] eqA25
/-! ### billiardlaw04_VecUnit: function 3 -/
mutual
def billiardlaw04_VecUnit.j0 : Nat → Int → Int → Bool → Option (Bool)
  | 0, _, _, _ => none
  | k + 1, x0, x1, x20 => if x20 = true then ((billiardlaw04_awake.f k).bind fun t134 => (some t134)) else ((vec_Unit.f k x0 x1).bind fun bt135 => (if bt135.1 < (-65536) then (billiardlaw04_VecUnit.j1 k x0 x1 true bt135.1 bt135.2) else (if bt135.1 > 65536 then (billiardlaw04_VecUnit.j1 k x0 x1 true bt135.1 bt135.2) else (if bt135.2 < (-65536) then (billiardlaw04_VecUnit.j1 k x0 x1 true bt135.1 bt135.2) else (billiardlaw04_VecUnit.j1 k x0 x1 (decide (bt135.2 > 65536)) bt135.1 bt135.2)))))
def billiardlaw04_VecUnit.j1 : Nat → Int → Int → Bool → Int → Int → Option (Bool)
  | 0, _, _, _, _, _ => none
  | k + 1, x0, x1, x42, x138000, x138001 => if x42 = true then (some false) else ((vec_Length.f k x0 x1).bind fun t138 => (if t138 = 0 then (some (x138000 == 65536 && (x138001 == 0))) else (if x0 ≥ 0 then (if x138000 < 0 then (billiardlaw04_VecUnit.j2 k t138 true x138000 x138001) else (if x0 < 0 then (if x138000 ≥ 0 then (billiardlaw04_VecUnit.j2 k t138 true x138000 x138001) else (if x1 ≥ 0 then (if x138001 < 0 then (billiardlaw04_VecUnit.j2 k t138 true x138000 x138001) else (if x1 < 0 then (billiardlaw04_VecUnit.j2 k t138 (decide (x138001 ≥ 0)) x138000 x138001) else (billiardlaw04_VecUnit.j2 k t138 false x138000 x138001))) else (if x1 < 0 then (billiardlaw04_VecUnit.j2 k t138 (decide (x138001 ≥ 0)) x138000 x138001) else (billiardlaw04_VecUnit.j2 k t138 false x138000 x138001)))) else (if x1 ≥ 0 then (if x138001 < 0 then (billiardlaw04_VecUnit.j2 k t138 true x138000 x138001) else (if x1 < 0 then (billiardlaw04_VecUnit.j2 k t138 (decide (x138001 ≥ 0)) x138000 x138001) else (billiardlaw04_VecUnit.j2 k t138 false x138000 x138001))) else (if x1 < 0 then (billiardlaw04_VecUnit.j2 k t138 (decide (x138001 ≥ 0)) x138000 x138001) else (billiardlaw04_VecUnit.j2 k t138 false x138000 x138001))))) else (if x0 < 0 then (if x138000 ≥ 0 then (billiardlaw04_VecUnit.j2 k t138 true x138000 x138001) else (if x1 ≥ 0 then (if x138001 < 0 then (billiardlaw04_VecUnit.j2 k t138 true x138000 x138001) else (if x1 < 0 then (billiardlaw04_VecUnit.j2 k t138 (decide (x138001 ≥ 0)) x138000 x138001) else (billiardlaw04_VecUnit.j2 k t138 false x138000 x138001))) else (if x1 < 0 then (billiardlaw04_VecUnit.j2 k t138 (decide (x138001 ≥ 0)) x138000 x138001) else (billiardlaw04_VecUnit.j2 k t138 false x138000 x138001)))) else (if x1 ≥ 0 then (if x138001 < 0 then (billiardlaw04_VecUnit.j2 k t138 true x138000 x138001) else (if x1 < 0 then (billiardlaw04_VecUnit.j2 k t138 (decide (x138001 ≥ 0)) x138000 x138001) else (billiardlaw04_VecUnit.j2 k t138 false x138000 x138001))) else (if x1 < 0 then (billiardlaw04_VecUnit.j2 k t138 (decide (x138001 ≥ 0)) x138000 x138001) else (billiardlaw04_VecUnit.j2 k t138 false x138000 x138001)))))))
def billiardlaw04_VecUnit.j2 : Nat → Int → Bool → Int → Int → Option (Bool)
  | 0, _, _, _, _ => none
  | k + 1, x6, x84, x138000, x138001 => if x84 = true then (some false) else ((vec_LengthSq.f (wrap64 (x138000)) (wrap64 (x138001))).bind fun t139 => (if x6 < 4096 then (some true) else (if (wrap64 (t139)) ≥ 4290672329 then (some (decide ((wrap64 (t139)) ≤ 4299262263))) else (some false))))
end
def billiardlaw04_VecUnit.f (k : Nat) (a0 : Int) (a1 : Int) : Option (Bool) := (billiardlaw04_awake.f k).bind fun t131 => (if t131 = true then ((billiardref04_In.f a0).bind fun t132 => (if t132 = true then ((billiardref04_In.f a1).bind fun t133 => (billiardlaw04_VecUnit.j0 k a0 a1 (!t133))) else (billiardlaw04_VecUnit.j0 k a0 a1 true))) else (billiardlaw04_VecUnit.j0 k a0 a1 true))
theorem billiardlaw04_VecUnit.mono_l : ∀ k, (∀ y0 y1 y2, LeO (billiardlaw04_VecUnit.j0 k y0 y1 y2) (billiardlaw04_VecUnit.j0 (k + 1) y0 y1 y2)) ∧ (∀ y0 y1 y2 y3 y4, LeO (billiardlaw04_VecUnit.j1 k y0 y1 y2 y3 y4) (billiardlaw04_VecUnit.j1 (k + 1) y0 y1 y2 y3 y4)) ∧ (∀ y0 y1 y2 y3, LeO (billiardlaw04_VecUnit.j2 k y0 y1 y2 y3) (billiardlaw04_VecUnit.j2 (k + 1) y0 y1 y2 y3))
  | 0 => ⟨fun _ _ _ r h => by simp [billiardlaw04_VecUnit.j0] at h, fun _ _ _ _ _ r h => by simp [billiardlaw04_VecUnit.j1] at h, fun _ _ _ _ r h => by simp [billiardlaw04_VecUnit.j2] at h⟩
  | k + 1 => by
    obtain ⟨ih0, ih1, ih2⟩ := billiardlaw04_VecUnit.mono_l k
    refine ⟨?_, ?_, ?_⟩
    · intro y0 y1 y2
      unfold billiardlaw04_VecUnit.j0
      repeat' first
      | (with_reducible exact ih0 _ _ _)
      | (with_reducible exact ih1 _ _ _ _ _)
      | (with_reducible exact ih2 _ _ _ _)
      | (with_reducible exact billiardlaw04_awake.mono _)
      | (with_reducible exact vec_Length.mono _ _ _)
      | (with_reducible exact vec_Unit.mono _ _ _)
      | (with_reducible exact LeO.refl _)
      | (with_reducible exact LeO.none _)
      | (with_reducible refine LeO.ite ?_ ?_)
      | (with_reducible refine LeO.bind ?_ (fun _ => ?_))
      | exact ih0 _ _ _
      | exact ih1 _ _ _ _ _
      | exact ih2 _ _ _ _
      | exact billiardlaw04_awake.mono _
      | exact vec_Length.mono _ _ _
      | exact vec_Unit.mono _ _ _
      | exact LeO.none _
      | refine LeO.ite ?_ ?_
      | refine LeO.bind ?_ (fun _ => ?_)
    · intro y0 y1 y2 y3 y4
      unfold billiardlaw04_VecUnit.j1
      repeat' first
      | (with_reducible exact ih0 _ _ _)
      | (with_reducible exact ih1 _ _ _ _ _)
      | (with_reducible exact ih2 _ _ _ _)
      | (with_reducible exact billiardlaw04_awake.mono _)
      | (with_reducible exact vec_Length.mono _ _ _)
      | (with_reducible exact vec_Unit.mono _ _ _)
      | (with_reducible exact LeO.refl _)
      | (with_reducible exact LeO.none _)
      | (with_reducible refine LeO.ite ?_ ?_)
      | (with_reducible refine LeO.bind ?_ (fun _ => ?_))
      | exact ih0 _ _ _
      | exact ih1 _ _ _ _ _
      | exact ih2 _ _ _ _
      | exact billiardlaw04_awake.mono _
      | exact vec_Length.mono _ _ _
      | exact vec_Unit.mono _ _ _
      | exact LeO.none _
      | refine LeO.ite ?_ ?_
      | refine LeO.bind ?_ (fun _ => ?_)
    · intro y0 y1 y2 y3
      unfold billiardlaw04_VecUnit.j2
      repeat' first
      | (with_reducible exact ih0 _ _ _)
      | (with_reducible exact ih1 _ _ _ _ _)
      | (with_reducible exact ih2 _ _ _ _)
      | (with_reducible exact billiardlaw04_awake.mono _)
      | (with_reducible exact vec_Length.mono _ _ _)
      | (with_reducible exact vec_Unit.mono _ _ _)
      | (with_reducible exact LeO.refl _)
      | (with_reducible exact LeO.none _)
      | (with_reducible refine LeO.ite ?_ ?_)
      | (with_reducible refine LeO.bind ?_ (fun _ => ?_))
      | exact ih0 _ _ _
      | exact ih1 _ _ _ _ _
      | exact ih2 _ _ _ _
      | exact billiardlaw04_awake.mono _
      | exact vec_Length.mono _ _ _
      | exact vec_Unit.mono _ _ _
      | exact LeO.none _
      | refine LeO.ite ?_ ?_
      | refine LeO.bind ?_ (fun _ => ?_)
theorem billiardlaw04_VecUnit.mono : ∀ a0 a1 k, LeO (billiardlaw04_VecUnit.f k a0 a1) (billiardlaw04_VecUnit.f (k + 1) a0 a1) := by
  intro a0 a1 k
  obtain ⟨ih0, ih1, ih2⟩ := billiardlaw04_VecUnit.mono_l k
  unfold billiardlaw04_VecUnit.f
  repeat' first
      | (with_reducible exact ih0 _ _ _)
      | (with_reducible exact ih1 _ _ _ _ _)
      | (with_reducible exact ih2 _ _ _ _)
      | (with_reducible exact billiardlaw04_awake.mono _)
      | (with_reducible exact vec_Length.mono _ _ _)
      | (with_reducible exact vec_Unit.mono _ _ _)
      | (with_reducible exact LeO.refl _)
      | (with_reducible exact LeO.none _)
      | (with_reducible refine LeO.ite ?_ ?_)
      | (with_reducible refine LeO.bind ?_ (fun _ => ?_))
      | exact ih0 _ _ _
      | exact ih1 _ _ _ _ _
      | exact ih2 _ _ _ _
      | exact billiardlaw04_awake.mono _
      | exact vec_Length.mono _ _ _
      | exact vec_Unit.mono _ _ _
      | exact LeO.none _
      | refine LeO.ite ?_ ?_
      | refine LeO.bind ?_ (fun _ => ?_)
set_option maxHeartbeats 8000000 in
set_option maxRecDepth 100000 in
theorem billiardlaw04_VecUnit.calls (k : Nat) (a0 : Int) (a1 : Int) (r : Bool) (w : World) (h : billiardlaw04_VecUnit.f k a0 a1 = some r) :
    Calls Try.prog 3 #[.int .i64 a0, .int .i64 a1] w fun e w' => e = .returned (.bool r) ∧ Below w.heap.size w w' := by
  have hu25 := Try.underlying25
  have HB := Aside0.mk (Below.refl w.heap.size w)
  have H : ((billiardlaw04_awake.f k).bind fun t131 => (if t131 = true then ((billiardref04_In.f a0).bind fun t132 => (if t132 = true then ((billiardref04_In.f a1).bind fun t133 => (billiardlaw04_VecUnit.j0 k a0 a1 (!t133))) else (billiardlaw04_VecUnit.j0 k a0 a1 true))) else (billiardlaw04_VecUnit.j0 k a0 a1 true))) = some r := h
  clear h
  have HC3 := Aside0.mk H
  clear H
  go_enter Try.func3, Try.ntmps3
  go_upto_region 1 with (fail)
  go_cut [20] (fun v20 wc => ∃ (kq : Nat) (x20_2 : Bool), v20 = .bool x20_2 ∧ Aside0 (billiardlaw04_VecUnit.j0 kq a0 a1 x20_2 = some r) ∧ Aside0 (kq ≤ k) ∧ Aside0 (Below w.heap.size w wc))
  case first =>
    have H := HC3.out
    clear HC3
    replace H := Option.bind_eq_some_iff.mp H
    obtain ⟨t131, A40, H⟩ := H
    replace H : (if t131 = true then ((billiardref04_In.f a0).bind fun t132 => (if t132 = true then ((billiardref04_In.f a1).bind fun t133 => (billiardlaw04_VecUnit.j0 k a0 a1 (!t133))) else (billiardlaw04_VecUnit.j0 k a0 a1 true))) else (billiardlaw04_VecUnit.j0 k a0 a1 true)) = some r := H
    have A4 := Aside0.mk A40
    clear A40
    by_cases c5 : t131 = true
    · subst c5
      have H1 : ((billiardref04_In.f a0).bind fun t132 => (if t132 = true then ((billiardref04_In.f a1).bind fun t133 => (billiardlaw04_VecUnit.j0 k a0 a1 (!t133))) else (billiardlaw04_VecUnit.j0 k a0 a1 true))) = some r := by rw [if_pos rfl] at H; exact H
      clear H
      have H := H1
      clear H1
      replace H := Option.bind_eq_some_iff.mp H
      obtain ⟨t132, A60, H⟩ := H
      replace H : (if t132 = true then ((billiardref04_In.f a1).bind fun t133 => (billiardlaw04_VecUnit.j0 k a0 a1 (!t133))) else (billiardlaw04_VecUnit.j0 k a0 a1 true)) = some r := H
      have A6 := Aside0.mk A60
      clear A60
      by_cases c7 : t132 = true
      · subst c7
        have H1 : ((billiardref04_In.f a1).bind fun t133 => (billiardlaw04_VecUnit.j0 k a0 a1 (!t133))) = some r := by rw [if_pos rfl] at H; exact H
        clear H
        have H := H1
        clear H1
        replace H := Option.bind_eq_some_iff.mp H
        obtain ⟨t133, A80, H⟩ := H
        replace H : (billiardlaw04_VecUnit.j0 k a0 a1 (!t133)) = some r := H
        have A8 := Aside0.mk A80
        clear A80
        have H' := Aside0.mk H
        clear H
        go_wp2_with (first | ((with_reducible refine gate_callee (f := 8) rfl ?_); refine goesL_ (some 9) rfl rfl Try.func8 (by kernel_rfl) rfl #[] rfl (by (try simp only [List.map_toArray, List.map_cons, List.map_nil]); first | done | rfl | (simp only [List.length_drop, List.length_take]; rfl)) ?_; (with_reducible refine (billiardlaw04_awake.calls k  true _ A4.out).mono ?_); rintro e w9 ⟨rfl, hb⟩; refine ⟨_, rfl, ?_⟩; have n0_ := Aside0.mk (below_step (by repeat (first | (with_reducible first | exact HB.out | apply below_alloc | apply pw_below_drewN | apply below_drew1) | exact HB.out)) hb); clear HB; have HB := n0_; clear n0_; (try clear hb); (try clear hb2); (try clear hk); (try clear hi)) | (go_at_call 9; (with_reducible refine (billiardref04_In.calls a0 true _ A6.out).mono ?_); rintro e w' ⟨rfl, ⟨nd, rfl⟩⟩) | (go_at_call 9; (with_reducible refine (billiardref04_In.calls a1 t133 _ A8.out).mono ?_); rintro e w' ⟨rfl, ⟨nd, rfl⟩⟩))
        go_meet
        case rel => exact ⟨_, (!t133), (by first | rfl | (simp; done) | (simp [*]; done)), H', ⟨by first | omega | exact Nat.le_refl _⟩, ⟨by repeat (first | (with_reducible first | exact HB.out | apply below_alloc | apply pw_below_drewN | apply below_drew1) | exact HB.out)⟩⟩
      · replace c7 := Bool.eq_false_iff.mpr c7
        subst c7
        have H1 : (billiardlaw04_VecUnit.j0 k a0 a1 true) = some r := by rw [if_neg (show ¬ (false = true) by decide)] at H; exact H
        clear H
        have H := H1
        clear H1
        have H' := Aside0.mk H
        clear H
        go_wp2_with (first | ((with_reducible refine gate_callee (f := 8) rfl ?_); refine goesL_ (some 9) rfl rfl Try.func8 (by kernel_rfl) rfl #[] rfl (by (try simp only [List.map_toArray, List.map_cons, List.map_nil]); first | done | rfl | (simp only [List.length_drop, List.length_take]; rfl)) ?_; (with_reducible refine (billiardlaw04_awake.calls k  true _ A4.out).mono ?_); rintro e w10 ⟨rfl, hb⟩; refine ⟨_, rfl, ?_⟩; have n0_ := Aside0.mk (below_step (by repeat (first | (with_reducible first | exact HB.out | apply below_alloc | apply pw_below_drewN | apply below_drew1) | exact HB.out)) hb); clear HB; have HB := n0_; clear n0_; (try clear hb); (try clear hb2); (try clear hk); (try clear hi)) | (go_at_call 9; (with_reducible refine (billiardref04_In.calls a0 false _ A6.out).mono ?_); rintro e w' ⟨rfl, ⟨nd, rfl⟩⟩))
        go_meet
        case rel => exact ⟨_, (true), (by first | rfl | (simp; done) | (simp [*]; done)), H', ⟨by first | omega | exact Nat.le_refl _⟩, ⟨by repeat (first | (with_reducible first | exact HB.out | apply below_alloc | apply pw_below_drewN | apply below_drew1) | exact HB.out)⟩⟩
    · replace c5 := Bool.eq_false_iff.mpr c5
      subst c5
      have H1 : (billiardlaw04_VecUnit.j0 k a0 a1 true) = some r := by rw [if_neg (show ¬ (false = true) by decide)] at H; exact H
      clear H
      have H := H1
      clear H1
      have H' := Aside0.mk H
      clear H
      go_wp2_with (first | ((with_reducible refine gate_callee (f := 8) rfl ?_); refine goesL_ (some 9) rfl rfl Try.func8 (by kernel_rfl) rfl #[] rfl (by (try simp only [List.map_toArray, List.map_cons, List.map_nil]); first | done | rfl | (simp only [List.length_drop, List.length_take]; rfl)) ?_; (with_reducible refine (billiardlaw04_awake.calls k  false _ A4.out).mono ?_); rintro e w11 ⟨rfl, hb⟩; refine ⟨_, rfl, ?_⟩; have n0_ := Aside0.mk (below_step (by repeat (first | (with_reducible first | exact HB.out | apply below_alloc | apply pw_below_drewN | apply below_drew1) | exact HB.out)) hb); clear HB; have HB := n0_; clear n0_; (try clear hb); (try clear hb2); (try clear hk); (try clear hi)))
      go_meet
      case rel => exact ⟨_, (true), (by first | rfl | (simp; done) | (simp [*]; done)), H', ⟨by first | omega | exact Nat.le_refl _⟩, ⟨by repeat (first | (with_reducible first | exact HB.out | apply below_alloc | apply pw_below_drewN | apply below_drew1) | exact HB.out)⟩⟩
  case rest =>
    clear HC3
    try clear p2
    try clear c3
    try clear c5
    try clear c7
    try clear c8
    obtain ⟨kq, x20_2, rfl, HA, HJ2, HB⟩ := hcut
    cases kq with
    | zero => exact absurd HA.out (by simp [billiardlaw04_VecUnit.j0])
    | succ kj2 =>
      have H := HA.out
      clear HA
      simp only [billiardlaw04_VecUnit.j0] at H
      by_cases c12 : x20_2 = true
      · subst c12
        have H1 : ((billiardlaw04_awake.f kj2).bind fun t134 => (some t134)) = some r := by rw [if_pos rfl] at H; exact H
        clear H
        have H := H1
        clear H1
        replace H := Option.bind_eq_some_iff.mp H
        obtain ⟨t134, A130, H⟩ := H
        replace H : (some t134) = some r := H
        have A13 := Aside0.mk A130
        clear A130
        obtain rfl := Option.some.inj H
        go_wp2_with (first | ((with_reducible refine gate_callee (f := 8) rfl ?_); refine goesL_ (some 21) rfl rfl Try.func8 (by kernel_rfl) rfl #[] rfl (by (try simp only [List.map_toArray, List.map_cons, List.map_nil]); first | done | rfl | (simp only [List.length_drop, List.length_take]; rfl)) ?_; (with_reducible refine (billiardlaw04_awake.calls kj2  t134 _ A13.out).mono ?_); rintro e w14 ⟨rfl, hb⟩; refine ⟨_, rfl, ?_⟩; have n0_ := Aside0.mk (below_step (by repeat (first | (with_reducible first | exact HB.out | apply below_alloc | apply pw_below_drewN | apply below_drew1) | exact HB.out)) hb); clear HB; have HB := n0_; clear n0_; (try clear hb); (try clear hb2); (try clear hk); (try clear hi)))
        go_ret
        exact ⟨by first | rfl | (simp [errW_none, errW_some] <;> rfl) | (simp [*, errW_none, errW_some] <;> rfl), by repeat (first | (with_reducible first | exact HB.out | apply below_alloc | apply pw_below_drewN | apply below_drew1) | exact HB.out)⟩
      · replace c12 := Bool.eq_false_iff.mpr c12
        subst c12
        have H1 : ((vec_Unit.f kj2 a0 a1).bind fun bt135 => (if bt135.1 < (-65536) then (billiardlaw04_VecUnit.j1 kj2 a0 a1 true bt135.1 bt135.2) else (if bt135.1 > 65536 then (billiardlaw04_VecUnit.j1 kj2 a0 a1 true bt135.1 bt135.2) else (if bt135.2 < (-65536) then (billiardlaw04_VecUnit.j1 kj2 a0 a1 true bt135.1 bt135.2) else (billiardlaw04_VecUnit.j1 kj2 a0 a1 (decide (bt135.2 > 65536)) bt135.1 bt135.2))))) = some r := by rw [if_neg (show ¬ (false = true) by decide)] at H; exact H
        clear H
        have H := H1
        clear H1
        replace H := Option.bind_eq_some_iff.mp H
        obtain ⟨⟨t135, t136⟩, A150, H⟩ := H
        replace H : (if t135 < (-65536) then (billiardlaw04_VecUnit.j1 kj2 a0 a1 true t135 t136) else (if t135 > 65536 then (billiardlaw04_VecUnit.j1 kj2 a0 a1 true t135 t136) else (if t136 < (-65536) then (billiardlaw04_VecUnit.j1 kj2 a0 a1 true t135 t136) else (billiardlaw04_VecUnit.j1 kj2 a0 a1 (decide (t136 > 65536)) t135 t136)))) = some r := H
        have A15 := Aside0.mk A150
        clear A150
        have HC16 := Aside0.mk H
        clear H
        go_upto_region 4 with (first | ((with_reducible refine gate_callee (f := 10) rfl ?_); refine goesL_ (some 24) rfl rfl Try.func10 (by kernel_rfl) rfl #[.int .i64 a0, .int .i64 a1] rfl (by (try simp only [List.map_toArray, List.map_cons, List.map_nil]); first | done | rfl | (simp only [List.length_drop, List.length_take]; rfl)) ?_; (with_reducible refine (vec_Unit.calls kj2 a0 a1 t135 t136 _ A15.out).mono ?_); rintro e w17 ⟨rfl, hb⟩; refine ⟨_, rfl, ?_⟩; have n0_ := Aside0.mk (below_step (by repeat (first | (with_reducible first | exact HB.out | apply below_alloc | apply pw_below_drewN | apply below_drew1) | exact HB.out)) hb); clear HB; have HB := n0_; clear n0_; (try clear hb); (try clear hb2); (try clear hk); (try clear hi)) | ((with_reducible refine gate_dst (N := 5) rfl ?_); refine box_event ?hg (N := 5) ?hd (cs := #[.int .i32 0, .int .i32 0]) (t := 25) ?hr ?_; (case hd => rfl); (case hg => rfl); (case hr => first | (go_simp; done) | (go_simp; rfl)); intro gb137 hg w18 hbox hb; have n0_ := Aside0.mk (below_step (by repeat (first | (with_reducible first | exact HB.out | apply below_alloc | apply pw_below_drewN | apply below_drew1) | exact HB.out)) hb); have n1_ := Aside0.mk (hbox); have n2_ := Aside0.mk ((by rw [hg]; exact (below_size (by repeat (first | (with_reducible first | exact HB.out | apply below_alloc | apply pw_below_drewN | apply below_drew1) | exact HB.out))) : w.heap.size ≤ gb137)); have n3_ := Aside0.mk ((by rw [hg]; exact (below_size (by repeat (first | (with_reducible first | exact HB.out | apply below_alloc | apply pw_below_drewN | apply below_drew1) | exact HB.out))) : w.heap.size ≤ gb137)); clear HB; have HB := n0_; have BK137 := n1_; have GW137 := n2_; have GE137 := n3_; clear n0_ n1_ n2_ n3_; clear hb hbox hg; have hcz19_0 : w18.cell? ⟨gb137, 0, none⟩ = some (.int .i32 0) := (blk_cell BK137.out 0).trans rfl; have hcz19_1 : w18.cell? ⟨gb137, 1, none⟩ = some (.int .i32 0) := (blk_cell BK137.out 1).trans rfl; have hfz19_0 := blk_frozen BK137.out 0; have hfz19_1 := blk_frozen BK137.out 1))
        (try simp only [Act.put, List.setIfInBounds_toArray, List.set_cons_zero, List.set_cons_succ])
        go_cut [42] (fun v42 wc => ∃ (kq : Nat) (x42_15 : Bool), v42 = .bool x42_15 ∧ Aside0 (billiardlaw04_VecUnit.j1 kq a0 a1 x42_15 t135 t136 = some r) ∧ Aside0 (kq ≤ kj2) ∧ Aside0 (wc.heap[gb137]? = some (.cells #[.int .i32 t135, .int .i32 t136] 25 (0, 0))) ∧ Aside0 (Below w.heap.size w wc))
        case first =>
          have H := HC16.out
          clear HC16
          by_cases c20 : t135 < (-65536)
          · rw [if_pos c20] at H
            have c20b0 : decide (t135 < (-65536)) = true := decide_eq_true c20
            clear c20
            (first | rw [c20b0] | (simp only [i64_w, i32_w]; rw [c20b0]) | skip)
            have H' := Aside0.mk H
            clear H
            have hcz21_0 : w18.cell? ⟨gb137, 0, none⟩ = some (.int .i32 0) := (blk_cell BK137.out 0).trans rfl
            have hcz21_1 : w18.cell? ⟨gb137, 1, none⟩ = some (.int .i32 0) := (blk_cell BK137.out 1).trans rfl
            have hfz21_0 := blk_frozen BK137.out 0
            have hfz21_1 := blk_frozen BK137.out 1
            go_wp2
            go_meet
            case rel => exact ⟨_, (true), (by first | rfl | (simp; done) | (simp [*]; done)), H', ⟨by have := HJ2.out; first | omega | exact Nat.le_refl _⟩, ⟨by (with_reducible repeat (first | refine blk_drewN ?_ _ | refine blk_drew ?_ | refine blk_alloc ?_ _)); refine blk_put (cs := #[.int .i32 t135, .int .i32 0]) ?_ 1 _ rfl; (with_reducible repeat (first | refine blk_drewN ?_ _ | refine blk_drew ?_ | refine blk_alloc ?_ _)); refine blk_put (cs := #[.int .i32 0, .int .i32 0]) ?_ 0 _ rfl; (with_reducible repeat (first | refine blk_drewN ?_ _ | refine blk_drew ?_ | refine blk_alloc ?_ _)); exact BK137.out⟩, ⟨by repeat (first | (with_reducible first | exact HB.out | apply below_alloc | apply pw_below_drewN | apply below_drew1 | refine below_set ?_ GE137.out) | exact HB.out)⟩⟩
          · rw [if_neg c20] at H
            have c20b0 : decide (t135 < (-65536)) = false := decide_eq_false c20
            clear c20
            (first | rw [c20b0] | (simp only [i64_w, i32_w]; rw [c20b0]) | skip)
            by_cases c22 : t135 > 65536
            · rw [if_pos c22] at H
              have c22b0 : decide (65536 < t135) = true := decide_eq_true c22
              clear c22
              have H' := Aside0.mk H
              clear H
              have hcz23_0 : w18.cell? ⟨gb137, 0, none⟩ = some (.int .i32 0) := (blk_cell BK137.out 0).trans rfl
              have hcz23_1 : w18.cell? ⟨gb137, 1, none⟩ = some (.int .i32 0) := (blk_cell BK137.out 1).trans rfl
              have hfz23_0 := blk_frozen BK137.out 0
              have hfz23_1 := blk_frozen BK137.out 1
              go_wp2
              go_meet
              case rel => exact ⟨_, (true), (by first | rfl | (simp; done) | (simp [*]; done)), H', ⟨by have := HJ2.out; first | omega | exact Nat.le_refl _⟩, ⟨by (with_reducible repeat (first | refine blk_drewN ?_ _ | refine blk_drew ?_ | refine blk_alloc ?_ _)); refine blk_put (cs := #[.int .i32 t135, .int .i32 0]) ?_ 1 _ rfl; (with_reducible repeat (first | refine blk_drewN ?_ _ | refine blk_drew ?_ | refine blk_alloc ?_ _)); refine blk_put (cs := #[.int .i32 0, .int .i32 0]) ?_ 0 _ rfl; (with_reducible repeat (first | refine blk_drewN ?_ _ | refine blk_drew ?_ | refine blk_alloc ?_ _)); exact BK137.out⟩, ⟨by repeat (first | (with_reducible first | exact HB.out | apply below_alloc | apply pw_below_drewN | apply below_drew1 | refine below_set ?_ GE137.out) | exact HB.out)⟩⟩
            · rw [if_neg c22] at H
              have c22b0 : decide (65536 < t135) = false := decide_eq_false c22
              clear c22
              by_cases c24 : t136 < (-65536)
              · rw [if_pos c24] at H
                have c24b0 : decide (t136 < (-65536)) = true := decide_eq_true c24
                clear c24
                have H' := Aside0.mk H
                clear H
                have hcz25_0 : w18.cell? ⟨gb137, 0, none⟩ = some (.int .i32 0) := (blk_cell BK137.out 0).trans rfl
                have hcz25_1 : w18.cell? ⟨gb137, 1, none⟩ = some (.int .i32 0) := (blk_cell BK137.out 1).trans rfl
                have hfz25_0 := blk_frozen BK137.out 0
                have hfz25_1 := blk_frozen BK137.out 1
                go_wp2
                go_meet
                case rel => exact ⟨_, (true), (by first | rfl | (simp; done) | (simp [*]; done)), H', ⟨by have := HJ2.out; first | omega | exact Nat.le_refl _⟩, ⟨by (with_reducible repeat (first | refine blk_drewN ?_ _ | refine blk_drew ?_ | refine blk_alloc ?_ _)); refine blk_put (cs := #[.int .i32 t135, .int .i32 0]) ?_ 1 _ rfl; (with_reducible repeat (first | refine blk_drewN ?_ _ | refine blk_drew ?_ | refine blk_alloc ?_ _)); refine blk_put (cs := #[.int .i32 0, .int .i32 0]) ?_ 0 _ rfl; (with_reducible repeat (first | refine blk_drewN ?_ _ | refine blk_drew ?_ | refine blk_alloc ?_ _)); exact BK137.out⟩, ⟨by repeat (first | (with_reducible first | exact HB.out | apply below_alloc | apply pw_below_drewN | apply below_drew1 | refine below_set ?_ GE137.out) | exact HB.out)⟩⟩
              · rw [if_neg c24] at H
                have c24b0 : decide (t136 < (-65536)) = false := decide_eq_false c24
                clear c24
                have H' := Aside0.mk H
                clear H
                have hcz26_0 : w18.cell? ⟨gb137, 0, none⟩ = some (.int .i32 0) := (blk_cell BK137.out 0).trans rfl
                have hcz26_1 : w18.cell? ⟨gb137, 1, none⟩ = some (.int .i32 0) := (blk_cell BK137.out 1).trans rfl
                have hfz26_0 := blk_frozen BK137.out 0
                have hfz26_1 := blk_frozen BK137.out 1
                go_wp2
                go_meet
                case rel => exact ⟨_, (decide (t136 > 65536)), (by first | rfl | (simp; done) | (simp [*]; done)), H', ⟨by have := HJ2.out; first | omega | exact Nat.le_refl _⟩, ⟨by (with_reducible repeat (first | refine blk_drewN ?_ _ | refine blk_drew ?_ | refine blk_alloc ?_ _)); refine blk_put (cs := #[.int .i32 t135, .int .i32 0]) ?_ 1 _ rfl; (with_reducible repeat (first | refine blk_drewN ?_ _ | refine blk_drew ?_ | refine blk_alloc ?_ _)); refine blk_put (cs := #[.int .i32 0, .int .i32 0]) ?_ 0 _ rfl; (with_reducible repeat (first | refine blk_drewN ?_ _ | refine blk_drew ?_ | refine blk_alloc ?_ _)); exact BK137.out⟩, ⟨by repeat (first | (with_reducible first | exact HB.out | apply below_alloc | apply pw_below_drewN | apply below_drew1 | refine below_set ?_ GE137.out) | exact HB.out)⟩⟩
        case rest =>
          clear HC16
          try clear c1
          try clear c2
          try clear p2
          try clear c3
          try clear c5
          try clear c7
          try clear c8
          try clear c10
          try clear c12
          try clear c20
          try clear c20b0
          try clear c22
          try clear c22b0
          try clear c24
          try clear c24b0
          try clear hcz19_0
          try clear hcz19_1
          try clear hcz21_0
          try clear hcz21_1
          try clear hcz23_0
          try clear hcz23_1
          try clear hcz25_0
          try clear hcz25_1
          try clear hcz26_0
          try clear hcz26_1
          try clear hfz19_0
          try clear hfz19_1
          try clear hfz21_0
          try clear hfz21_1
          try clear hfz23_0
          try clear hfz23_1
          try clear hfz25_0
          try clear hfz25_1
          try clear hfz26_0
          try clear hfz26_1
          try clear p2
          obtain ⟨kq, x42_15, rfl, HA, HJ15, BK137, HB⟩ := hcut
          cases kq with
          | zero => exact absurd HA.out (by simp [billiardlaw04_VecUnit.j1])
          | succ kj15 =>
            have H := HA.out
            clear HA
            simp only [billiardlaw04_VecUnit.j1] at H
            by_cases c27 : x42_15 = true
            · subst c27
              have H1 : (some false) = some r := by rw [if_pos rfl] at H; exact H
              clear H
              have H := H1
              clear H1
              obtain rfl := Option.some.inj H
              go_wp2
              go_ret
              exact ⟨by first | rfl | (simp [errW_none, errW_some] <;> rfl) | (simp [*, errW_none, errW_some] <;> rfl), by repeat (first | (with_reducible first | exact HB.out | apply below_alloc | apply pw_below_drewN | apply below_drew1 | refine below_set ?_ GE137.out) | exact HB.out)⟩
            · replace c27 := Bool.eq_false_iff.mpr c27
              subst c27
              have H1 : ((vec_Length.f kj15 a0 a1).bind fun t138 => (if t138 = 0 then (some (t135 == 65536 && (t136 == 0))) else (if a0 ≥ 0 then (if t135 < 0 then (billiardlaw04_VecUnit.j2 kj15 t138 true t135 t136) else (if a0 < 0 then (if t135 ≥ 0 then (billiardlaw04_VecUnit.j2 kj15 t138 true t135 t136) else (if a1 ≥ 0 then (if t136 < 0 then (billiardlaw04_VecUnit.j2 kj15 t138 true t135 t136) else (if a1 < 0 then (billiardlaw04_VecUnit.j2 kj15 t138 (decide (t136 ≥ 0)) t135 t136) else (billiardlaw04_VecUnit.j2 kj15 t138 false t135 t136))) else (if a1 < 0 then (billiardlaw04_VecUnit.j2 kj15 t138 (decide (t136 ≥ 0)) t135 t136) else (billiardlaw04_VecUnit.j2 kj15 t138 false t135 t136)))) else (if a1 ≥ 0 then (if t136 < 0 then (billiardlaw04_VecUnit.j2 kj15 t138 true t135 t136) else (if a1 < 0 then (billiardlaw04_VecUnit.j2 kj15 t138 (decide (t136 ≥ 0)) t135 t136) else (billiardlaw04_VecUnit.j2 kj15 t138 false t135 t136))) else (if a1 < 0 then (billiardlaw04_VecUnit.j2 kj15 t138 (decide (t136 ≥ 0)) t135 t136) else (billiardlaw04_VecUnit.j2 kj15 t138 false t135 t136))))) else (if a0 < 0 then (if t135 ≥ 0 then (billiardlaw04_VecUnit.j2 kj15 t138 true t135 t136) else (if a1 ≥ 0 then (if t136 < 0 then (billiardlaw04_VecUnit.j2 kj15 t138 true t135 t136) else (if a1 < 0 then (billiardlaw04_VecUnit.j2 kj15 t138 (decide (t136 ≥ 0)) t135 t136) else (billiardlaw04_VecUnit.j2 kj15 t138 false t135 t136))) else (if a1 < 0 then (billiardlaw04_VecUnit.j2 kj15 t138 (decide (t136 ≥ 0)) t135 t136) else (billiardlaw04_VecUnit.j2 kj15 t138 false t135 t136)))) else (if a1 ≥ 0 then (if t136 < 0 then (billiardlaw04_VecUnit.j2 kj15 t138 true t135 t136) else (if a1 < 0 then (billiardlaw04_VecUnit.j2 kj15 t138 (decide (t136 ≥ 0)) t135 t136) else (billiardlaw04_VecUnit.j2 kj15 t138 false t135 t136))) else (if a1 < 0 then (billiardlaw04_VecUnit.j2 kj15 t138 (decide (t136 ≥ 0)) t135 t136) else (billiardlaw04_VecUnit.j2 kj15 t138 false t135 t136))))))) = some r := by rw [if_neg (show ¬ (false = true) by decide)] at H; exact H
              clear H
              have H := H1
              clear H1
              replace H := Option.bind_eq_some_iff.mp H
              obtain ⟨t138, A280, H⟩ := H
              replace H : (if t138 = 0 then (some (t135 == 65536 && (t136 == 0))) else (if a0 ≥ 0 then (if t135 < 0 then (billiardlaw04_VecUnit.j2 kj15 t138 true t135 t136) else (if a0 < 0 then (if t135 ≥ 0 then (billiardlaw04_VecUnit.j2 kj15 t138 true t135 t136) else (if a1 ≥ 0 then (if t136 < 0 then (billiardlaw04_VecUnit.j2 kj15 t138 true t135 t136) else (if a1 < 0 then (billiardlaw04_VecUnit.j2 kj15 t138 (decide (t136 ≥ 0)) t135 t136) else (billiardlaw04_VecUnit.j2 kj15 t138 false t135 t136))) else (if a1 < 0 then (billiardlaw04_VecUnit.j2 kj15 t138 (decide (t136 ≥ 0)) t135 t136) else (billiardlaw04_VecUnit.j2 kj15 t138 false t135 t136)))) else (if a1 ≥ 0 then (if t136 < 0 then (billiardlaw04_VecUnit.j2 kj15 t138 true t135 t136) else (if a1 < 0 then (billiardlaw04_VecUnit.j2 kj15 t138 (decide (t136 ≥ 0)) t135 t136) else (billiardlaw04_VecUnit.j2 kj15 t138 false t135 t136))) else (if a1 < 0 then (billiardlaw04_VecUnit.j2 kj15 t138 (decide (t136 ≥ 0)) t135 t136) else (billiardlaw04_VecUnit.j2 kj15 t138 false t135 t136))))) else (if a0 < 0 then (if t135 ≥ 0 then (billiardlaw04_VecUnit.j2 kj15 t138 true t135 t136) else (if a1 ≥ 0 then (if t136 < 0 then (billiardlaw04_VecUnit.j2 kj15 t138 true t135 t136) else (if a1 < 0 then (billiardlaw04_VecUnit.j2 kj15 t138 (decide (t136 ≥ 0)) t135 t136) else (billiardlaw04_VecUnit.j2 kj15 t138 false t135 t136))) else (if a1 < 0 then (billiardlaw04_VecUnit.j2 kj15 t138 (decide (t136 ≥ 0)) t135 t136) else (billiardlaw04_VecUnit.j2 kj15 t138 false t135 t136)))) else (if a1 ≥ 0 then (if t136 < 0 then (billiardlaw04_VecUnit.j2 kj15 t138 true t135 t136) else (if a1 < 0 then (billiardlaw04_VecUnit.j2 kj15 t138 (decide (t136 ≥ 0)) t135 t136) else (billiardlaw04_VecUnit.j2 kj15 t138 false t135 t136))) else (if a1 < 0 then (billiardlaw04_VecUnit.j2 kj15 t138 (decide (t136 ≥ 0)) t135 t136) else (billiardlaw04_VecUnit.j2 kj15 t138 false t135 t136)))))) = some r := H
              have A28 := Aside0.mk A280
              clear A280
              by_cases c29 : t138 = 0
              · rw [if_pos c29] at H
                have c29b0 : (t138 == 0) = true := beq_iff_eq.mpr c29
                have c29b1 : (t138 != 0) = false := bne_eq_false_iff_eq.mpr c29
                clear c29
                obtain rfl := Option.some.inj H
                go_wp2_with (first | ((with_reducible refine gate_callee (f := 11) rfl ?_); refine goesL_ (some 45) rfl rfl Try.func11 (by kernel_rfl) rfl #[.int .i64 a0, .int .i64 a1] rfl (by (try simp only [List.map_toArray, List.map_cons, List.map_nil]); first | done | rfl | (simp only [List.length_drop, List.length_take]; rfl)) ?_; (with_reducible refine (vec_Length.calls kj15 a0 a1 t138 _ A28.out).mono ?_); rintro e w' ⟨rfl, ⟨nd, rfl⟩⟩; refine ⟨_, rfl, ?_⟩; have hcz30_0 : wc.cell? ⟨gb137, 0, none⟩ = some (.int .i32 t135) := (blk_cell BK137.out 0).trans rfl; have hcz30_1 : wc.cell? ⟨gb137, 1, none⟩ = some (.int .i32 t136) := (blk_cell BK137.out 1).trans rfl; have hfz30_0 := blk_frozen BK137.out 0; have hfz30_1 := blk_frozen BK137.out 1))
                go_ret
                exact ⟨by first | rfl | (simp [errW_none, errW_some] <;> rfl) | (simp [*, errW_none, errW_some] <;> rfl), by repeat (first | (with_reducible first | exact HB.out | apply below_alloc | apply pw_below_drewN | apply below_drew1 | refine below_set ?_ GE137.out) | exact HB.out)⟩
              · rw [if_neg c29] at H
                have c29b0 : (t138 == 0) = false := beq_eq_false_iff_ne.mpr c29
                have c29b1 : (t138 != 0) = true := bne_iff_ne.mpr c29
                have HC31 := Aside0.mk H
                clear H
                go_upto_region 9 with (first | ((with_reducible refine gate_callee (f := 11) rfl ?_); refine goesL_ (some 45) rfl rfl Try.func11 (by kernel_rfl) rfl #[.int .i64 a0, .int .i64 a1] rfl (by (try simp only [List.map_toArray, List.map_cons, List.map_nil]); first | done | rfl | (simp only [List.length_drop, List.length_take]; rfl)) ?_; (with_reducible refine (vec_Length.calls kj15 a0 a1 t138 _ A28.out).mono ?_); rintro e w' ⟨rfl, ⟨nd, rfl⟩⟩; refine ⟨_, rfl, ?_⟩))
                (try simp only [Act.put, List.setIfInBounds_toArray, List.set_cons_zero, List.set_cons_succ])
                go_cut [84] (fun v84 wc => ∃ (kq : Nat) (x84_30 : Bool), v84 = .bool x84_30 ∧ Aside0 (billiardlaw04_VecUnit.j2 kq t138 x84_30 t135 t136 = some r) ∧ Aside0 (kq ≤ kj15) ∧ Aside0 (wc.heap[gb137]? = some (.cells #[.int .i32 t135, .int .i32 t136] 25 (0, 0))) ∧ Aside0 (Below w.heap.size w wc))
                case first =>
                  have H := HC31.out
                  clear HC31
                  by_cases c32 : a0 ≥ 0
                  · rw [if_pos c32] at H
                    have c32b0 : decide (0 ≤ a0) = true := decide_eq_true c32
                    clear c32
                    (first | rw [c32b0] | (simp only [i64_w, i32_w]; rw [c32b0]) | skip)
                    by_cases c33 : t135 < 0
                    · rw [if_pos c33] at H
                      have c33b0 : decide (t135 < 0) = true := decide_eq_true c33
                      clear c33
                      have H' := Aside0.mk H
                      clear H
                      have hcz34_0 : wc.cell? ⟨gb137, 0, none⟩ = some (.int .i32 t135) := (blk_cell BK137.out 0).trans rfl
                      have hcz34_1 : wc.cell? ⟨gb137, 1, none⟩ = some (.int .i32 t136) := (blk_cell BK137.out 1).trans rfl
                      have hfz34_0 := blk_frozen BK137.out 0
                      have hfz34_1 := blk_frozen BK137.out 1
                      go_wp2
                      go_meet
                      case rel => exact ⟨_, (true), (by first | rfl | (simp; done) | (simp [*]; done)), H', ⟨by have := HJ2.out; have := HJ15.out; first | omega | exact Nat.le_refl _⟩, ⟨by (with_reducible repeat (first | refine blk_drewN ?_ _ | refine blk_drew ?_ | refine blk_alloc ?_ _)); exact BK137.out⟩, ⟨by repeat (first | (with_reducible first | exact HB.out | apply below_alloc | apply pw_below_drewN | apply below_drew1 | refine below_set ?_ GE137.out) | exact HB.out)⟩⟩
                    · rw [if_neg c33] at H
                      have c33b0 : decide (t135 < 0) = false := decide_eq_false c33
                      clear c33
                      by_cases c35 : a0 < 0
                      · rw [if_pos c35] at H
                        have c35b0 : decide (a0 < 0) = true := decide_eq_true c35
                        clear c35
                        by_cases c36 : t135 ≥ 0
                        · rw [if_pos c36] at H
                          have c36b0 : decide (0 ≤ t135) = true := decide_eq_true c36
                          clear c36
                          have H' := Aside0.mk H
                          clear H
                          have hcz37_0 : wc.cell? ⟨gb137, 0, none⟩ = some (.int .i32 t135) := (blk_cell BK137.out 0).trans rfl
                          have hcz37_1 : wc.cell? ⟨gb137, 1, none⟩ = some (.int .i32 t136) := (blk_cell BK137.out 1).trans rfl
                          have hfz37_0 := blk_frozen BK137.out 0
                          have hfz37_1 := blk_frozen BK137.out 1
                          go_wp2
                          go_meet
                          case rel => exact ⟨_, (true), (by first | rfl | (simp; done) | (simp [*]; done)), H', ⟨by have := HJ2.out; have := HJ15.out; first | omega | exact Nat.le_refl _⟩, ⟨by (with_reducible repeat (first | refine blk_drewN ?_ _ | refine blk_drew ?_ | refine blk_alloc ?_ _)); exact BK137.out⟩, ⟨by repeat (first | (with_reducible first | exact HB.out | apply below_alloc | apply pw_below_drewN | apply below_drew1 | refine below_set ?_ GE137.out) | exact HB.out)⟩⟩
                        · rw [if_neg c36] at H
                          have c36b0 : decide (0 ≤ t135) = false := decide_eq_false c36
                          clear c36
                          by_cases c38 : a1 ≥ 0
                          · rw [if_pos c38] at H
                            have c38b0 : decide (0 ≤ a1) = true := decide_eq_true c38
                            clear c38
                            by_cases c39 : t136 < 0
                            · rw [if_pos c39] at H
                              have c39b0 : decide (t136 < 0) = true := decide_eq_true c39
                              clear c39
                              have H' := Aside0.mk H
                              clear H
                              have hcz40_0 : wc.cell? ⟨gb137, 0, none⟩ = some (.int .i32 t135) := (blk_cell BK137.out 0).trans rfl
                              have hcz40_1 : wc.cell? ⟨gb137, 1, none⟩ = some (.int .i32 t136) := (blk_cell BK137.out 1).trans rfl
                              have hfz40_0 := blk_frozen BK137.out 0
                              have hfz40_1 := blk_frozen BK137.out 1
                              go_wp2
                              go_meet
                              case rel => exact ⟨_, (true), (by first | rfl | (simp; done) | (simp [*]; done)), H', ⟨by have := HJ2.out; have := HJ15.out; first | omega | exact Nat.le_refl _⟩, ⟨by (with_reducible repeat (first | refine blk_drewN ?_ _ | refine blk_drew ?_ | refine blk_alloc ?_ _)); exact BK137.out⟩, ⟨by repeat (first | (with_reducible first | exact HB.out | apply below_alloc | apply pw_below_drewN | apply below_drew1 | refine below_set ?_ GE137.out) | exact HB.out)⟩⟩
                            · rw [if_neg c39] at H
                              have c39b0 : decide (t136 < 0) = false := decide_eq_false c39
                              clear c39
                              by_cases c41 : a1 < 0
                              · rw [if_pos c41] at H
                                have c41b0 : decide (a1 < 0) = true := decide_eq_true c41
                                clear c41
                                have H' := Aside0.mk H
                                clear H
                                have hcz42_0 : wc.cell? ⟨gb137, 0, none⟩ = some (.int .i32 t135) := (blk_cell BK137.out 0).trans rfl
                                have hcz42_1 : wc.cell? ⟨gb137, 1, none⟩ = some (.int .i32 t136) := (blk_cell BK137.out 1).trans rfl
                                have hfz42_0 := blk_frozen BK137.out 0
                                have hfz42_1 := blk_frozen BK137.out 1
                                go_wp2
                                go_meet
                                case rel => exact ⟨_, (decide (t136 ≥ 0)), (by first | rfl | (simp; done) | (simp [*]; done)), H', ⟨by have := HJ2.out; have := HJ15.out; first | omega | exact Nat.le_refl _⟩, ⟨by (with_reducible repeat (first | refine blk_drewN ?_ _ | refine blk_drew ?_ | refine blk_alloc ?_ _)); exact BK137.out⟩, ⟨by repeat (first | (with_reducible first | exact HB.out | apply below_alloc | apply pw_below_drewN | apply below_drew1 | refine below_set ?_ GE137.out) | exact HB.out)⟩⟩
                              · rw [if_neg c41] at H
                                have c41b0 : decide (a1 < 0) = false := decide_eq_false c41
                                clear c41
                                have H' := Aside0.mk H
                                clear H
                                have hcz43_0 : wc.cell? ⟨gb137, 0, none⟩ = some (.int .i32 t135) := (blk_cell BK137.out 0).trans rfl
                                have hcz43_1 : wc.cell? ⟨gb137, 1, none⟩ = some (.int .i32 t136) := (blk_cell BK137.out 1).trans rfl
                                have hfz43_0 := blk_frozen BK137.out 0
                                have hfz43_1 := blk_frozen BK137.out 1
                                go_wp2
                                go_meet
                                case rel => exact ⟨_, (false), (by first | rfl | (simp; done) | (simp [*]; done)), H', ⟨by have := HJ2.out; have := HJ15.out; first | omega | exact Nat.le_refl _⟩, ⟨by (with_reducible repeat (first | refine blk_drewN ?_ _ | refine blk_drew ?_ | refine blk_alloc ?_ _)); exact BK137.out⟩, ⟨by repeat (first | (with_reducible first | exact HB.out | apply below_alloc | apply pw_below_drewN | apply below_drew1 | refine below_set ?_ GE137.out) | exact HB.out)⟩⟩
                          · rw [if_neg c38] at H
                            have c38b0 : decide (0 ≤ a1) = false := decide_eq_false c38
                            clear c38
                            by_cases c44 : a1 < 0
                            · rw [if_pos c44] at H
                              have c44b0 : decide (a1 < 0) = true := decide_eq_true c44
                              clear c44
                              have H' := Aside0.mk H
                              clear H
                              have hcz45_0 : wc.cell? ⟨gb137, 0, none⟩ = some (.int .i32 t135) := (blk_cell BK137.out 0).trans rfl
                              have hcz45_1 : wc.cell? ⟨gb137, 1, none⟩ = some (.int .i32 t136) := (blk_cell BK137.out 1).trans rfl
                              have hfz45_0 := blk_frozen BK137.out 0
                              have hfz45_1 := blk_frozen BK137.out 1
                              go_wp2
                              go_meet
                              case rel => exact ⟨_, (decide (t136 ≥ 0)), (by first | rfl | (simp; done) | (simp [*]; done)), H', ⟨by have := HJ2.out; have := HJ15.out; first | omega | exact Nat.le_refl _⟩, ⟨by (with_reducible repeat (first | refine blk_drewN ?_ _ | refine blk_drew ?_ | refine blk_alloc ?_ _)); exact BK137.out⟩, ⟨by repeat (first | (with_reducible first | exact HB.out | apply below_alloc | apply pw_below_drewN | apply below_drew1 | refine below_set ?_ GE137.out) | exact HB.out)⟩⟩
                            · rw [if_neg c44] at H
                              have c44b0 : decide (a1 < 0) = false := decide_eq_false c44
                              clear c44
                              have H' := Aside0.mk H
                              clear H
                              have hcz46_0 : wc.cell? ⟨gb137, 0, none⟩ = some (.int .i32 t135) := (blk_cell BK137.out 0).trans rfl
                              have hcz46_1 : wc.cell? ⟨gb137, 1, none⟩ = some (.int .i32 t136) := (blk_cell BK137.out 1).trans rfl
                              have hfz46_0 := blk_frozen BK137.out 0
                              have hfz46_1 := blk_frozen BK137.out 1
                              go_wp2
                              go_meet
                              case rel => exact ⟨_, (false), (by first | rfl | (simp; done) | (simp [*]; done)), H', ⟨by have := HJ2.out; have := HJ15.out; first | omega | exact Nat.le_refl _⟩, ⟨by (with_reducible repeat (first | refine blk_drewN ?_ _ | refine blk_drew ?_ | refine blk_alloc ?_ _)); exact BK137.out⟩, ⟨by repeat (first | (with_reducible first | exact HB.out | apply below_alloc | apply pw_below_drewN | apply below_drew1 | refine below_set ?_ GE137.out) | exact HB.out)⟩⟩
                      · rw [if_neg c35] at H
                        have c35b0 : decide (a0 < 0) = false := decide_eq_false c35
                        clear c35
                        by_cases c47 : a1 ≥ 0
                        · rw [if_pos c47] at H
                          have c47b0 : decide (0 ≤ a1) = true := decide_eq_true c47
                          clear c47
                          by_cases c48 : t136 < 0
                          · rw [if_pos c48] at H
                            have c48b0 : decide (t136 < 0) = true := decide_eq_true c48
                            clear c48
                            have H' := Aside0.mk H
                            clear H
                            have hcz49_0 : wc.cell? ⟨gb137, 0, none⟩ = some (.int .i32 t135) := (blk_cell BK137.out 0).trans rfl
                            have hcz49_1 : wc.cell? ⟨gb137, 1, none⟩ = some (.int .i32 t136) := (blk_cell BK137.out 1).trans rfl
                            have hfz49_0 := blk_frozen BK137.out 0
                            have hfz49_1 := blk_frozen BK137.out 1
                            go_wp2
                            go_meet
                            case rel => exact ⟨_, (true), (by first | rfl | (simp; done) | (simp [*]; done)), H', ⟨by have := HJ2.out; have := HJ15.out; first | omega | exact Nat.le_refl _⟩, ⟨by (with_reducible repeat (first | refine blk_drewN ?_ _ | refine blk_drew ?_ | refine blk_alloc ?_ _)); exact BK137.out⟩, ⟨by repeat (first | (with_reducible first | exact HB.out | apply below_alloc | apply pw_below_drewN | apply below_drew1 | refine below_set ?_ GE137.out) | exact HB.out)⟩⟩
                          · rw [if_neg c48] at H
                            have c48b0 : decide (t136 < 0) = false := decide_eq_false c48
                            clear c48
                            by_cases c50 : a1 < 0
                            · rw [if_pos c50] at H
                              have c50b0 : decide (a1 < 0) = true := decide_eq_true c50
                              clear c50
                              have H' := Aside0.mk H
                              clear H
                              have hcz51_0 : wc.cell? ⟨gb137, 0, none⟩ = some (.int .i32 t135) := (blk_cell BK137.out 0).trans rfl
                              have hcz51_1 : wc.cell? ⟨gb137, 1, none⟩ = some (.int .i32 t136) := (blk_cell BK137.out 1).trans rfl
                              have hfz51_0 := blk_frozen BK137.out 0
                              have hfz51_1 := blk_frozen BK137.out 1
                              go_wp2
                              go_meet
                              case rel => exact ⟨_, (decide (t136 ≥ 0)), (by first | rfl | (simp; done) | (simp [*]; done)), H', ⟨by have := HJ2.out; have := HJ15.out; first | omega | exact Nat.le_refl _⟩, ⟨by (with_reducible repeat (first | refine blk_drewN ?_ _ | refine blk_drew ?_ | refine blk_alloc ?_ _)); exact BK137.out⟩, ⟨by repeat (first | (with_reducible first | exact HB.out | apply below_alloc | apply pw_below_drewN | apply below_drew1 | refine below_set ?_ GE137.out) | exact HB.out)⟩⟩
                            · rw [if_neg c50] at H
                              have c50b0 : decide (a1 < 0) = false := decide_eq_false c50
                              clear c50
                              have H' := Aside0.mk H
                              clear H
                              have hcz52_0 : wc.cell? ⟨gb137, 0, none⟩ = some (.int .i32 t135) := (blk_cell BK137.out 0).trans rfl
                              have hcz52_1 : wc.cell? ⟨gb137, 1, none⟩ = some (.int .i32 t136) := (blk_cell BK137.out 1).trans rfl
                              have hfz52_0 := blk_frozen BK137.out 0
                              have hfz52_1 := blk_frozen BK137.out 1
                              go_wp2
                              go_meet
                              case rel => exact ⟨_, (false), (by first | rfl | (simp; done) | (simp [*]; done)), H', ⟨by have := HJ2.out; have := HJ15.out; first | omega | exact Nat.le_refl _⟩, ⟨by (with_reducible repeat (first | refine blk_drewN ?_ _ | refine blk_drew ?_ | refine blk_alloc ?_ _)); exact BK137.out⟩, ⟨by repeat (first | (with_reducible first | exact HB.out | apply below_alloc | apply pw_below_drewN | apply below_drew1 | refine below_set ?_ GE137.out) | exact HB.out)⟩⟩
                        · rw [if_neg c47] at H
                          have c47b0 : decide (0 ≤ a1) = false := decide_eq_false c47
                          clear c47
                          by_cases c53 : a1 < 0
                          · rw [if_pos c53] at H
                            have c53b0 : decide (a1 < 0) = true := decide_eq_true c53
                            clear c53
                            have H' := Aside0.mk H
                            clear H
                            have hcz54_0 : wc.cell? ⟨gb137, 0, none⟩ = some (.int .i32 t135) := (blk_cell BK137.out 0).trans rfl
                            have hcz54_1 : wc.cell? ⟨gb137, 1, none⟩ = some (.int .i32 t136) := (blk_cell BK137.out 1).trans rfl
                            have hfz54_0 := blk_frozen BK137.out 0
                            have hfz54_1 := blk_frozen BK137.out 1
                            go_wp2
                            go_meet
                            case rel => exact ⟨_, (decide (t136 ≥ 0)), (by first | rfl | (simp; done) | (simp [*]; done)), H', ⟨by have := HJ2.out; have := HJ15.out; first | omega | exact Nat.le_refl _⟩, ⟨by (with_reducible repeat (first | refine blk_drewN ?_ _ | refine blk_drew ?_ | refine blk_alloc ?_ _)); exact BK137.out⟩, ⟨by repeat (first | (with_reducible first | exact HB.out | apply below_alloc | apply pw_below_drewN | apply below_drew1 | refine below_set ?_ GE137.out) | exact HB.out)⟩⟩
                          · rw [if_neg c53] at H
                            have c53b0 : decide (a1 < 0) = false := decide_eq_false c53
                            clear c53
                            have H' := Aside0.mk H
                            clear H
                            have hcz55_0 : wc.cell? ⟨gb137, 0, none⟩ = some (.int .i32 t135) := (blk_cell BK137.out 0).trans rfl
                            have hcz55_1 : wc.cell? ⟨gb137, 1, none⟩ = some (.int .i32 t136) := (blk_cell BK137.out 1).trans rfl
                            have hfz55_0 := blk_frozen BK137.out 0
                            have hfz55_1 := blk_frozen BK137.out 1
                            go_wp2
                            go_meet
                            case rel => exact ⟨_, (false), (by first | rfl | (simp; done) | (simp [*]; done)), H', ⟨by have := HJ2.out; have := HJ15.out; first | omega | exact Nat.le_refl _⟩, ⟨by (with_reducible repeat (first | refine blk_drewN ?_ _ | refine blk_drew ?_ | refine blk_alloc ?_ _)); exact BK137.out⟩, ⟨by repeat (first | (with_reducible first | exact HB.out | apply below_alloc | apply pw_below_drewN | apply below_drew1 | refine below_set ?_ GE137.out) | exact HB.out)⟩⟩
                  · rw [if_neg c32] at H
                    have c32b0 : decide (0 ≤ a0) = false := decide_eq_false c32
                    clear c32
                    (first | rw [c32b0] | (simp only [i64_w, i32_w]; rw [c32b0]) | skip)
                    by_cases c56 : a0 < 0
                    · rw [if_pos c56] at H
                      have c56b0 : decide (a0 < 0) = true := decide_eq_true c56
                      clear c56
                      by_cases c57 : t135 ≥ 0
                      · rw [if_pos c57] at H
                        have c57b0 : decide (0 ≤ t135) = true := decide_eq_true c57
                        clear c57
                        have H' := Aside0.mk H
                        clear H
                        have hcz58_0 : wc.cell? ⟨gb137, 0, none⟩ = some (.int .i32 t135) := (blk_cell BK137.out 0).trans rfl
                        have hcz58_1 : wc.cell? ⟨gb137, 1, none⟩ = some (.int .i32 t136) := (blk_cell BK137.out 1).trans rfl
                        have hfz58_0 := blk_frozen BK137.out 0
                        have hfz58_1 := blk_frozen BK137.out 1
                        go_wp2
                        go_meet
                        case rel => exact ⟨_, (true), (by first | rfl | (simp; done) | (simp [*]; done)), H', ⟨by have := HJ2.out; have := HJ15.out; first | omega | exact Nat.le_refl _⟩, ⟨by (with_reducible repeat (first | refine blk_drewN ?_ _ | refine blk_drew ?_ | refine blk_alloc ?_ _)); exact BK137.out⟩, ⟨by repeat (first | (with_reducible first | exact HB.out | apply below_alloc | apply pw_below_drewN | apply below_drew1 | refine below_set ?_ GE137.out) | exact HB.out)⟩⟩
                      · rw [if_neg c57] at H
                        have c57b0 : decide (0 ≤ t135) = false := decide_eq_false c57
                        clear c57
                        by_cases c59 : a1 ≥ 0
                        · rw [if_pos c59] at H
                          have c59b0 : decide (0 ≤ a1) = true := decide_eq_true c59
                          clear c59
                          by_cases c60 : t136 < 0
                          · rw [if_pos c60] at H
                            have c60b0 : decide (t136 < 0) = true := decide_eq_true c60
                            clear c60
                            have H' := Aside0.mk H
                            clear H
                            have hcz61_0 : wc.cell? ⟨gb137, 0, none⟩ = some (.int .i32 t135) := (blk_cell BK137.out 0).trans rfl
                            have hcz61_1 : wc.cell? ⟨gb137, 1, none⟩ = some (.int .i32 t136) := (blk_cell BK137.out 1).trans rfl
                            have hfz61_0 := blk_frozen BK137.out 0
                            have hfz61_1 := blk_frozen BK137.out 1
                            go_wp2
                            go_meet
                            case rel => exact ⟨_, (true), (by first | rfl | (simp; done) | (simp [*]; done)), H', ⟨by have := HJ2.out; have := HJ15.out; first | omega | exact Nat.le_refl _⟩, ⟨by (with_reducible repeat (first | refine blk_drewN ?_ _ | refine blk_drew ?_ | refine blk_alloc ?_ _)); exact BK137.out⟩, ⟨by repeat (first | (with_reducible first | exact HB.out | apply below_alloc | apply pw_below_drewN | apply below_drew1 | refine below_set ?_ GE137.out) | exact HB.out)⟩⟩
                          · rw [if_neg c60] at H
                            have c60b0 : decide (t136 < 0) = false := decide_eq_false c60
                            clear c60
                            by_cases c62 : a1 < 0
                            · rw [if_pos c62] at H
                              have c62b0 : decide (a1 < 0) = true := decide_eq_true c62
                              clear c62
                              have H' := Aside0.mk H
                              clear H
                              have hcz63_0 : wc.cell? ⟨gb137, 0, none⟩ = some (.int .i32 t135) := (blk_cell BK137.out 0).trans rfl
                              have hcz63_1 : wc.cell? ⟨gb137, 1, none⟩ = some (.int .i32 t136) := (blk_cell BK137.out 1).trans rfl
                              have hfz63_0 := blk_frozen BK137.out 0
                              have hfz63_1 := blk_frozen BK137.out 1
                              go_wp2
                              go_meet
                              case rel => exact ⟨_, (decide (t136 ≥ 0)), (by first | rfl | (simp; done) | (simp [*]; done)), H', ⟨by have := HJ2.out; have := HJ15.out; first | omega | exact Nat.le_refl _⟩, ⟨by (with_reducible repeat (first | refine blk_drewN ?_ _ | refine blk_drew ?_ | refine blk_alloc ?_ _)); exact BK137.out⟩, ⟨by repeat (first | (with_reducible first | exact HB.out | apply below_alloc | apply pw_below_drewN | apply below_drew1 | refine below_set ?_ GE137.out) | exact HB.out)⟩⟩
                            · rw [if_neg c62] at H
                              have c62b0 : decide (a1 < 0) = false := decide_eq_false c62
                              clear c62
                              have H' := Aside0.mk H
                              clear H
                              have hcz64_0 : wc.cell? ⟨gb137, 0, none⟩ = some (.int .i32 t135) := (blk_cell BK137.out 0).trans rfl
                              have hcz64_1 : wc.cell? ⟨gb137, 1, none⟩ = some (.int .i32 t136) := (blk_cell BK137.out 1).trans rfl
                              have hfz64_0 := blk_frozen BK137.out 0
                              have hfz64_1 := blk_frozen BK137.out 1
                              go_wp2
                              go_meet
                              case rel => exact ⟨_, (false), (by first | rfl | (simp; done) | (simp [*]; done)), H', ⟨by have := HJ2.out; have := HJ15.out; first | omega | exact Nat.le_refl _⟩, ⟨by (with_reducible repeat (first | refine blk_drewN ?_ _ | refine blk_drew ?_ | refine blk_alloc ?_ _)); exact BK137.out⟩, ⟨by repeat (first | (with_reducible first | exact HB.out | apply below_alloc | apply pw_below_drewN | apply below_drew1 | refine below_set ?_ GE137.out) | exact HB.out)⟩⟩
                        · rw [if_neg c59] at H
                          have c59b0 : decide (0 ≤ a1) = false := decide_eq_false c59
                          clear c59
                          by_cases c65 : a1 < 0
                          · rw [if_pos c65] at H
                            have c65b0 : decide (a1 < 0) = true := decide_eq_true c65
                            clear c65
                            have H' := Aside0.mk H
                            clear H
                            have hcz66_0 : wc.cell? ⟨gb137, 0, none⟩ = some (.int .i32 t135) := (blk_cell BK137.out 0).trans rfl
                            have hcz66_1 : wc.cell? ⟨gb137, 1, none⟩ = some (.int .i32 t136) := (blk_cell BK137.out 1).trans rfl
                            have hfz66_0 := blk_frozen BK137.out 0
                            have hfz66_1 := blk_frozen BK137.out 1
                            go_wp2
                            go_meet
                            case rel => exact ⟨_, (decide (t136 ≥ 0)), (by first | rfl | (simp; done) | (simp [*]; done)), H', ⟨by have := HJ2.out; have := HJ15.out; first | omega | exact Nat.le_refl _⟩, ⟨by (with_reducible repeat (first | refine blk_drewN ?_ _ | refine blk_drew ?_ | refine blk_alloc ?_ _)); exact BK137.out⟩, ⟨by repeat (first | (with_reducible first | exact HB.out | apply below_alloc | apply pw_below_drewN | apply below_drew1 | refine below_set ?_ GE137.out) | exact HB.out)⟩⟩
                          · rw [if_neg c65] at H
                            have c65b0 : decide (a1 < 0) = false := decide_eq_false c65
                            clear c65
                            have H' := Aside0.mk H
                            clear H
                            have hcz67_0 : wc.cell? ⟨gb137, 0, none⟩ = some (.int .i32 t135) := (blk_cell BK137.out 0).trans rfl
                            have hcz67_1 : wc.cell? ⟨gb137, 1, none⟩ = some (.int .i32 t136) := (blk_cell BK137.out 1).trans rfl
                            have hfz67_0 := blk_frozen BK137.out 0
                            have hfz67_1 := blk_frozen BK137.out 1
                            go_wp2
                            go_meet
                            case rel => exact ⟨_, (false), (by first | rfl | (simp; done) | (simp [*]; done)), H', ⟨by have := HJ2.out; have := HJ15.out; first | omega | exact Nat.le_refl _⟩, ⟨by (with_reducible repeat (first | refine blk_drewN ?_ _ | refine blk_drew ?_ | refine blk_alloc ?_ _)); exact BK137.out⟩, ⟨by repeat (first | (with_reducible first | exact HB.out | apply below_alloc | apply pw_below_drewN | apply below_drew1 | refine below_set ?_ GE137.out) | exact HB.out)⟩⟩
                    · rw [if_neg c56] at H
                      have c56b0 : decide (a0 < 0) = false := decide_eq_false c56
                      clear c56
                      by_cases c68 : a1 ≥ 0
                      · rw [if_pos c68] at H
                        have c68b0 : decide (0 ≤ a1) = true := decide_eq_true c68
                        clear c68
                        by_cases c69 : t136 < 0
                        · rw [if_pos c69] at H
                          have c69b0 : decide (t136 < 0) = true := decide_eq_true c69
                          clear c69
                          have H' := Aside0.mk H
                          clear H
                          have hcz70_0 : wc.cell? ⟨gb137, 0, none⟩ = some (.int .i32 t135) := (blk_cell BK137.out 0).trans rfl
                          have hcz70_1 : wc.cell? ⟨gb137, 1, none⟩ = some (.int .i32 t136) := (blk_cell BK137.out 1).trans rfl
                          have hfz70_0 := blk_frozen BK137.out 0
                          have hfz70_1 := blk_frozen BK137.out 1
                          go_wp2
                          go_meet
                          case rel => exact ⟨_, (true), (by first | rfl | (simp; done) | (simp [*]; done)), H', ⟨by have := HJ2.out; have := HJ15.out; first | omega | exact Nat.le_refl _⟩, ⟨by (with_reducible repeat (first | refine blk_drewN ?_ _ | refine blk_drew ?_ | refine blk_alloc ?_ _)); exact BK137.out⟩, ⟨by repeat (first | (with_reducible first | exact HB.out | apply below_alloc | apply pw_below_drewN | apply below_drew1 | refine below_set ?_ GE137.out) | exact HB.out)⟩⟩
                        · rw [if_neg c69] at H
                          have c69b0 : decide (t136 < 0) = false := decide_eq_false c69
                          clear c69
                          by_cases c71 : a1 < 0
                          · rw [if_pos c71] at H
                            have c71b0 : decide (a1 < 0) = true := decide_eq_true c71
                            clear c71
                            have H' := Aside0.mk H
                            clear H
                            have hcz72_0 : wc.cell? ⟨gb137, 0, none⟩ = some (.int .i32 t135) := (blk_cell BK137.out 0).trans rfl
                            have hcz72_1 : wc.cell? ⟨gb137, 1, none⟩ = some (.int .i32 t136) := (blk_cell BK137.out 1).trans rfl
                            have hfz72_0 := blk_frozen BK137.out 0
                            have hfz72_1 := blk_frozen BK137.out 1
                            go_wp2
                            go_meet
                            case rel => exact ⟨_, (decide (t136 ≥ 0)), (by first | rfl | (simp; done) | (simp [*]; done)), H', ⟨by have := HJ2.out; have := HJ15.out; first | omega | exact Nat.le_refl _⟩, ⟨by (with_reducible repeat (first | refine blk_drewN ?_ _ | refine blk_drew ?_ | refine blk_alloc ?_ _)); exact BK137.out⟩, ⟨by repeat (first | (with_reducible first | exact HB.out | apply below_alloc | apply pw_below_drewN | apply below_drew1 | refine below_set ?_ GE137.out) | exact HB.out)⟩⟩
                          · rw [if_neg c71] at H
                            have c71b0 : decide (a1 < 0) = false := decide_eq_false c71
                            clear c71
                            have H' := Aside0.mk H
                            clear H
                            have hcz73_0 : wc.cell? ⟨gb137, 0, none⟩ = some (.int .i32 t135) := (blk_cell BK137.out 0).trans rfl
                            have hcz73_1 : wc.cell? ⟨gb137, 1, none⟩ = some (.int .i32 t136) := (blk_cell BK137.out 1).trans rfl
                            have hfz73_0 := blk_frozen BK137.out 0
                            have hfz73_1 := blk_frozen BK137.out 1
                            go_wp2
                            go_meet
                            case rel => exact ⟨_, (false), (by first | rfl | (simp; done) | (simp [*]; done)), H', ⟨by have := HJ2.out; have := HJ15.out; first | omega | exact Nat.le_refl _⟩, ⟨by (with_reducible repeat (first | refine blk_drewN ?_ _ | refine blk_drew ?_ | refine blk_alloc ?_ _)); exact BK137.out⟩, ⟨by repeat (first | (with_reducible first | exact HB.out | apply below_alloc | apply pw_below_drewN | apply below_drew1 | refine below_set ?_ GE137.out) | exact HB.out)⟩⟩
                      · rw [if_neg c68] at H
                        have c68b0 : decide (0 ≤ a1) = false := decide_eq_false c68
                        clear c68
                        by_cases c74 : a1 < 0
                        · rw [if_pos c74] at H
                          have c74b0 : decide (a1 < 0) = true := decide_eq_true c74
                          clear c74
                          have H' := Aside0.mk H
                          clear H
                          have hcz75_0 : wc.cell? ⟨gb137, 0, none⟩ = some (.int .i32 t135) := (blk_cell BK137.out 0).trans rfl
                          have hcz75_1 : wc.cell? ⟨gb137, 1, none⟩ = some (.int .i32 t136) := (blk_cell BK137.out 1).trans rfl
                          have hfz75_0 := blk_frozen BK137.out 0
                          have hfz75_1 := blk_frozen BK137.out 1
                          go_wp2
                          go_meet
                          case rel => exact ⟨_, (decide (t136 ≥ 0)), (by first | rfl | (simp; done) | (simp [*]; done)), H', ⟨by have := HJ2.out; have := HJ15.out; first | omega | exact Nat.le_refl _⟩, ⟨by (with_reducible repeat (first | refine blk_drewN ?_ _ | refine blk_drew ?_ | refine blk_alloc ?_ _)); exact BK137.out⟩, ⟨by repeat (first | (with_reducible first | exact HB.out | apply below_alloc | apply pw_below_drewN | apply below_drew1 | refine below_set ?_ GE137.out) | exact HB.out)⟩⟩
                        · rw [if_neg c74] at H
                          have c74b0 : decide (a1 < 0) = false := decide_eq_false c74
                          clear c74
                          have H' := Aside0.mk H
                          clear H
                          go_wp2
                          go_meet
                          case rel => exact ⟨_, (false), (by first | rfl | (simp; done) | (simp [*]; done)), H', ⟨by have := HJ2.out; have := HJ15.out; first | omega | exact Nat.le_refl _⟩, ⟨by (with_reducible repeat (first | refine blk_drewN ?_ _ | refine blk_drew ?_ | refine blk_alloc ?_ _)); exact BK137.out⟩, ⟨by repeat (first | (with_reducible first | exact HB.out | apply below_alloc | apply pw_below_drewN | apply below_drew1 | refine below_set ?_ GE137.out) | exact HB.out)⟩⟩
                case rest =>
                  clear HC31
                  try clear c1
                  try clear c2
                  try clear p2
                  try clear c3
                  try clear c4
                  try clear c5
                  try clear c6
                  try clear c7
                  try clear c8
                  try clear c10
                  try clear c11
                  try clear c12
                  try clear c20
                  try clear c20b0
                  try clear c22
                  try clear c22b0
                  try clear c24
                  try clear c24b0
                  try clear c27
                  try clear c29
                  try clear c29b0
                  try clear c29b1
                  try clear c32
                  try clear c32b0
                  try clear c33
                  try clear c33b0
                  try clear c35
                  try clear c35b0
                  try clear c36
                  try clear c36b0
                  try clear c38
                  try clear c38b0
                  try clear c39
                  try clear c39b0
                  try clear c41
                  try clear c41b0
                  try clear c44
                  try clear c44b0
                  try clear c47
                  try clear c47b0
                  try clear c48
                  try clear c48b0
                  try clear c50
                  try clear c50b0
                  try clear c53
                  try clear c53b0
                  try clear c56
                  try clear c56b0
                  try clear c57
                  try clear c57b0
                  try clear c59
                  try clear c59b0
                  try clear c60
                  try clear c60b0
                  try clear c62
                  try clear c62b0
                  try clear c65
                  try clear c65b0
                  try clear c68
                  try clear c68b0
                  try clear c69
                  try clear c69b0
                  try clear c71
                  try clear c71b0
                  try clear c74
                  try clear c74b0
                  try clear hcz19_0
                  try clear hcz19_1
                  try clear hcz21_0
                  try clear hcz21_1
                  try clear hcz23_0
                  try clear hcz23_1
                  try clear hcz25_0
                  try clear hcz25_1
                  try clear hcz26_0
                  try clear hcz26_1
                  try clear hcz30_0
                  try clear hcz30_1
                  try clear hcz34_0
                  try clear hcz34_1
                  try clear hcz37_0
                  try clear hcz37_1
                  try clear hcz40_0
                  try clear hcz40_1
                  try clear hcz42_0
                  try clear hcz42_1
                  try clear hcz43_0
                  try clear hcz43_1
                  try clear hcz45_0
                  try clear hcz45_1
                  try clear hcz46_0
                  try clear hcz46_1
                  try clear hcz49_0
                  try clear hcz49_1
                  try clear hcz51_0
                  try clear hcz51_1
                  try clear hcz52_0
                  try clear hcz52_1
                  try clear hcz54_0
                  try clear hcz54_1
                  try clear hcz55_0
                  try clear hcz55_1
                  try clear hcz58_0
                  try clear hcz58_1
                  try clear hcz61_0
                  try clear hcz61_1
                  try clear hcz63_0
                  try clear hcz63_1
                  try clear hcz64_0
                  try clear hcz64_1
                  try clear hcz66_0
                  try clear hcz66_1
                  try clear hcz67_0
                  try clear hcz67_1
                  try clear hcz70_0
                  try clear hcz70_1
                  try clear hcz72_0
                  try clear hcz72_1
                  try clear hcz73_0
                  try clear hcz73_1
                  try clear hcz75_0
                  try clear hcz75_1
                  try clear hfz19_0
                  try clear hfz19_1
                  try clear hfz21_0
                  try clear hfz21_1
                  try clear hfz23_0
                  try clear hfz23_1
                  try clear hfz25_0
                  try clear hfz25_1
                  try clear hfz26_0
                  try clear hfz26_1
                  try clear hfz30_0
                  try clear hfz30_1
                  try clear hfz34_0
                  try clear hfz34_1
                  try clear hfz37_0
                  try clear hfz37_1
                  try clear hfz40_0
                  try clear hfz40_1
                  try clear hfz42_0
                  try clear hfz42_1
                  try clear hfz43_0
                  try clear hfz43_1
                  try clear hfz45_0
                  try clear hfz45_1
                  try clear hfz46_0
                  try clear hfz46_1
                  try clear hfz49_0
                  try clear hfz49_1
                  try clear hfz51_0
                  try clear hfz51_1
                  try clear hfz52_0
                  try clear hfz52_1
                  try clear hfz54_0
                  try clear hfz54_1
                  try clear hfz55_0
                  try clear hfz55_1
                  try clear hfz58_0
                  try clear hfz58_1
                  try clear hfz61_0
                  try clear hfz61_1
                  try clear hfz63_0
                  try clear hfz63_1
                  try clear hfz64_0
                  try clear hfz64_1
                  try clear hfz66_0
                  try clear hfz66_1
                  try clear hfz67_0
                  try clear hfz67_1
                  try clear hfz70_0
                  try clear hfz70_1
                  try clear hfz72_0
                  try clear hfz72_1
                  try clear hfz73_0
                  try clear hfz73_1
                  try clear hfz75_0
                  try clear hfz75_1
                  try clear p2
                  obtain ⟨kq, x84_30, rfl, HA, HJ30, BK137, HB⟩ := hcut
                  cases kq with
                  | zero => exact absurd HA.out (by simp [billiardlaw04_VecUnit.j2])
                  | succ kj30 =>
                    have H := HA.out
                    clear HA
                    simp only [billiardlaw04_VecUnit.j2] at H
                    by_cases c76 : x84_30 = true
                    · subst c76
                      have H1 : (some false) = some r := by rw [if_pos rfl] at H; exact H
                      clear H
                      have H := H1
                      clear H1
                      obtain rfl := Option.some.inj H
                      go_wp2
                      go_ret
                      exact ⟨by first | rfl | (simp [errW_none, errW_some] <;> rfl) | (simp [*, errW_none, errW_some] <;> rfl), by repeat (first | (with_reducible first | exact HB.out | apply below_alloc | apply pw_below_drewN | apply below_drew1 | refine below_set ?_ GE137.out) | exact HB.out)⟩
                    · replace c76 := Bool.eq_false_iff.mpr c76
                      subst c76
                      have H1 : ((vec_LengthSq.f (wrap64 (t135)) (wrap64 (t136))).bind fun t139 => (if t138 < 4096 then (some true) else (if (wrap64 (t139)) ≥ 4290672329 then (some (decide ((wrap64 (t139)) ≤ 4299262263))) else (some false)))) = some r := by rw [if_neg (show ¬ (false = true) by decide)] at H; exact H
                      clear H
                      have H := H1
                      clear H1
                      replace H := Option.bind_eq_some_iff.mp H
                      obtain ⟨t139, A770, H⟩ := H
                      replace H : (if t138 < 4096 then (some true) else (if (wrap64 (t139)) ≥ 4290672329 then (some (decide ((wrap64 (t139)) ≤ 4299262263))) else (some false))) = some r := H
                      have A77 := Aside0.mk A770
                      clear A770
                      by_cases c78 : t138 < 4096
                      · rw [if_pos c78] at H
                        have c78b0 : decide (t138 < 4096) = true := decide_eq_true c78
                        clear c78
                        obtain rfl := Option.some.inj H
                        have hcz79_0 : wc.cell? ⟨gb137, 0, none⟩ = some (.int .i32 t135) := (blk_cell BK137.out 0).trans rfl
                        have hcz79_1 : wc.cell? ⟨gb137, 1, none⟩ = some (.int .i32 t136) := (blk_cell BK137.out 1).trans rfl
                        have hfz79_0 := blk_frozen BK137.out 0
                        have hfz79_1 := blk_frozen BK137.out 1
                        go_wp2_with (first | ((with_reducible refine gate_callee (f := 12) rfl ?_); refine goesL_ (some 91) rfl rfl Try.func12 (by kernel_rfl) rfl #[.int .i64 (wrap64 (t135)), .int .i64 (wrap64 (t136))] rfl (by (try simp only [List.map_toArray, List.map_cons, List.map_nil]); first | done | rfl | (simp only [List.length_drop, List.length_take]; rfl)) ?_; (with_reducible refine (vec_LengthSq.calls (wrap64 (t135)) (wrap64 (t136)) t139 _ A77.out).mono ?_); rintro e w' ⟨rfl, ⟨nd, rfl⟩⟩; refine ⟨_, rfl, ?_⟩))
                        go_ret
                        exact ⟨by first | rfl | (simp [errW_none, errW_some] <;> rfl) | (simp [*, errW_none, errW_some] <;> rfl), by repeat (first | (with_reducible first | exact HB.out | apply below_alloc | apply pw_below_drewN | apply below_drew1 | refine below_set ?_ GE137.out) | exact HB.out)⟩
                      · rw [if_neg c78] at H
                        have c78b0 : decide (t138 < 4096) = false := decide_eq_false c78
                        clear c78
                        by_cases c80 : (wrap64 (t139)) ≥ 4290672329
                        · rw [if_pos c80] at H
                          have c80b0 : decide (4290672329 ≤ (wrap64 (t139))) = true := decide_eq_true c80
                          clear c80
                          obtain rfl := Option.some.inj H
                          have hcz81_0 : wc.cell? ⟨gb137, 0, none⟩ = some (.int .i32 t135) := (blk_cell BK137.out 0).trans rfl
                          have hcz81_1 : wc.cell? ⟨gb137, 1, none⟩ = some (.int .i32 t136) := (blk_cell BK137.out 1).trans rfl
                          have hfz81_0 := blk_frozen BK137.out 0
                          have hfz81_1 := blk_frozen BK137.out 1
                          go_wp2_with (first | ((with_reducible refine gate_callee (f := 12) rfl ?_); refine goesL_ (some 91) rfl rfl Try.func12 (by kernel_rfl) rfl #[.int .i64 (wrap64 (t135)), .int .i64 (wrap64 (t136))] rfl (by (try simp only [List.map_toArray, List.map_cons, List.map_nil]); first | done | rfl | (simp only [List.length_drop, List.length_take]; rfl)) ?_; (with_reducible refine (vec_LengthSq.calls (wrap64 (t135)) (wrap64 (t136)) t139 _ A77.out).mono ?_); rintro e w' ⟨rfl, ⟨nd, rfl⟩⟩; refine ⟨_, rfl, ?_⟩))
                          go_ret
                          exact ⟨by first | rfl | (simp [errW_none, errW_some] <;> rfl) | (simp [*, errW_none, errW_some] <;> rfl), by repeat (first | (with_reducible first | exact HB.out | apply below_alloc | apply pw_below_drewN | apply below_drew1 | refine below_set ?_ GE137.out) | exact HB.out)⟩
                        · rw [if_neg c80] at H
                          have c80b0 : decide (4290672329 ≤ (wrap64 (t139))) = false := decide_eq_false c80
                          clear c80
                          obtain rfl := Option.some.inj H
                          have hcz82_0 : wc.cell? ⟨gb137, 0, none⟩ = some (.int .i32 t135) := (blk_cell BK137.out 0).trans rfl
                          have hcz82_1 : wc.cell? ⟨gb137, 1, none⟩ = some (.int .i32 t136) := (blk_cell BK137.out 1).trans rfl
                          have hfz82_0 := blk_frozen BK137.out 0
                          have hfz82_1 := blk_frozen BK137.out 1
                          go_wp2_with (first | ((with_reducible refine gate_callee (f := 12) rfl ?_); refine goesL_ (some 91) rfl rfl Try.func12 (by kernel_rfl) rfl #[.int .i64 (wrap64 (t135)), .int .i64 (wrap64 (t136))] rfl (by (try simp only [List.map_toArray, List.map_cons, List.map_nil]); first | done | rfl | (simp only [List.length_drop, List.length_take]; rfl)) ?_; (with_reducible refine (vec_LengthSq.calls (wrap64 (t135)) (wrap64 (t136)) t139 _ A77.out).mono ?_); rintro e w' ⟨rfl, ⟨nd, rfl⟩⟩; refine ⟨_, rfl, ?_⟩))
                          go_ret
                          exact ⟨by first | rfl | (simp [errW_none, errW_some] <;> rfl) | (simp [*, errW_none, errW_some] <;> rfl), by repeat (first | (with_reducible first | exact HB.out | apply below_alloc | apply pw_below_drewN | apply below_drew1 | refine below_set ?_ GE137.out) | exact HB.out)⟩

/-- THE ONE PURE STATEMENT of billiardlaw04_VecUnit: yours. -/
def billiardlaw04_VecUnit.Pure : Prop := ∀ (a0 : Int) (a1 : Int), (Lit.int .i64 a0).wf = true → (Lit.int .i64 a1).wf = true → ∃ k, billiardlaw04_VecUnit.f k a0 a1 = some true
theorem billiardlaw04_VecUnit.walk (P : billiardlaw04_VecUnit.Pure) (a0 : Int) (a1 : Int) (w : World) (w0 : (Lit.int .i64 a0).wf = true) (w1 : (Lit.int .i64 a1).wf = true) :
    Calls Try.prog 3 #[.int .i64 a0, .int .i64 a1] w fun e w' => e = .returned (.bool true) ∧ Below w.heap.size w w' := by
  obtain ⟨k, h⟩ := P a0 a1 w0 w1
  refine (billiardlaw04_VecUnit.calls k a0 a1 true w h).mono ?_
  rintro e w' ⟨rfl, hd⟩
  exact ⟨rfl, hd⟩

end Go.Proofs.Ytjgeakahbelgiaa.Q
