-- PRINTED by print.py (a twelfth state) out of the translation. Not trusted: Lean checks it.
import Derived.Test.YtjgeakahbelgiaaQ0
import Derived.Test.YtjgeakahbelgiaaMspec
namespace Go.Proofs.Ytjgeakahbelgiaa.Q
open Go.RowKit Go.Proofs.YtjgeakahbelgiaaW.PrintWords Go.Proofs.YtjgeakahbelgiaaW.PrintLast Go.Proofs.YtjgeakahbelgiaaW.PrintMore
attribute [local go_sem] max2_int min2_int max_two min_two max_three min_three max_four min_four   -- for this text's walks alone
set_option linter.unusedVariables false
set_option linter.unusedSimpArgs false

/-! ### fx_Sub: function 34 (given) -/
-- IMPORT Derived.Test.YtjgeakahbelgiaaMspec
def fx_Sub.f (a b : Int) : Option Int := if i32B a = true ∧ i32B b = true then some (sat32 (a - b)) else none
theorem fx_Sub.same (a b : Int) (ha : -2147483648 ≤ a ∧ a ≤ 2147483647) (hb : -2147483648 ≤ b ∧ b ≤ 2147483647) (w : World) :
    Calls Try.prog 34 #[.int .i32 a, .int .i32 b] w fun e w' => e = .returned (.int .i32 (sat32 (a - b))) ∧ w = w' := by
  go_enter Try.func34, Try.ntmps34
  go_wp2
  all_goals
    go_ret
    exact ⟨ret_int (by unfold sat32 mx mn; (repeat' split) <;> omega), rfl⟩
theorem fx_Sub.calls (a b r : Int) (w : World) (h : fx_Sub.f a b = some r) :
    Calls Try.prog 34 #[.int .i32 a, .int .i32 b] w fun e w' => e = .returned (.int .i32 r) ∧ Drawn0 w w' := by
  unfold fx_Sub.f at h
  split at h
  · rename_i c
    obtain rfl := Option.some.inj h
    exact (fx_Sub.same a b (i32B_iff.mp c.1) (i32B_iff.mp c.2) w).mono fun e w' ⟨h1, h2⟩ => ⟨h1, Drawn0.of_eq h2⟩
  · cases h

/-! ### fx_Neg: function 31 -/
def fx_Neg.f (a0 : Int) : Option (Int) := (fx_Sub.f 0 a0).bind fun t113 => (some t113)
set_option maxHeartbeats 8000000 in
set_option maxRecDepth 100000 in
theorem fx_Neg.calls (a0 : Int) (r : Int) (w : World) (h : fx_Neg.f a0 = some r) :
    Calls Try.prog 31 #[.int .i32 a0] w fun e w' => e = .returned (.int .i32 r) ∧ Drawn0 w w' := by
  have H : ((fx_Sub.f 0 a0).bind fun t113 => (some t113)) = some r := h
  clear h
  replace H := Option.bind_eq_some_iff.mp H
  obtain ⟨t113, A20, H⟩ := H
  replace H : (some t113) = some r := H
  have A2 := Aside0.mk A20
  clear A20
  obtain rfl := Option.some.inj H
  go_enter Try.func31, Try.ntmps31
  go_wp2_with (first | ((with_reducible refine gate_callee (f := 34) rfl ?_); refine goesL_ (some 4) rfl rfl Try.func34 (by kernel_rfl) rfl #[.int .i32 0, .int .i32 a0] rfl (by (try simp only [List.map_toArray, List.map_cons, List.map_nil]); first | done | rfl | (simp only [List.length_drop, List.length_take]; rfl)) ?_; (with_reducible refine (fx_Sub.calls 0 a0 t113 _ A2.out).mono ?_); rintro e w' ⟨rfl, ⟨nd, rfl⟩⟩; refine ⟨_, rfl, ?_⟩))
  go_ret
  exact ⟨by first | rfl | (simp; done) | (simp [*]; done), by repeat (first | exact Drawn0.refl _ | apply Drawn0.step)⟩

/-! ### fx_Add: function 33 (given) -/
-- IMPORT Derived.Test.YtjgeakahbelgiaaMspec
def fx_Add.f (a b : Int) : Option Int := if i32B a = true ∧ i32B b = true then some (sat32 (a + b)) else none
theorem fx_Add.same (a b : Int) (ha : -2147483648 ≤ a ∧ a ≤ 2147483647) (hb : -2147483648 ≤ b ∧ b ≤ 2147483647) (w : World) :
    Calls Try.prog 33 #[.int .i32 a, .int .i32 b] w fun e w' => e = .returned (.int .i32 (sat32 (a + b))) ∧ w = w' := by
  go_enter Try.func33, Try.ntmps33
  go_wp2
  all_goals
    go_ret
    exact ⟨ret_int (by unfold sat32 mx mn; (repeat' split) <;> omega), rfl⟩
theorem fx_Add.calls (a b r : Int) (w : World) (h : fx_Add.f a b = some r) :
    Calls Try.prog 33 #[.int .i32 a, .int .i32 b] w fun e w' => e = .returned (.int .i32 r) ∧ Drawn0 w w' := by
  unfold fx_Add.f at h
  split at h
  · rename_i c
    obtain rfl := Option.some.inj h
    exact (fx_Add.same a b (i32B_iff.mp c.1) (i32B_iff.mp c.2) w).mono fun e w' ⟨h1, h2⟩ => ⟨h1, Drawn0.of_eq h2⟩
  · cases h

/-! ### fx_Mul: function 35 (given) -/
-- IMPORT Derived.Test.YtjgeakahbelgiaaMspec
def fx_Mul.f (a b : Int) : Option Int := if i32B a = true ∧ i32B b = true then some (sat32 (a * b / 65536)) else none
theorem fx_Mul.same (a b : Int) (ha : -2147483648 ≤ a ∧ a ≤ 2147483647) (hb : -2147483648 ≤ b ∧ b ≤ 2147483647) (w : World) :
    Calls Try.prog 35 #[.int .i32 a, .int .i32 b] w fun e w' => e = .returned (.int .i32 (sat32 (a * b / 65536))) ∧ w = w' := by
  have hp := mul_i32 ha hb
  go_enter Try.func35, Try.ntmps35
  go_wp2
  all_goals
    go_ret
    exact ⟨ret_int (by unfold sat32 mx mn; (repeat' split) <;> omega), rfl⟩
theorem fx_Mul.calls (a b r : Int) (w : World) (h : fx_Mul.f a b = some r) :
    Calls Try.prog 35 #[.int .i32 a, .int .i32 b] w fun e w' => e = .returned (.int .i32 r) ∧ Drawn0 w w' := by
  unfold fx_Mul.f at h
  split at h
  · rename_i c
    obtain rfl := Option.some.inj h
    exact (fx_Mul.same a b (i32B_iff.mp c.1) (i32B_iff.mp c.2) w).mono fun e w' ⟨h1, h2⟩ => ⟨h1, Drawn0.of_eq h2⟩
  · cases h

end Go.Proofs.Ytjgeakahbelgiaa.Q
