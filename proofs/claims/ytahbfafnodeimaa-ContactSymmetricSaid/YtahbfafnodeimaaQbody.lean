-- PRINTED by print.py (a twelfth state) out of the translation. Not trusted: Lean checks it.
import Derived.Test.YtahbfafnodeimaaQ0
import Derived.Test.YtahbfafnodeimaaMspec
namespace Go.Proofs.Ytahbfafnodeimaa.Q
open Go.RowKit Go.Proofs.YtahbfafnodeimaaW.PrintWords Go.Proofs.YtahbfafnodeimaaW.PrintLast Go.Proofs.YtahbfafnodeimaaW.PrintMore
attribute [local go_sem] max2_int min2_int max_two min_two max_three min_three max_four min_four   -- for this text's walks alone
set_option linter.unusedVariables false
set_option linter.unusedSimpArgs false

/-! ### body_Ends: function 42 (given) -/
-- IMPORT Derived.Test.YtahbfafnodeimaaMspec
-- IMPORT Derived.Test.YtahbfafnodeimaaMtwo
def body_Ends.f (a0_0 a0_1 a0_2 a0_3 a0_4 a0_5 a0_6 a0_7 a0_8 a0_9 : Int) : Option (Int × Int × Int × Int) := some (wrap32 (a0_6 - a0_2), wrap32 (a0_7 - a0_3), wrap32 (a0_6 + a0_2), wrap32 (a0_7 + a0_3))
theorem body_Ends.calls (a0_0 a0_1 a0_2 a0_3 a0_4 a0_5 a0_6 a0_7 a0_8 a0_9 r1 r2 r3 r4 : Int) (w : World) (h : body_Ends.f a0_0 a0_1 a0_2 a0_3 a0_4 a0_5 a0_6 a0_7 a0_8 a0_9 = some (r1, r2, r3, r4)) :
    Calls Try.prog 42 #[.agg #[.int .u32 a0_0, .int .i32 a0_1, .int .i32 a0_2, .int .i32 a0_3, .int .i32 a0_4, .int .i32 a0_5, .int .i32 a0_6, .int .i32 a0_7, .int .i32 a0_8, .int .i32 a0_9]] w fun e w' => e = .returned (.tuple #[.agg #[.int .i32 r1, .int .i32 r2], .agg #[.int .i32 r3, .int .i32 r4]]) ∧ Below w.heap.size w w' := by
  unfold body_Ends.f at h
  simp only [Option.some.injEq, Prod.mk.injEq] at h
  obtain ⟨h1, h2, h3, h4⟩ := h
  have H1 := Lib.hid h1
  have H2 := Lib.hid h2
  have H3 := Lib.hid h3
  have H4 := Lib.hid h4
  clear h1 h2 h3 h4
  go_enter Try.func42, Try.ntmps42
  go_wp2_with fail
  rw [H1.out, H2.out, H3.out, H4.out]
  have hT := TwoV.fresh2 w (w.alloc (.cells #[.int .u32 a0_0, .int .i32 a0_1, .int .i32 a0_2, .int .i32 a0_3, .int .i32 a0_4, .int .i32 a0_5, .int .i32 a0_6, .int .i32 a0_7, .int .i32 a0_8, .int .i32 a0_9] 26)) 24 (below_alloc (Below.refl _ _) _) r1 r2 r3 r4
  simp only [World.size_alloc] at hT
  generalize (((w.alloc _).alloc _).alloc _) = V at hT ⊢
  obtain ⟨e0, e1, e4, e5, e6, e7, e9, e10, e11, e12⟩ := hT
  go_region
  have hS := (TwoV.stored (⟨e0, e1, e4, e5, e6, e7, e9, e10, e11, e12⟩ : TwoV w V (w.heap.size + 1) r1 r2 r3 r4) r1 r2 r3 r4).drew
  clear e0 e1 e4 e5 e6 e7 e9 e10 e11 e12
  generalize ((((V.setCell _ _).setCell _ _).setCell _ _).setCell _ _).drew = V1 at hS ⊢
  go_wp2_with fail
  obtain ⟨e0, e1, e4, e5, e6, e7, e9, e10, e11, e12⟩ := hS
  exact bodyPost_ret (v := .tuple #[.agg #[.int .i32 r1, .int .i32 r2], .agg #[.int .i32 r3, .int .i32 r4]]) (by simp [results, Try.results42, go_sem, e4, e5, e6, e7]) rfl ⟨rfl, e0⟩

end Go.Proofs.Ytahbfafnodeimaa.Q
