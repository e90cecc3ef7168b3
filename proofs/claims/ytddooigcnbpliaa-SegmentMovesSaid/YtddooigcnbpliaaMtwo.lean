/- Two results of two cells each, in memory. -/
import Derived.Test.YtddooigcnbpliaaMspec
namespace Go.Proofs.Ytddooigcnbpliaa.Q
open Go.RowKit Go.Proofs.YtddooigcnbpliaaW.PrintWords Go.Proofs.YtddooigcnbpliaaW.PrintLast Go.Proofs.YtddooigcnbpliaaW.PrintMore
set_option linter.unusedVariables false
/-- Two results in memory, in the blocks k and k + 1. -/
structure TwoV (w W : World) (k : Nat) (a0 a1 b0 b1 : Int) : Prop where
  below : Below w.heap.size w W
  base : w.heap.size ≤ k
  c0 : W.cell? ⟨k, 0, none⟩ = some (.int .i32 a0)
  c1 : W.cell? ⟨k, 1, none⟩ = some (.int .i32 a1)
  c2 : W.cell? ⟨k + 1, 0, none⟩ = some (.int .i32 b0)
  c3 : W.cell? ⟨k + 1, 1, none⟩ = some (.int .i32 b1)
  f0 : W.frozen? ⟨k, 0, none⟩ = false
  f1 : W.frozen? ⟨k, 1, none⟩ = false
  f2 : W.frozen? ⟨k + 1, 0, none⟩ = false
  f3 : W.frozen? ⟨k + 1, 1, none⟩ = false
theorem TwoV.stored {w W : World} {k : Nat} {a0 a1 b0 b1 : Int} (h : TwoV w W k a0 a1 b0 b1) (x0 x1 y0 y1 : Int) : TwoV w ((((W.setCell ⟨k, 0, none⟩ (.int .i32 x0)).setCell ⟨k, 1, none⟩ (.int .i32 x1)).setCell ⟨k + 1, 0, none⟩ (.int .i32 y0)).setCell ⟨k + 1, 1, none⟩ (.int .i32 y1)) k x0 x1 y0 y1 := by
  obtain ⟨h1, h2, c0, c1, c2, c3, f0, f1, f2, f3⟩ := h
  refine ⟨(((h1.setCell (by simpa using h2) _).setCell (by simpa using h2) _).setCell (by simp; omega) _).setCell (by simp; omega) _, h2, ?_, ?_, ?_, ?_, ?_, ?_, ?_, ?_⟩
  all_goals simp [go_sem, c0, c1, c2, c3, f0, f1, f2, f3]
theorem TwoV.drew {w W : World} {k : Nat} {a0 a1 b0 b1 : Int} (h : TwoV w W k a0 a1 b0 b1) : TwoV w W.drew k a0 a1 b0 b1 := ⟨h.below.drew, h.base, h.c0, h.c1, h.c2, h.c3, h.f0, h.f1, h.f2, h.f3⟩
theorem TwoV.fresh2 (w W : World) (t : Nat) (hW : Below w.heap.size w W) (a0 a1 b0 b1 : Int) : TwoV w ((W.alloc (.cells #[.int .i32 a0, .int .i32 a1] t)).alloc (.cells #[.int .i32 b0, .int .i32 b1] t)) W.heap.size a0 a1 b0 b1 := by
  have hs := hW.size
  refine ⟨below_alloc (below_alloc hW _) _, hs, ?_, ?_, ?_, ?_, ?_, ?_, ?_, ?_⟩
  all_goals simp [go_sem]
end Go.Proofs.Ytddooigcnbpliaa.Q
