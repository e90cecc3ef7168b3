/- What the listed package variables hold: two facts on memory that stay behind every call. -/
import Derived.Test.YticjhncpglcgnaaDoorQ0
namespace Go.Proofs.YticjhncpglcgnaaDoor.Q
open Go.RowKit Go.Proofs.YticjhncpglcgnaaDoorW.PrintWords
/-- box.none is the box {1, 0, 0, 0}. -/
def GlobN (w : World) : Prop := ∃ t, w.heap[1]? = some (.cells #[.int .i32 1, .int .i32 0, .int .i32 0, .int .i32 0] t (0, 0))
theorem GlobN.below {w w' : World} (h : GlobN w) (hb : Below w.heap.size w w') : GlobN w' := h.elim fun t h => ⟨t, blk_below h hb⟩
theorem GlobN.cells {w : World} (h : GlobN w) : w.cell? ⟨1, 0, none⟩ = some (.int .i32 1) ∧ w.cell? ⟨1, 1, none⟩ = some (.int .i32 0) ∧ w.cell? ⟨1, 2, none⟩ = some (.int .i32 0) ∧ w.cell? ⟨1, 3, none⟩ = some (.int .i32 0) :=
  h.elim fun _ h => ⟨(blk_cell h 0).trans rfl, (blk_cell h 1).trans rfl, (blk_cell h 2).trans rfl, (blk_cell h 3).trans rfl⟩
/-- cell.factors is the array {73856093, 19349663}. -/
def GlobF (w : World) : Prop := ∃ t, w.heap[0]? = some (.cells #[.int .u32 73856093, .int .u32 19349663] t (0, 0))
theorem GlobF.below {w w' : World} (h : GlobF w) (hb : Below w.heap.size w w') : GlobF w' := h.elim fun t h => ⟨t, blk_below h hb⟩
theorem GlobF.cells {w : World} (h : GlobF w) : w.cell? ⟨0, 0, none⟩ = some (.int .u32 73856093) ∧ w.cell? ⟨0, 1, none⟩ = some (.int .u32 19349663) :=
  h.elim fun _ h => ⟨(blk_cell h 0).trans rfl, (blk_cell h 1).trans rfl⟩
end Go.Proofs.YticjhncpglcgnaaDoor.Q
