/- Points that differ by at most the width of a cell are in the same column or in neighbouring ones, and likewise for rows: for all points and differences. -/
import Derived.Test.YticjhncpglcgnaaDoorQCellNeighbours
import Derived.Test.YticjhncpglcgnaaDoorMcell
namespace Go.Proofs.YticjhncpglcgnaaDoor.Pure
open Go.RowKit Go.Proofs.YticjhncpglcgnaaDoor.Q Go.Proofs.YticjhncpglcgnaaDoorW.PrintWords Go.Proofs.YticjhncpglcgnaaDoorW.PrintLast
theorem CellNeighbours : billiardlaw09_CellNeighbours.Pure := by
  intro p q dx dy hp hq hx hy
  have hp := wf_i32 hp
  have hq := wf_i32 hq
  have hx := wf_i32 hx
  have hy := wf_i32 hy
  refine ⟨300 + 1, ?_⟩
  have aw : billiardlaw09_awake.f 300 = some true := awake_k 0
  have out : billiardlaw09_CellNeighbours.j0 (300 + 1) dx dy true p q = some true := by
    simp only [billiardlaw09_CellNeighbours.j0]
    rw [if_pos trivial, aw]
    rfl
  unfold billiardlaw09_CellNeighbours.f
  rw [awake_k 1, Option.bind_some, if_pos rfl]
  by_cases c1 : dx < 0
  · rw [if_pos c1]; exact out
  rw [if_neg c1]
  by_cases c2 : dx > 4194304
  · rw [if_pos c2]; exact out
  rw [if_neg c2]
  by_cases c3 : dy < 0
  · rw [if_pos c3]; exact out
  rw [if_neg c3]
  by_cases c4 : dy > 4194304
  · rw [if_pos c4]; exact out
  rw [if_neg c4]
  by_cases c5 : p > 2143289343
  · rw [if_pos c5]; exact out
  rw [if_neg c5]
  by_cases c6 : q > 2143289343
  · rw [decide_eq_true c6]; exact out
  rw [decide_eq_false c6]
  simp only [billiardlaw09_CellNeighbours.j0, Bool.false_eq_true, if_false, cell_Of.f, Option.bind_some]
  rw [w32_id (n := p + dx) (by omega) (by omega), w32_id (n := q + dy) (by omega) (by omega), w32_id (n := p / 4194304 + 1) (by omega) (by omega), w32_id (n := q / 4194304 + 1) (by omega) (by omega)]
  rw [if_pos (by omega), if_pos (by omega), if_pos (by omega), decide_eq_true (by omega)]
end Go.Proofs.YticjhncpglcgnaaDoor.Pure
