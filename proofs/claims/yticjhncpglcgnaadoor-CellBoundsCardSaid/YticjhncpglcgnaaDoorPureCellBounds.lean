/- The bounds of the cell of a point contain it, and a point is in the bounds exactly if its cell is this one; the bucket is from 0 to 1023: for all points. -/
import Derived.Test.YticjhncpglcgnaaDoorQCellBounds
import Derived.Test.YticjhncpglcgnaaDoorMcell
namespace Go.Proofs.YticjhncpglcgnaaDoor.Pure
open Go.RowKit Go.Proofs.YticjhncpglcgnaaDoor.Q Go.Proofs.YticjhncpglcgnaaDoorW.PrintWords Go.Proofs.YticjhncpglcgnaaDoorW.PrintLast
theorem CellBounds : billiardlaw09_CellBounds.Pure := by
  intro p q s t hp hq hs ht
  have hp := wf_i32 hp
  have hq := wf_i32 hq
  have hs := wf_i32 hs
  have ht := wf_i32 ht
  refine ⟨300 + 0, ?_⟩
  unfold billiardlaw09_CellBounds.f
  rw [awake_k 0, Option.bind_some, if_pos rfl]
  simp only [cell_Of.f, cell_Bounds.f, Option.bind_some, box_Contains.is, cell_Bucket.is]
  rw [w32_id (n := p / 4194304 * 4194304) (by omega) (by omega), w32_id (n := q / 4194304 * 4194304) (by omega) (by omega), w32_id (n := p / 4194304 * 4194304 + 4194303) (by omega) (by omega), w32_id (n := q / 4194304 * 4194304 + 4194303) (by omega) (by omega)]
  rw [if_pos (inB_iff.mpr (by omega))]
  have e : inB (p / 4194304 * 4194304) (q / 4194304 * 4194304) (p / 4194304 * 4194304 + 4194303) (q / 4194304 * 4194304 + 4194303) s t = (s / 4194304 == p / 4194304 && (t / 4194304 == q / 4194304)) := by
    rw [Bool.eq_iff_iff, inB_iff, Bool.and_eq_true, beq_iff_eq, beq_iff_eq]
    omega
  rw [e, if_pos (beq_self_eq_true _)]
  generalize (fac (p / 4194304) (q / 4194304)).1 ^^^ (fac (p / 4194304) (q / 4194304)).2 = n
  rw [if_pos (by omega), decide_eq_true (by omega)]
end Go.Proofs.YticjhncpglcgnaaDoor.Pure
