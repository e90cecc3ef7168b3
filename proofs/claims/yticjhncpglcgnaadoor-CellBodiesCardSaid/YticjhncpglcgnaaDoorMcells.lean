/- The cells of a rectangle of columns and rows, row by row: for cell.All and its reference. -/
import Derived.Test.YticjhncpglcgnaaDoorQ0
namespace Go.Proofs.YticjhncpglcgnaaDoor.Q
open Go.RowKit
/-- The first c cells of row y, from column lx on. -/
def rowC (lx y : Int) (c : Nat) : List S29 := (List.range c).map (fun i : Nat => (⟨lx + (i : Int), y⟩ : S29))
/-- The first m rows of nx cells, from row ly on. -/
def cellsC (lx ly : Int) (nx m : Nat) : List S29 := (List.range m).flatMap (fun j : Nat => rowC lx (ly + (j : Int)) nx)
theorem rowC_succ (lx y : Int) (c : Nat) : rowC lx y (c + 1) = rowC lx y c ++ [⟨lx + (c : Int), y⟩] := by simp [rowC, List.range_succ]
theorem rowC_len (lx y : Int) (c : Nat) : (rowC lx y c).length = c := by simp [rowC]
theorem cellsC_succ (lx ly : Int) (nx m : Nat) : cellsC lx ly nx (m + 1) = cellsC lx ly nx m ++ rowC lx (ly + (m : Int)) nx := by simp [cellsC, List.range_succ]
theorem cellsC_len (lx ly : Int) (nx : Nat) : ∀ m, (cellsC lx ly nx m).length = m * nx
  | 0 => by simp [cellsC]
  | m + 1 => by rw [cellsC_succ, List.length_append, cellsC_len lx ly nx m, rowC_len, Nat.succ_mul]
theorem cellsC_prefix (lx ly : Int) (nx : Nat) {c m n : Nat} (hc : c ≤ nx) (hm : m < n) : cellsC lx ly nx m ++ rowC lx (ly + (m : Int)) c <+: cellsC lx ly nx n := by
  have h1 : rowC lx (ly + (m : Int)) c <+: rowC lx (ly + (m : Int)) nx := by
    obtain ⟨d, rfl⟩ : ∃ d, nx = c + d := ⟨nx - c, by omega⟩
    induction d with
    | zero => exact List.prefix_refl _
    | succ d ih => exact (ih (by omega)).trans (by rw [← Nat.add_assoc, rowC_succ]; exact List.prefix_append _ _)
  have h2 : ∀ d, cellsC lx ly nx (m + 1) <+: cellsC lx ly nx (m + 1 + d) := fun d => by
    induction d with
    | zero => exact List.prefix_refl _
    | succ d ih => exact ih.trans (by rw [← Nat.add_assoc, cellsC_succ]; exact List.prefix_append _ _)
  obtain ⟨d, rfl⟩ : ∃ d, n = m + 1 + d := ⟨n - (m + 1), by omega⟩
  refine List.IsPrefix.trans ?_ (h2 d)
  rw [cellsC_succ]
  obtain ⟨t, ht⟩ := h1
  exact ⟨t, by rw [List.append_assoc, ht]⟩
/-- The values of a list of cells, one behind the other. -/
def flatC (xs : List S29) : List Value := xs.flatMap (fun x => [.int .i32 x.f0, .int .i32 x.f1])
theorem flatC_snoc (xs : List S29) (x : S29) : flatC (xs ++ [x]) = flatC xs ++ [.int .i32 x.f0, .int .i32 x.f1] := by simp [flatC]
end Go.Proofs.YticjhncpglcgnaaDoor.Q
