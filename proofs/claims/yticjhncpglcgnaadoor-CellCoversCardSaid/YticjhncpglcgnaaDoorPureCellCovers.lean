/- The cell of a point of a box is among the cells of the box, and each cell of a box overlaps it: for all boxes and points. -/
import Derived.Test.YticjhncpglcgnaaDoorQCellCovers
import Derived.Test.YticjhncpglcgnaaDoorMcell
namespace Go.Proofs.YticjhncpglcgnaaDoor.Pure
open Go.RowKit Go.Proofs.YticjhncpglcgnaaDoor.Q Go.Proofs.YticjhncpglcgnaaDoorW.PrintWords Go.Proofs.YticjhncpglcgnaaDoorW.PrintLast
theorem covers_loop (L : List C29) (hL : L.length ≤ 10000000) (a b c d p q : Int) (hO : ∀ z ∈ L, ∃ x : Int × Int × Int × Int, cell_Bounds.f z.f0 z.f1 = some x ∧ box_Overlap.f a b c d x.1 x.2.1 x.2.2.1 x.2.2.2 = some true) (u v : Int) (hq : cell_Of.f p q = some (u, v)) (hI : inB a b c d p q = true → (⟨u, v⟩ : C29) ∈ L) (d' : Nat) :
    ∀ (i : Nat) (f : Bool), i + d' = L.length → (f = false → ∀ j (h : j < L.length), j < i → L[j] ≠ ⟨u, v⟩) → ∀ k, billiardlaw09_CellCovers.l0 (k + 2 * d' + 1) L f (i : Int) a b c d p q a b c d = some true := by
  induction d' with
  | zero =>
    intro i f hi hf k
    simp only [billiardlaw09_CellCovers.l0]
    rw [if_neg (by omega)]
    cases f
    · rw [if_neg (by decide), billiardref08_Contains.is, Option.bind_some]
      cases hh : inB a b c d p q
      · rfl
      · obtain ⟨j, hj, e⟩ := List.getElem_of_mem (hI hh)
        exact absurd e (hf rfl j hj (by omega))
    · rw [if_pos rfl]
  | succ d' ih =>
    intro i f hi hf k
    have hlt : i < L.length := by omega
    have step : ∀ g : Bool, (g = false → ∀ j (h : j < L.length), j < i + 1 → L[j] ≠ ⟨u, v⟩) → billiardlaw09_CellCovers.j2 (k + 2 * d' + 1 + 1) L g (i : Int) a b c d p q a b c d = some true := fun g hg => by
      obtain ⟨x, hx, ho⟩ := hO _ (List.getElem_mem hlt)
      simp only [billiardlaw09_CellCovers.j2]
      rw [if_pos (by omega), if_pos (by omega), rd_of_lt hlt, hx, Option.bind_some, ho, Option.bind_some, if_pos rfl, w64_id (by omega) (by omega)]
      exact ih (i + 1) g (by omega) hg k
    rw [show k + 2 * (d' + 1) + 1 = k + 2 * d' + 1 + 1 + 1 by omega]
    simp only [billiardlaw09_CellCovers.l0]
    rw [if_pos (by omega)]
    cases f
    · rw [if_neg (by decide), if_pos (by omega), hq, Option.bind_some, rd_of_lt hlt]
      refine step _ (fun hg j hj hji e => ?_)
      rcases Nat.lt_or_ge j i with h | h
      · exact hf rfl j hj h e
      · obtain rfl : j = i := by omega
        have : (L[j].f0 == u && (L[j].f1 == v)) = true := (c29_ext (x := L[j]) (y := ⟨u, v⟩)).mpr e
        rw [this] at hg
        cases hg
    · rw [if_pos rfl]
      exact step true (fun h => by cases h)
theorem CellCovers : billiardlaw09_CellCovers.Pure := by
  intro a b c d p q ha hb hc hd hp hq
  have ha := wf_i32 ha
  have hb := wf_i32 hb
  have hc := wf_i32 hc
  have hd := wf_i32 hd
  have hp := wf_i32 hp
  have hq := wf_i32 hq
  obtain ⟨n, hn⟩ : ∃ n, billiardref09_Count.f a b c d = some n := by
    unfold billiardref09_Count.f
    rw [billiardref08_Empty.is, Option.bind_some, Column.is ha, Column.is hb, Column.is hc, Column.is hd]
    split
    · exact ⟨_, rfl⟩
    · exact ⟨_, rfl⟩
  obtain ⟨L, hL⟩ : ∃ L, (if emptyB a b c d = true then [] else boxC a b c d) = L := ⟨_, rfl⟩
  have hlen : L.length ≤ 10000000 := by
    rw [← hL]
    split
    · simp
    · rw [boxC_len]
      have := Nat.mul_le_mul (show (d / 4194304 + 1 - b / 4194304).toNat ≤ 2048 by omega) (show (c / 4194304 + 1 - a / 4194304).toNat ≤ 2048 by omega)
      omega
  refine ⟨300 + (2 * L.length + 1) + 1, ?_⟩
  have aw : billiardlaw09_awake.f (300 + (2 * L.length + 1)) = some true := awake_k _
  unfold billiardlaw09_CellCovers.f
  rw [show 300 + (2 * L.length + 1) + 1 = 300 + (2 * L.length + 2) by omega, awake_k, Option.bind_some, if_pos rfl, hn, Option.bind_some]
  rw [show 300 + (2 * L.length + 2) = 300 + (2 * L.length + 1) + 1 by omega]
  simp only [billiardlaw09_CellCovers.j0]
  split
  · rw [aw]; rfl
  rw [cell_All.is ha hb hc hd, hL, Option.bind_some, show 300 + (2 * L.length + 1) = 300 + 2 * L.length + 1 by omega]
  refine covers_loop L hlen a b c d p q (fun z hz => ?_) (p / 4194304) (q / 4194304) rfl (fun hI => ?_) L.length 0 false (by omega) (fun _ _ _ h => absurd h (by omega)) 300
  · rw [← hL] at hz
    split at hz
    · cases hz
    · rename_i hE
      have hE := emptyB_no.mp (Bool.eq_false_iff.mpr hE)
      have hz := (mem_boxC hE.1 hE.2).mp hz
      refine ⟨_, rfl, ?_⟩
      dsimp only
      rw [box_Overlap.is, w32_id (n := z.f0 * 4194304) (by omega) (by omega), w32_id (n := z.f1 * 4194304) (by omega) (by omega), w32_id (n := z.f0 * 4194304 + 4194303) (by omega) (by omega), w32_id (n := z.f1 * 4194304 + 4194303) (by omega) (by omega)]
      exact congrArg some (overB_iff.mpr (by omega))
  · have hI := inB_iff.mp hI
    have hE : emptyB a b c d = false := emptyB_no.mpr (by omega)
    rw [← hL, hE, if_neg (by decide)]
    exact (mem_boxC (by omega) (by omega)).mpr (by simp only; omega)
end Go.Proofs.YticjhncpglcgnaaDoor.Pure
