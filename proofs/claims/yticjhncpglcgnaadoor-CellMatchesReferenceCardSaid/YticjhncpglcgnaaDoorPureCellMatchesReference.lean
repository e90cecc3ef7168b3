/- Cells, spans, lists of cells and buckets are those of the reference: for all points, boxes and cells. -/
import Derived.Test.YticjhncpglcgnaaDoorQCellMatchesReference
import Derived.Test.YticjhncpglcgnaaDoorMcell
namespace Go.Proofs.YticjhncpglcgnaaDoor.Pure
open Go.RowKit Go.Proofs.YticjhncpglcgnaaDoor.Q Go.Proofs.YticjhncpglcgnaaDoorW.PrintWords Go.Proofs.YticjhncpglcgnaaDoorW.PrintLast
def cv (x : C29) : C26 := ⟨x.f0, x.f1⟩
theorem ref_row (a b c d : Int) (ha : -2147483648 ≤ a ∧ a ≤ 2147483647) (hb : -2147483648 ≤ b ∧ b ≤ 2147483647) (hc : -2147483648 ≤ c ∧ c ≤ 2147483647) (hd : -2147483648 ≤ d ∧ d ≤ 2147483647) (lx ly : Int) (nx ny : Nat) (hlx : lx = a / 4194304) (hnx : lx + nx = c / 4194304 + 1) (hly : ly = b / 4194304) (hny : ly + ny = d / 4194304 + 1) (m : Nat) (hm : m < ny) (K : Nat) (e : Nat) : ∀ i : Nat, i + e = nx →
    billiardref09_All.l1 (K + e + 1) ((cellsC lx ly nx m ++ rowC lx (ly + m) i).map cv) (ly + m) (lx + i) a b c d = billiardref09_All.l0 K ((cellsC lx ly nx (m + 1)).map cv) (ly + ((m + 1 : Nat) : Int)) a b c d := by
  induction e with
  | zero =>
    intro i hi
    obtain rfl : i = nx := by omega
    rw [cellsC_succ]
    simp only [billiardref09_All.l1]
    rw [Column.is hc, Option.bind_some, if_neg (by omega), w32_id (by omega) (by omega)]
    congr 1
    omega
  | succ e ih =>
    intro i hi
    have st : ∀ n, billiardref09_All.l1 (n + 1) ((cellsC lx ly nx m ++ rowC lx (ly + m) i).map cv) (ly + m) (lx + i) a b c d = billiardref09_All.l1 n ((cellsC lx ly nx m ++ rowC lx (ly + m) (i + 1)).map cv) (ly + m) (lx + ((i + 1 : Nat) : Int)) a b c d := fun n => by
      have hlen : ((cellsC lx ly nx m ++ rowC lx (ly + m) i).map cv).length < 17592186044416 := by
        rw [List.length_map, List.length_append, cellsC_len, rowC_len]
        have := Nat.mul_le_mul (show m ≤ 2048 by omega) (show nx ≤ 2048 by omega)
        omega
      simp only [billiardref09_All.l1]
      rw [Column.is hc, Option.bind_some, if_pos (by omega), if_pos hlen, w32_id (by omega) (by omega), rowC_succ]
      have e1 : lx + (i : Int) + 1 = lx + ((i + 1 : Nat) : Int) := by omega
      rw [e1]
      simp only [List.map_append, List.map_cons, List.map_nil, List.append_assoc, cv]
    rw [show K + (e + 1) + 1 = K + e + 1 + 1 by omega, st]
    exact ih (i + 1) (by omega)
theorem ref_rows (a b c d : Int) (ha : -2147483648 ≤ a ∧ a ≤ 2147483647) (hb : -2147483648 ≤ b ∧ b ≤ 2147483647) (hc : -2147483648 ≤ c ∧ c ≤ 2147483647) (hd : -2147483648 ≤ d ∧ d ≤ 2147483647) (lx ly : Int) (nx ny : Nat) (hlx : lx = a / 4194304) (hnx : lx + nx = c / 4194304 + 1) (hly : ly = b / 4194304) (hny : ly + ny = d / 4194304 + 1) (e : Nat) : ∀ m : Nat, m + e = ny → ∀ K,
    billiardref09_All.l0 (K + e * (nx + 2) + 1) ((cellsC lx ly nx m).map cv) (ly + m) a b c d = some ((cellsC lx ly nx ny).map cv) := by
  induction e with
  | zero =>
    intro m hm K
    obtain rfl : m = ny := by omega
    simp only [billiardref09_All.l0]
    rw [Column.is hd, Option.bind_some, if_neg (by omega)]
  | succ e ih =>
    intro m hm K
    have st : ∀ n, billiardref09_All.l0 (n + 1) ((cellsC lx ly nx m).map cv) (ly + m) a b c d = billiardref09_All.l1 n ((cellsC lx ly nx m).map cv) (ly + m) lx a b c d := fun n => by
      simp only [billiardref09_All.l0]
      rw [Column.is hd, Option.bind_some, if_pos (by omega), Column.is ha, Option.bind_some, ← hlx]
    have hr := ref_row a b c d ha hb hc hd lx ly nx ny hlx hnx hly hny m (by omega) (K + e * (nx + 2) + 1) nx 0 (by omega)
    have z : rowC lx (ly + m) 0 = [] := rfl
    rw [z, List.append_nil, show lx + ((0 : Nat) : Int) = lx by omega] at hr
    rw [show K + (e + 1) * (nx + 2) + 1 = (K + e * (nx + 2) + 1 + nx + 1) + 1 by rw [Nat.succ_mul]; omega, st, hr]
    exact ih (m + 1) (by omega) K
theorem ref_all {a b c d : Int} (ha : -2147483648 ≤ a ∧ a ≤ 2147483647) (hb : -2147483648 ≤ b ∧ b ≤ 2147483647) (hc : -2147483648 ≤ c ∧ c ≤ 2147483647) (hd : -2147483648 ≤ d ∧ d ≤ 2147483647) :
    ∃ k, billiardref09_All.f k a b c d = some ((if emptyB a b c d = true then [] else boxC a b c d).map cv) := by
  by_cases h : emptyB a b c d = true
  · refine ⟨0, ?_⟩
    unfold billiardref09_All.f
    rw [billiardref08_Empty.is, Option.bind_some, if_pos h, if_pos h]
    rfl
  · have h2 := emptyB_no.mp (Bool.eq_false_iff.mpr h)
    refine ⟨0 + (d / 4194304 + 1 - b / 4194304).toNat * ((c / 4194304 + 1 - a / 4194304).toNat + 2) + 1, ?_⟩
    have := ref_rows a b c d ha hb hc hd (a / 4194304) (b / 4194304) (c / 4194304 + 1 - a / 4194304).toNat (d / 4194304 + 1 - b / 4194304).toNat rfl (by omega) rfl (by omega) (d / 4194304 + 1 - b / 4194304).toNat 0 (by omega) 0
    rw [show b / 4194304 + ((0 : Nat) : Int) = b / 4194304 by omega] at this
    unfold billiardref09_All.f
    rw [billiardref08_Empty.is, Option.bind_some, if_neg h, if_neg h, Column.is hb, Option.bind_some]
    exact this
theorem rd26 {xs : List C26} {i : Nat} (h : i < xs.length) : rd_T26 xs (i : Int) = xs[i] := by
  unfold rd_T26
  simp [List.getD, h]
theorem same_loop (L : List C29) (hL : L.length ≤ 10000000) (d : Nat) : ∀ i : Nat, i + d = L.length → ∀ k, billiardlaw09_same.l0 (k + d + 1) L (L.map cv) (i : Int) = some true := by
  induction d with
  | zero =>
    intro i hi k
    simp only [billiardlaw09_same.l0]
    rw [if_neg (by omega)]
  | succ d ih =>
    intro i hi k
    have hlt : i < L.length := by omega
    have st : ∀ n, billiardlaw09_same.l0 (n + 1) L (L.map cv) (i : Int) = billiardlaw09_same.l0 n L (L.map cv) ((i + 1 : Nat) : Int) := fun n => by
      simp only [billiardlaw09_same.l0]
      rw [if_pos (by omega), if_pos (by omega), if_pos (by rw [List.length_map]; omega), rd_of_lt hlt, rd26 (by rw [List.length_map]; exact hlt), List.getElem_map, w64_id (by omega) (by omega)]
      simp only [cv, beq_self_eq_true, Bool.not_true, Bool.or_self, Bool.false_eq_true, if_false]
      rfl
    rw [show k + (d + 1) + 1 = k + d + 1 + 1 by omega, st]
    exact ih (i + 1) (by omega) k
theorem same_map (L : List C29) (hL : L.length ≤ 10000000) : ∃ k, billiardlaw09_same.f k L (L.map cv) = some true := by
  refine ⟨0 + L.length + 1, ?_⟩
  unfold billiardlaw09_same.f
  rw [if_pos (by rw [List.length_map])]
  exact same_loop L hL L.length 0 (by omega) 0
theorem CellMatchesReference : billiardlaw09_CellMatchesReference.Pure := by
  intro p q a b c d u v hp hq ha hb hc hd hu hv
  have hp := wf_i32 hp
  have hq := wf_i32 hq
  have ha := wf_i32 ha
  have hb := wf_i32 hb
  have hc := wf_i32 hc
  have hd := wf_i32 hd
  obtain ⟨L, hL⟩ : ∃ L, (if emptyB a b c d = true then [] else boxC a b c d) = L := ⟨_, rfl⟩
  have hlen : L.length ≤ 10000000 := by
    rw [← hL]
    split
    · simp
    · rw [boxC_len]
      have := Nat.mul_le_mul (show (d / 4194304 + 1 - b / 4194304).toNat ≤ 2048 by omega) (show (c / 4194304 + 1 - a / 4194304).toNat ≤ 2048 by omega)
      omega
  obtain ⟨k1, e1⟩ := ref_all ha hb hc hd
  obtain ⟨k2, e2⟩ := same_map L hlen
  rw [hL] at e1
  obtain ⟨n, hn⟩ : ∃ n, billiardref09_Count.f a b c d = some n := by
    unfold billiardref09_Count.f
    rw [billiardref08_Empty.is, Option.bind_some, Column.is ha, Column.is hb, Column.is hc, Column.is hd]
    split
    · exact ⟨_, rfl⟩
    · exact ⟨_, rfl⟩
  have j2 : ∀ k, k1 ≤ k → k2 ≤ k → billiardlaw09_CellMatchesReference.j2 (k + 1) false a b c d a b c d = some true := fun k h1 h2 => by
    simp only [billiardlaw09_CellMatchesReference.j2, Bool.false_eq_true, if_false]
    rw [hn, Option.bind_some]
    split
    · rfl
    · rw [cell_All.is ha hb hc hd, hL, Option.bind_some, at_rounds (fun k => billiardref09_All.mono a b c d k) h1 e1, Option.bind_some, at_rounds (fun k => billiardlaw09_same.mono _ _ k) h2 e2]
      rfl
  have j0 : ∀ k, k1 ≤ k → k2 ≤ k → billiardlaw09_CellMatchesReference.j0 (k + 1 + 1 + 1) false a b c d = some true := fun k h1 h2 => by
    simp only [billiardlaw09_CellMatchesReference.j0, Bool.false_eq_true, if_false]
    rw [billiardref08_Empty.is]
    unfold cell_Span.f
    rw [box_Empty.is, Option.bind_some]
    cases hE : emptyB a b c d
    · rw [if_neg (by decide)]
      simp only [cell_Of.f, Option.bind_some, beq_iff_eq, Bool.true_eq_false, if_false, if_true, billiardlaw09_CellMatchesReference.j1, Bool.false_eq_true]
      rw [Column.is ha, Column.is hb, Column.is hc, Column.is hd]
      simp only [Option.bind_some, beq_self_eq_true, Bool.not_true, Bool.or_self, Bool.false_eq_true, if_false]
      exact j2 k h1 h2
    · rw [if_pos rfl]
      simp only [Option.bind_some, beq_iff_eq, Bool.false_eq_true, if_false, beq_self_eq_true, Bool.not_true, Bool.or_self, billiardlaw09_CellMatchesReference.j1]
      exact j2 k h1 h2
  obtain ⟨K, hK⟩ : ∃ K, K = k1 + k2 + 400 := ⟨_, rfl⟩
  refine ⟨K + 1 + 1 + 1, ?_⟩
  have aw : billiardlaw09_awake.f (K + 1 + 1 + 1) = some true := by
    rw [show K + 1 + 1 + 1 = 300 + (K - 297) by omega]; exact awake_k _
  have bk := billiardref09_Bucket.is u v (K - 30)
  rw [show K - 30 + 33 = K + 1 + 1 + 1 by omega] at bk
  unfold billiardlaw09_CellMatchesReference.f billiardref09_Of.f
  rw [aw, Option.bind_some, if_pos rfl, Column.is hp, Column.is hq, bk, cell_Bucket.is]
  simp only [cell_Of.f, Option.bind_some, beq_self_eq_true, Bool.not_true, Bool.or_self, Bool.false_eq_true, if_false, bne_self_eq_false]
  exact j0 K (by omega) (by omega)
end Go.Proofs.YticjhncpglcgnaaDoor.Pure
