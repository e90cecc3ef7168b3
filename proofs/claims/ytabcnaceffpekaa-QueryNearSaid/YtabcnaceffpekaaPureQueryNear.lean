/- With a greater distance, at least the same bodies are near; the bodies that a point is in are near with the distance 0. -/
import Derived.Test.YtabcnaceffpekaaQQueryNear
import Derived.Test.YtabcnaceffpekaaMquery
namespace Go.Proofs.Ytabcnaceffpekaa.Pure
open Go.RowKit Go.Proofs.Ytabcnaceffpekaa.Q Go.Proofs.YtabcnaceffpekaaW.PrintWords Go.Proofs.YtabcnaceffpekaaW.PrintLast Go.Proofs.YtabcnaceffpekaaW.PrintMore
set_option linter.unusedVariables false
theorem rdI {l : List Int} {i : Nat} (h : i < l.length) : rd l (i : Int) = l[i] := by
  unfold rd
  simp [List.getD, h]
theorem sub_next {x y : Int} {xs ys : List Int} (h : (x :: xs).Sublist (y :: ys)) (ne : y ≠ x) : (x :: xs).Sublist ys := by
  cases h with
  | cons _ h => exact h
  | cons_cons _ h => exact absurd rfl ne
theorem within_l0 (a b : List Int) (ha : a.length ≤ 1000) (hb : b.length ≤ 1000) : ∀ (d k i j : Nat), b.length - j = d → j ≤ b.length → i ≤ a.length → 2 * d + 2 ≤ k → (a.drop i).Sublist (b.drop j) → billiardlaw24_within.l0 k a b (i : Int) (j : Int) = some true := fun d => by
  induction d with
  | zero =>
    intro k i j hd hj hi hk hs
    obtain ⟨k, rfl⟩ : ∃ m, k = m + 1 + 1 := ⟨k - 2, by omega⟩
    rw [show b.drop j = [] from List.drop_eq_nil_of_le (by omega)] at hs
    have h0 : a.drop i = [] := List.sublist_nil.mp hs
    have h1 : i = a.length := by have := List.drop_eq_nil_iff.mp h0; omega
    rw [billiardlaw24_within.l0, if_neg (by omega), billiardlaw24_within.j1, if_neg (by decide), h1]
    simp
  | succ d ih =>
    intro k i j hd hj hi hk hs
    obtain ⟨k, rfl⟩ : ∃ m, k = m + 1 + 1 := ⟨k - 2, by omega⟩
    have hlt : j < b.length := by omega
    rw [billiardlaw24_within.l0, if_pos (by omega), billiardlaw24_within.j1]
    by_cases hi2 : i < a.length
    · rw [decide_eq_true (show (i : Int) < (a.length : Int) by omega), if_pos rfl, if_pos (by omega), if_pos (by omega), if_pos (by omega), if_pos (by omega), rdI hlt, rdI hi2]
      rw [List.drop_eq_getElem_cons hlt, List.drop_eq_getElem_cons hi2] at hs
      by_cases e : b[j] = a[i]
      · rw [if_pos e, step_ix hlt (by omega), step_ix hi2 (by omega)]
        rw [e] at hs
        exact ih k (i + 1) (j + 1) (by omega) (by omega) (by omega) (by omega) (List.cons_sublist_cons.mp hs)
      · rw [if_neg e, step_ix hlt (by omega)]
        refine ih k i (j + 1) (by omega) (by omega) hi (by omega) ?_
        rw [List.drop_eq_getElem_cons hi2]
        exact sub_next hs e
    · rw [decide_eq_false (show ¬ (i : Int) < (a.length : Int) by omega), if_neg (by decide), show i = a.length by omega]
      simp
theorem within_is (v : List Bd) (hv : v.length ≤ 40) (P Q : Bd → Bool) (h : ∀ b ∈ v, P b = true → Q b = true) {k : Nat} (hk : 200 ≤ k) : billiardlaw24_within.f k ((v.filter P).map (fun b => b.f0)) ((v.filter Q).map (fun b => b.f0)) = some true := by
  have hP := List.length_filter_le P v
  have hQ := List.length_filter_le Q v
  have hs : (v.filter P).Sublist (v.filter Q) := by
    have e : v.filter P = (v.filter Q).filter P := by
      rw [List.filter_filter]
      apply List.filter_congr
      intro x hx
      cases hp : P x
      · simp
      · simp [h x hx hp]
    rw [e]
    exact List.filter_sublist
  have := within_l0 ((v.filter P).map (fun b => b.f0)) ((v.filter Q).map (fun b => b.f0)) (by simp; omega) (by simp; omega) ((v.filter Q).map (fun b => b.f0)).length k 0 0 (by omega) (by omega) (by omega) (by simp; omega) (by simpa using hs.map (fun b => b.f0))
  exact this
theorem QueryNear : billiardlaw24_QueryNear.Pure := by
  intro l0 p0 p1 r s h0 w0 w1 w2 w3
  obtain ⟨v, ok, hV, hv⟩ := view_is l0 h0
  have hend : ∀ k, 200 ≤ k → billiardlaw24_QueryNear.j0 (k + 1) r s v true p0 p1 = some true := fun k hk => by
    rw [billiardlaw24_QueryNear.j0, if_pos rfl, awake24 _ hk]
    rfl
  refine ⟨998 + 1 + 1, ?_⟩
  unfold billiardlaw24_QueryNear.f
  rw [hV _ (by omega)]
  simp only [Option.bind_some]
  rw [awake24 _ (by omega)]
  simp only [Option.bind_some]
  rw [if_pos trivial]
  by_cases hok : ok = true
  rotate_left
  · rw [if_neg hok]
    exact hend 999 (by omega)
  rw [if_pos hok]
  rcases In_cases p0 p1 with ⟨e, hp0, hp1⟩ | e
  rotate_left
  · rw [e]
    exact hend 999 (by omega)
  rw [e]
  simp only [Option.bind_some]
  rw [if_pos trivial]
  by_cases hrs : r > s
  · rw [decide_eq_true hrs]
    exact hend 999 (by omega)
  have key : ∀ b ∈ v, (inQ p0 p1 b = true → dst p0 p1 b ≤ 0) ∧ (dst p0 p1 b ≤ -1 → inQ p0 p1 b = true) := fun b hb => by
    have hvb := (hv.good b hb).1
    obtain ⟨⟨n, hn, en⟩, _⟩ := dst_is hvb hp0 hp1
    have hr := hvb.r
    rw [en]
    unfold inQ
    rw [decide_eq_true_eq]
    have b0 := hn.1
    have b3 := hn.2.2.1
    have b4 := hn.2.2.2
    constructor
    · intro h
      by_cases c : n ≤ b.f1
      · omega
      · have := Int.mul_le_mul (show b.f1 + 1 ≤ n by omega) (show b.f1 + 1 ≤ n by omega) (by omega) (by omega)
        have e2 : (b.f1 + 1) * (b.f1 + 1) = b.f1 * b.f1 + 2 * b.f1 + 1 := by grind
        omega
    · intro h
      have := Int.mul_le_mul (show n + 1 ≤ b.f1 by omega) (show n + 1 ≤ b.f1 by omega) (by omega) (by omega)
      omega
  rw [decide_eq_false hrs, billiardlaw24_QueryNear.j0, if_neg (by decide), near_is hv hp0 hp1]
  simp only [Option.bind_some]
  rw [near_is hv hp0 hp1]
  simp only [Option.bind_some]
  rw [within_is v hv.len _ _ (fun b hb h => by simp only [decide_eq_true_eq] at h ⊢; omega) (by omega)]
  simp only [Option.bind_some]
  rw [if_pos trivial, at_is hv hp0 hp1]
  simp only [Option.bind_some]
  rw [near_is hv hp0 hp1]
  simp only [Option.bind_some]
  rw [within_is v hv.len _ _ (fun b hb h => by simp only [decide_eq_true_eq]; exact (key b hb).1 h) (by omega)]
  simp only [Option.bind_some]
  rw [if_pos trivial, near_is hv hp0 hp1]
  simp only [Option.bind_some]
  rw [within_is v hv.len _ _ (fun b hb h => by simp only [decide_eq_true_eq] at h; exact (key b hb).2 h) (by omega)]
  rfl
end Go.Proofs.Ytabcnaceffpekaa.Pure
