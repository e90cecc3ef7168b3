/- The shifts' arguments are as they were. -/
import Derived.Test.YtplmeknmeobanaaQCorrectKeeps
import Derived.Test.YtplmeknmeobanaaMcorrs
namespace Go.Proofs.Ytplmeknmeobanaa.Pure
open Go.RowKit Go.Proofs.Ytplmeknmeobanaa.Q Go.Proofs.YtplmeknmeobanaaW.PrintWords Go.Proofs.YtplmeknmeobanaaW.PrintLast Go.Proofs.YtplmeknmeobanaaW.PrintMore
set_option linter.unusedVariables false
theorem same06_l0 (v : List Bd) (hv : v.length ≤ 40) : ∀ (d k i : Nat), v.length - i = d → i ≤ v.length → d < k → billiardref06_Same.l0 k v v (i : Int) = some true := fun d => by
  induction d with
  | zero =>
    intro k i hd hi hk
    obtain ⟨k, rfl⟩ : ∃ j, k = j + 1 := ⟨k - 1, by omega⟩
    rw [billiardref06_Same.l0, if_neg (by omega)]
  | succ d ih =>
    intro k i hd hi hk
    obtain ⟨k, rfl⟩ : ∃ j, k = j + 1 := ⟨k - 1, by omega⟩
    have hlt : i < v.length := by omega
    rw [billiardref06_Same.l0, if_pos (by omega), if_pos (by omega), if_pos (by omega), if_neg (by simp), step_ix hlt (by omega)]
    exact ih k (i + 1) (by omega) (by omega) (by omega)
theorem keeps_l0 (v : List Bd) (hv : v.length ≤ 40) (l : List Ct) (hl : l.length ≤ 100) : ∀ (d k i : Nat), l.length - i = d → i ≤ l.length → d + 60 < k → billiardlaw18_CorrectKeeps.l0 k l v v l (i : Int) = some true := fun d => by
  induction d with
  | zero =>
    intro k i hd hi hk
    obtain ⟨k, rfl⟩ : ∃ j, k = j + 1 := ⟨k - 1, by omega⟩
    rw [billiardlaw18_CorrectKeeps.l0, if_neg (by omega)]
    unfold billiardref06_Same.f
    rw [if_pos rfl, show billiardref06_Same.l0 k v v 0 = _ from same06_l0 v hv v.length k 0 (by omega) (by omega) (by omega)]
    rfl
  | succ d ih =>
    intro k i hd hi hk
    obtain ⟨k, rfl⟩ : ∃ j, k = j + 1 := ⟨k - 1, by omega⟩
    have hlt : i < l.length := by omega
    rw [billiardlaw18_CorrectKeeps.l0, if_pos (by omega), if_pos (by omega), if_pos (by omega), if_neg (by simp), step_ix hlt (by omega)]
    exact ih k (i + 1) (by omega) (by omega) (by omega)
theorem CorrectKeeps : billiardlaw18_CorrectKeeps.Pure := by
  intro l0 l1 h0 h1
  obtain ⟨v, ok, hV, hv⟩ := view_is l0 h0
  obtain ⟨b, hR, hG⟩ := right18_is v hv.len l1
  have hend : ∀ k, billiardlaw18_CorrectKeeps.j0 (k + 1 + 12) l1 v true = some true := fun k => by
    rw [billiardlaw18_CorrectKeeps.j0, if_pos rfl, awake18 _ (by omega)]
    rfl
  refine ⟨987 + 1 + 12, ?_⟩
  unfold billiardlaw18_CorrectKeeps.f
  rw [hV _ (by omega)]
  simp only [Option.bind_some]
  rw [awake18 _ (by omega)]
  simp only [Option.bind_some]
  rw [if_pos trivial]
  by_cases hok : ok = true
  rotate_left
  · rw [if_neg hok]
    exact hend 987
  rw [if_pos hok, hR _ (by omega)]
  simp only [Option.bind_some]
  cases b
  · exact hend 987
  obtain ⟨hl, hg⟩ := hG rfl
  obtain ⟨ys, e, _, _⟩ := shifts_is hv l1 hg (by omega)
  have hvl := hv.len
  rw [billiardlaw18_CorrectKeeps.j0, if_neg (by decide)]
  simp only [Option.bind_some, List.length_nil, List.nil_append]
  rw [if_pos (by omega)]
  rw [if_pos (by omega)]
  rw [e]
  exact keeps_l0 v hv.len l1 hl l1.length _ 0 (by omega) (by omega) (by omega)
end Go.Proofs.Ytplmeknmeobanaa.Pure
