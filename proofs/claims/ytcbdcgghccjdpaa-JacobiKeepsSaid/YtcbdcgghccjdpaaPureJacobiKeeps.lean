/- Arguments are not modified, and modifying a result does not change later results. -/
import Derived.Test.YtcbdcgghccjdpaaQJacobiKeeps
import Derived.Test.YtcbdcgghccjdpaaMjac
namespace Go.Proofs.Ytcbdcgghccjdpaa.Pure
open Go.RowKit Go.Proofs.Ytcbdcgghccjdpaa.Q Go.Proofs.YtcbdcgghccjdpaaW.PrintWords Go.Proofs.YtcbdcgghccjdpaaW.PrintLast Go.Proofs.YtcbdcgghccjdpaaW.PrintMore
set_option linter.unusedVariables false
theorem keeps_l1 (v : List Bd) (hv : v.length ≤ 40) (l : List Cn) (hl : l.length ≤ 100) : ∀ (d k i : Nat), l.length - i = d → i ≤ l.length → d + 60 < k → billiardlaw17_JacobiKeeps.l1 k l v v l (i : Int) = some true := fun d => by
  induction d with
  | zero =>
    intro k i hd hi hk
    obtain ⟨k, rfl⟩ : ∃ j, k = j + 1 := ⟨k - 1, by omega⟩
    rw [billiardlaw17_JacobiKeeps.l1, if_neg (by omega), jSame_is v (by omega) (by omega)]
    rfl
  | succ d ih =>
    intro k i hd hi hk
    obtain ⟨k, rfl⟩ : ∃ j, k = j + 1 := ⟨k - 1, by omega⟩
    have hlt : i < l.length := by omega
    rw [billiardlaw17_JacobiKeeps.l1, if_pos (by omega), if_pos (by omega), if_pos (by omega), if_neg (by simp), step_ix hlt (by omega)]
    exact ih k (i + 1) (by omega) (by omega) (by omega)
theorem keeps_l0 (v : List Bd) (hv : v.length ≤ 40) (l : List Cn) (hl : l.length ≤ 100) : ∀ (d k i : Nat) (s : List Bd), s.length - i = d → i ≤ s.length → s.length ≤ 1000 → d + 200 < k → billiardlaw17_JacobiKeeps.l0 k l v v l s (i : Int) = some true := fun d => by
  induction d with
  | zero =>
    intro k i s hd hi hs hk
    obtain ⟨k, rfl⟩ : ∃ j, k = j + 1 := ⟨k - 1, by omega⟩
    rw [billiardlaw17_JacobiKeeps.l0, if_neg (by omega)]
    exact keeps_l1 v hv l hl l.length k 0 (by omega) (by omega) (by omega)
  | succ d ih =>
    intro k i s hd hi hs hk
    obtain ⟨k, rfl⟩ : ∃ j, k = j + 1 := ⟨k - 1, by omega⟩
    have hlt : i < s.length := by omega
    rw [billiardlaw17_JacobiKeeps.l0, if_pos (by omega), if_pos (by omega), step_ix hlt (by omega)]
    exact ih k (i + 1) _ (by rw [List.length_set]; omega) (by rw [List.length_set]; omega) (by rw [List.length_set]; omega) (by omega)
theorem JacobiKeeps : billiardlaw17_JacobiKeeps.Pure := by
  intro l0 l1 h0 h1
  obtain ⟨v, ok, hV, hv⟩ := view_is l0 h0
  obtain ⟨b, hR, hG⟩ := jRight_is v hv.len l1
  have hvl := hv.len
  have hend : billiardlaw17_JacobiKeeps.j0 (998 + 1 + 1) l1 v true = some true := by
    rw [billiardlaw17_JacobiKeeps.j0, if_pos rfl, awake17 _ (by omega)]
    rfl
  refine ⟨998 + 1 + 1, ?_⟩
  unfold billiardlaw17_JacobiKeeps.f
  rw [hV _ (by omega)]
  simp only [Option.bind_some]
  rw [awake17 _ (by omega)]
  simp only [Option.bind_some]
  rw [if_pos trivial]
  by_cases hok : ok = true
  rotate_left
  · rw [if_neg hok]
    exact hend
  rw [if_pos hok, hR _ (by omega)]
  simp only [Option.bind_some]
  cases b
  · exact hend
  obtain ⟨hn, hl⟩ := hG rfl
  have hsl : ∀ (n : Nat) (w : List Bd) (f : Bool), (solV l1 n w f).1.length = w.length := fun n => by
    induction n with
    | zero => intro w f; rfl
    | succ n ih => intro w f; rw [solV, ih]; unfold rnd; rw [List.length_map]
  rw [Bool.not_true, billiardlaw17_JacobiKeeps.j0, if_neg (by decide)]
  simp only [Option.bind_some, List.length_nil, List.nil_append]
  rw [if_pos (by omega)]
  rw [if_pos (by omega)]
  rw [jSolve_is hv hl (by omega) (by omega)]
  exact keeps_l0 v hvl l1 hn _ _ 0 _ rfl (by omega) (by rw [hsl]; omega) (by rw [hsl]; omega)
end Go.Proofs.Ytcbdcgghccjdpaa.Pure
