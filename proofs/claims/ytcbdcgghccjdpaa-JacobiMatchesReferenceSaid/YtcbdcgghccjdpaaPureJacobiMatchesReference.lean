/- For all views and contacts, the sums, a round and solving have the results of the reference implementation. -/
import Derived.Test.YtcbdcgghccjdpaaQJacobiMatchesReference
import Derived.Test.YtcbdcgghccjdpaaMjacref
namespace Go.Proofs.Ytcbdcgghccjdpaa.Pure
open Go.RowKit Go.Proofs.Ytcbdcgghccjdpaa.Q Go.Proofs.YtcbdcgghccjdpaaW.PrintWords Go.Proofs.YtcbdcgghccjdpaaW.PrintLast Go.Proofs.YtcbdcgghccjdpaaW.PrintMore
set_option linter.unusedVariables false
theorem solV_len (l : List Cn) : ∀ (n : Nat) (w : List Bd) (f : Bool), (solV l n w f).1.length = w.length := fun n => by
  induction n with
  | zero => intro w f; rfl
  | succ n ih => intro w f; rw [solV, ih]; unfold rnd; rw [List.length_map]
theorem JacobiMatchesReference : billiardlaw17_JacobiMatchesReference.Pure := by
  intro l0 l1 h0 h1
  obtain ⟨v, ok, hV, hv⟩ := view_is l0 h0
  obtain ⟨b, hR, hG⟩ := jRight_is v hv.len l1
  have hvl := hv.len
  have hend : billiardlaw17_JacobiMatchesReference.j0 (998 + 1 + 1) l1 v true = some true := by
    rw [billiardlaw17_JacobiMatchesReference.j0, if_pos rfl, awake17 _ (by omega)]
    rfl
  refine ⟨998 + 1 + 1, ?_⟩
  unfold billiardlaw17_JacobiMatchesReference.f
  rw [hV _ (by omega)]
  simp only [Option.bind_some]
  rw [awake17 _ (by omega)]
  simp only [Option.bind_some]
  rw [if_pos trivial]
  by_cases hok : ok = true
  rotate_left
  · rw [if_neg hok]
    exact hend
  rw [if_pos hok, hR _ (by omega)]
  simp only [Option.bind_some]
  cases b
  · exact hend
  obtain ⟨hn, hl⟩ := hG rfl
  have hr : (rnd l1 v).length = v.length := by unfold rnd; rw [List.length_map]
  have hs := solV_len l1 4 v false
  rw [Bool.not_true, billiardlaw17_JacobiMatchesReference.j0, if_neg (by decide), jSums_eq hv l1 hl (by omega)]
  simp only [Option.bind_some]
  rw [jRound_is hv hl (by omega) (by omega)]
  simp only [Option.bind_some]
  rw [ref17_Round hv l1 hl hn (by omega)]
  simp only [Option.bind_some]
  rw [jSolve_is hv hl (by omega) (by omega)]
  simp only [Option.bind_some]
  rw [ref17_Solve hv hl hn (by omega)]
  simp only [Option.bind_some]
  rw [ref17_Sums hv l1 hl hn false (by omega)]
  simp only [Option.bind_some]
  rw [num17_is _ (by rw [List.length_map]; omega) (by rw [List.length_map]; omega)]
  simp only [Option.bind_some]
  rw [if_pos trivial, ref17_Sums hv l1 hl hn true (by omega)]
  simp only [Option.bind_some]
  rw [num17_is _ (by rw [List.length_map]; omega) (by rw [List.length_map]; omega)]
  simp only [Option.bind_some]
  rw [if_pos trivial, jSame_is _ (by omega) (by omega)]
  simp only [Option.bind_some]
  rw [if_pos trivial, if_pos (by simp), jSame_is _ (by omega) (by omega)]
  simp
end Go.Proofs.Ytcbdcgghccjdpaa.Pure
