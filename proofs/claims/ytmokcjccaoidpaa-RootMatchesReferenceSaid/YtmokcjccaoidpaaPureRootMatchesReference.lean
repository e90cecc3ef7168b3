/- For all numbers, the root functions return what the reference implementation returns. No condition. -/
import Derived.Test.YtmokcjccaoidpaaQRootMatchesReference
import Derived.Test.YtmokcjccaoidpaaMlaw03
namespace Go.Proofs.Ytmokcjccaoidpaa.Pure
open Go.RowKit Go.Proofs.Ytmokcjccaoidpaa.Q Go.Proofs.YtmokcjccaoidpaaW.PrintWords Go.Proofs.YtmokcjccaoidpaaW.PrintLast
set_option linter.unusedVariables false

theorem RootMatchesReference : billiardlaw03_RootMatchesReference.Pure := by
  intro n a hn ha
  obtain ⟨n0, n1⟩ := wf_u64 hn
  obtain ⟨a0, a1⟩ := wf_i32 ha
  refine ⟨34, ?_⟩
  obtain ⟨r, hr⟩ := isRt_ex n n0 n1
  have hj : billiardlaw03_RootMatchesReference.j0 34 n false = some true := by
    simp only [billiardlaw03_RootMatchesReference.j0]
    rw [root_Isqrt.is hr n0 n1 33 (by omega), billiardref03_Isqrt.is hr n0 n1 33 (by omega), root_Ceil.is hr n0 n1 33 (by omega), billiardref03_Ceil.is hr n0 n1 33 (by omega)]
    simp
  unfold billiardlaw03_RootMatchesReference.f
  rw [billiardlaw03_awake.yes 34 (by omega)]
  simp only [Option.bind_some, if_true]
  by_cases c : a < 0
  · rw [root_Sqrt.neg c]
    simp only [Option.bind_some]
    rw [if_pos c, if_pos trivial, if_pos trivial, if_neg (by omega), hj]
  · obtain ⟨s, hs⟩ := isRt_ex (a * 65536) (by omega) (by omega)
    rw [root_Sqrt.is (by omega) (by omega) hs 34 (by omega)]
    simp only [Option.bind_some]
    have w1 : IntKind.u64.wrap a = a := u64_id (by omega) (by omega)
    have w2 : IntKind.u64.wrap (a * 65536) = a * 65536 := u64_id (by omega) (by omega)
    have w3 : IntKind.u64.wrap s = s := u64_id hs.1 (by have := hs.2.1; omega)
    rw [if_neg c, if_pos (by omega), if_pos trivial, w1, w2, w3, billiardref03_Isqrt.is hs (by omega) (by omega) 34 (by omega)]
    simp only [Option.bind_some]
    rw [show (s != s) = false by simp, hj]

end Go.Proofs.Ytmokcjccaoidpaa.Pure
