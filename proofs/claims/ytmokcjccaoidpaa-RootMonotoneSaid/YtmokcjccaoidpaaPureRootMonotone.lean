/- Greater numbers do not have lesser roots, and neighbours have roots that differ by at most one. No condition. -/
import Derived.Test.YtmokcjccaoidpaaQRootMonotone
import Derived.Test.YtmokcjccaoidpaaMlaw03
namespace Go.Proofs.Ytmokcjccaoidpaa.Pure
open Go.RowKit Go.Proofs.Ytmokcjccaoidpaa.Q Go.Proofs.YtmokcjccaoidpaaW.PrintWords Go.Proofs.YtmokcjccaoidpaaW.PrintLast
set_option linter.unusedVariables false

theorem rm_j (n m : Int) (n0 : 0 ≤ n) (hnm : n ≤ m) (m1 : m ≤ 18446744073709551615) : billiardlaw03_RootMonotone.j0 34 n m = some true := by
  obtain ⟨r, hr⟩ := isRt_ex n n0 (by omega)
  obtain ⟨s, hs⟩ := isRt_ex m (by omega) m1
  simp only [billiardlaw03_RootMonotone.j0]
  rw [root_Isqrt.is hr n0 (by omega) 33 (by omega), root_Isqrt.is hs (by omega) m1 33 (by omega), root_Ceil.is hr n0 (by omega) 33 (by omega)]
  simp only [Option.bind_some]
  have hle := hr.le hs hnm
  by_cases c : n = 18446744073709551615
  · rw [if_pos c, decide_eq_true hle]
  · obtain ⟨t, ht⟩ := isRt_ex (n + 1) (by omega) (by omega)
    rw [if_neg c, u64_id (n := n + 1) (by omega) (by omega), root_Isqrt.is ht (by omega) (by omega) 33 (by omega)]
    simp only [Option.bind_some]
    have h1 := hr.le ht (by omega)
    have h2 : t ≤ r + 1 := by
      obtain ⟨g0, _, g2, g3⟩ := hr
      obtain ⟨f0, _, f2, f3⟩ := ht
      by_cases d : t ≤ r + 1
      · exact d
      · have := sq_mono (a := r + 2) (b := t) (by omega) (by omega)
        have e1 : (r + 1) * (r + 1) = r * r + 2 * r + 1 := by rw [Int.add_mul, Int.mul_add]; omega
        have e2 : (r + 2) * (r + 2) = r * r + 4 * r + 4 := by rw [Int.add_mul, Int.mul_add]; omega
        omega
    have hc : rtCeil n r ≥ r ∧ rtCeil n r ≤ r + 1 := by unfold rtCeil; split <;> omega
    have := hr.2.1
    rw [if_pos hle, if_pos hc.1, u64_id (n := r + 1) (by have := hr.1; omega) (by omega), if_pos hc.2]
    by_cases d : t = r
    · rw [if_pos d]
    · rw [if_neg d, show t = r + 1 by omega]
      simp

theorem RootMonotone : billiardlaw03_RootMonotone.Pure := by
  intro n m hn hm
  obtain ⟨n0, n1⟩ := wf_u64 hn
  obtain ⟨m0, m1⟩ := wf_u64 hm
  refine ⟨34, ?_⟩
  unfold billiardlaw03_RootMonotone.f
  rw [billiardlaw03_awake.yes 34 (by omega)]
  simp only [Option.bind_some, if_true]
  by_cases c : n > m
  · rw [if_pos c, rm_j m n m0 (by omega) n1]
  · rw [if_neg c, rm_j n m n0 (by omega) m1]

end Go.Proofs.Ytmokcjccaoidpaa.Pure
