/- The corrections, the shares and the shifts are the reference's. -/
import Derived.Test.YtplmeknmeobanaaQCorrectMatchesReference
import Derived.Test.YtplmeknmeobanaaMcorrsum
namespace Go.Proofs.Ytplmeknmeobanaa.Pure
open Go.RowKit Go.Proofs.Ytplmeknmeobanaa.Q Go.Proofs.YtplmeknmeobanaaW.PrintWords Go.Proofs.YtplmeknmeobanaaW.PrintLast Go.Proofs.YtplmeknmeobanaaW.PrintMore
set_option linter.unusedVariables false
theorem match_l0 {v : List Bd} (hv : Vw 40 v) (l : List Ct) (hl : ∀ c ∈ l, G18 v c) (hn : l.length ≤ 100) : ∀ (d n j : Nat), l.length - j = d → j ≤ l.length → 9001 + d ≤ n → billiardlaw18_CorrectMatchesReference.l0 n l v (j : Int) = some true := fun d => by
  have hvl := hv.len
  induction d with
  | zero =>
    intro n j hd hj hn2
    obtain ⟨m, rfl⟩ : ∃ m, n = m + 1 := ⟨n - 1, by omega⟩
    obtain ⟨x, ex, lx, fx⟩ := shifts_is hv l hl (by omega)
    have exy : x.map toR = v.map fun b => (⟨movedL v l b.f0 false, movedL v l b.f0 true⟩ : Rs18) := by
      apply List.ext_getElem (by simp [lx])
      intro t p q
      rw [List.getElem_map, List.getElem_map]
      rw [List.length_map] at p q
      have g := fx t q
      rw [getD_at p] at g
      unfold toR
      rw [g.1, g.2]
    rw [billiardlaw18_CorrectMatchesReference.l0, if_neg (by omega), ex]
    simp only [Option.bind_some]
    rw [toR_is x (by omega) (by omega)]
    simp only [Option.bind_some]
    rw [refShifts_is hv l hl hn (by omega)]
    simp only [Option.bind_some]
    rw [exy, same18_is _ (by rw [List.length_map]; omega) (by rw [List.length_map]; omega)]
    rfl
  | succ d ih =>
    intro n j hd hj hn2
    obtain ⟨m, rfl⟩ : ∃ m, n = m + 1 := ⟨n - 1, by omega⟩
    have hlt : j < l.length := by omega
    have hc := hl _ (List.getElem_mem hlt)
    obtain ⟨p, q, hp, hq, kp, kq, hpq, ap, aq, xp, xq⟩ := two_of hv hc.g
    have va := (hv.good _ (List.getElem_mem hp)).1
    have vb := (hv.good _ (List.getElem_mem hq)).1
    have ma := va.m
    have mb := vb.m
    have f0 : billiardref06_Find.f m v l[j].f0.f0 = some (p : Int) := by rw [find_is v _ (by omega) (by omega), xp]
    have f1 : billiardref06_Find.f m v l[j].f0.f1 = some (q : Int) := by rw [find_is v _ (by omega) (by omega), xq]
    have e0 : amountF l[j] v[p] v[q] = _ := amount_is hc.depth v[p] v[q]
    have e1 : rAmountF l[j] v[p] v[q] = _ := rAmount_is hc.depth va vb
    have e2 : shareF l[j] v[p] v[q] false = _ := share_is hc.depth va vb false
    have e3 : rShareF l[j] v[p] v[q] v[p].f3 = _ := rShare_is hc.depth va vb ma.1 (by omega)
    have e4 : shareF l[j] v[p] v[q] true = _ := share_is hc.depth va vb true
    have e5 : rShareF l[j] v[p] v[q] v[q].f3 = _ := rShare_is hc.depth va vb mb.1 (by omega)
    unfold amountF at e0
    unfold rAmountF at e1
    unfold shareF at e2 e4
    unfold rShareF at e3 e5
    rw [if_neg (by decide)] at e2
    rw [if_pos rfl] at e4
    rw [billiardlaw18_CorrectMatchesReference.l0, if_pos (by omega), if_pos (by omega), rdC hlt, f0]
    simp only [Option.bind_some]
    rw [if_pos (by omega), if_pos (by omega), f1]
    simp only [Option.bind_some]
    rw [if_pos (by omega), if_pos (by omega), rdB hp, rdB hq, e0]
    simp only [Option.bind_some]
    rw [e1]
    simp only [Option.bind_some]
    rw [if_pos trivial, e2]
    simp only [Option.bind_some]
    rw [e3]
    simp only [Option.bind_some]
    rw [if_pos trivial, e4]
    simp only [Option.bind_some]
    rw [e5]
    simp only [Option.bind_some]
    rw [if_pos trivial, step_ix hlt (by omega)]
    exact ih m (j + 1) (by omega) (by omega) (by omega)
theorem CorrectMatchesReference : billiardlaw18_CorrectMatchesReference.Pure := by
  intro l0 l1 h0 h1
  obtain ⟨v, ok, hV, hv⟩ := view_is l0 h0
  obtain ⟨b, hR, hG⟩ := right18_is v hv.len l1
  have hend : ∀ k, billiardlaw18_CorrectMatchesReference.j0 (k + 1 + 12) l1 v true = some true := fun k => by
    rw [billiardlaw18_CorrectMatchesReference.j0, if_pos rfl, awake18 _ (by omega)]
    rfl
  refine ⟨9987 + 1 + 12, ?_⟩
  unfold billiardlaw18_CorrectMatchesReference.f
  rw [hV _ (by omega)]
  simp only [Option.bind_some]
  rw [awake18 _ (by omega)]
  simp only [Option.bind_some]
  rw [if_pos trivial]
  by_cases hok : ok = true
  rotate_left
  · rw [if_neg hok]
    exact hend 9987
  rw [if_pos hok, hR _ (by omega)]
  simp only [Option.bind_some]
  cases b
  · exact hend 9987
  obtain ⟨hl, hg⟩ := hG rfl
  rw [billiardlaw18_CorrectMatchesReference.j0, if_neg (by decide)]
  exact match_l0 hv l1 hg hl l1.length _ 0 (by omega) (by omega) (by omega)
end Go.Proofs.Ytplmeknmeobanaa.Pure
