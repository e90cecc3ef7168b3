/- The order of the contacts does not matter. -/
import Derived.Test.YtcbdcgghccjdpaaQJacobiOrderFree
import Derived.Test.YtcbdcgghccjdpaaMjac
namespace Go.Proofs.Ytcbdcgghccjdpaa.Pure
open Go.RowKit Go.Proofs.Ytcbdcgghccjdpaa.Q Go.Proofs.YtcbdcgghccjdpaaW.PrintWords Go.Proofs.YtcbdcgghccjdpaaW.PrintLast Go.Proofs.YtcbdcgghccjdpaaW.PrintMore
set_option linter.unusedVariables false
/-- The contacts backwards from the k-th on. -/
def turnL (l : List Cn) (k : Nat) : List Cn := (l.take (k + 1)).reverse ++ (l.drop (k + 1)).reverse
theorem turnL_perm (l : List Cn) (k : Nat) : l.Perm (turnL l k) := by
  unfold turnL
  have h := ((l.take (k + 1)).reverse_perm.append (l.drop (k + 1)).reverse_perm).symm
  rwa [List.take_append_drop] at h
theorem turnL_len (l : List Cn) (k : Nat) : (turnL l k).length = l.length := (turnL_perm l k).length_eq.symm
theorem turnL_at (l : List Cn) {k i : Nat} (hk : k < l.length) (hi : i < l.length) : ∃ j, ∃ hj : j < l.length, (k + l.length - i) % l.length = j ∧ (turnL l k)[i]'(by rw [turnL_len]; exact hi) = l[j] := by
  by_cases c : i ≤ k
  · refine ⟨k - i, by omega, ?_, ?_⟩
    · rw [show k + l.length - i = k - i + l.length by omega, Nat.add_mod_right, Nat.mod_eq_of_lt (by omega)]
    · unfold turnL
      rw [List.getElem_append_left (by simp; omega), List.getElem_reverse, List.getElem_take]
      congr 1
      simp
      omega
  · refine ⟨k + l.length - i, by omega, Nat.mod_eq_of_lt (by omega), ?_⟩
    unfold turnL
    rw [List.getElem_append_right (by simp; omega), List.getElem_reverse, List.getElem_drop]
    congr 1
    simp
    omega
theorem turn_mod {q n i j : Nat} (hq : q < n) (hi : i < n) (hn : n ≤ 100) (h : (q + n - i) % n = j) : Int.tmod (wrap64 ((wrap64 ((q : Int) + (n : Int))) - (i : Int))) (n : Int) = (j : Int) := by
  subst h
  have e0 : ((q + n - i : Nat) : Int) = (q : Int) + (n : Int) - (i : Int) := by omega
  have e1 : wrap64 ((q : Int) + (n : Int)) = (q : Int) + (n : Int) := w64_id (by omega) (by omega)
  have e2 : wrap64 ((q : Int) + (n : Int) - (i : Int)) = (q : Int) + (n : Int) - (i : Int) := w64_id (by omega) (by omega)
  rw [e1, e2, ← e0, Int.tmod_eq_emod_of_nonneg (Int.natCast_nonneg _)]
  exact (Int.natCast_emod _ _).symm
theorem turn_l0 {v : List Bd} (hv : Vw 40 v) {l : List Cn} (hl : ∀ c ∈ l, J17 v c) (hn : l.length ≤ 100) {q : Nat} (hq : q < l.length) : ∀ (d k i : Nat) (acc : List Cn), l.length - i = d → i ≤ l.length → d + 60 < k → acc = (turnL l q).take i → billiardlaw17_JacobiOrderFree.l0 k l v (q : Int) acc (i : Int) = some true := fun d => by
  have hvl := hv.len
  have hp := turnL_perm l q
  have hpl := turnL_len l q
  induction d with
  | zero =>
    intro k i acc hd hi hk ha
    obtain ⟨k, rfl⟩ : ∃ j, k = j + 1 := ⟨k - 1, by omega⟩
    have ha : acc = turnL l q := by rw [ha, List.take_of_length_le (by omega)]
    subst ha
    rw [billiardlaw17_JacobiOrderFree.l0, if_neg (by omega), jSolve_is hv hl (by omega) (by omega)]
    simp only [Option.bind_some]
    rw [jSolve_is hv (l := turnL l q) (fun c hc => hl c (hp.mem_iff.mpr hc)) (by omega) (by omega)]
    simp only [Option.bind_some]
    rw [← solV_perm hp]
    have hs : ∀ (n : Nat) (w : List Bd) (f : Bool), (solV l n w f).1.length = w.length := fun n => by
      induction n with
      | zero => intro w f; rfl
      | succ n ih => intro w f; rw [solV, ih]; unfold rnd; rw [List.length_map]
    rw [jSame_is _ (by rw [hs]; omega) (by rw [hs]; omega)]
    simp
  | succ d ih =>
    intro k i acc hd hi hk ha
    obtain ⟨k, rfl⟩ : ∃ j, k = j + 1 := ⟨k - 1, by omega⟩
    have hlt : i < l.length := by omega
    have hal : acc.length ≤ 100 := by rw [ha, List.length_take]; omega
    have c1 : (i : Int) < (l.length : Int) := by omega
    have c2 : ¬ (l.length : Int) = 0 := by omega
    have c5 : acc.length < 7036874417766 := by omega
    have c6 := step_ix hlt (show l.length ≤ 1000000 by omega)
    have c7 : l.length - (i + 1) = d := by omega
    have c8 : i + 1 ≤ l.length := by omega
    have c9 : d + 60 < k := by omega
    have c10 : i < (turnL l q).length := by omega
    obtain ⟨j, hj, hmod, hat⟩ := turnL_at l hq hlt
    have c3 : (0 : Int) ≤ (j : Int) := Int.natCast_nonneg j
    have c4 : (j : Int) < (l.length : Int) := Int.ofNat_lt.mpr hj
    have hm := turn_mod hq hlt hn hmod
    clear hmod
    rw [billiardlaw17_JacobiOrderFree.l0, if_pos c1, if_neg c2, hm, if_pos c3, if_pos c4, if_pos c5, rdN hj, c6]
    refine ih k (i + 1) _ c7 c8 c9 ?_
    rw [ha, List.take_succ_eq_append_getElem c10, hat]
theorem JacobiOrderFree : billiardlaw17_JacobiOrderFree.Pure := by
  intro l0 l1 t h0 h1 hw
  obtain ⟨v, ok, hV, hv⟩ := view_is l0 h0
  obtain ⟨b, hR, hG⟩ := jRight_is v hv.len l1
  have hvl := hv.len
  have hend : billiardlaw17_JacobiOrderFree.j0 (998 + 1 + 1) l1 t v true = some true := by
    rw [billiardlaw17_JacobiOrderFree.j0, if_pos rfl, awake17 _ (by omega)]
    rfl
  refine ⟨998 + 1 + 1, ?_⟩
  unfold billiardlaw17_JacobiOrderFree.f
  rw [hV _ (by omega)]
  simp only [Option.bind_some]
  rw [awake17 _ (by omega)]
  simp only [Option.bind_some]
  rw [if_pos trivial]
  by_cases hok : ok = true
  rotate_left
  · rw [if_neg hok]
    exact hend
  rw [if_pos hok, hR _ (by omega)]
  simp only [Option.bind_some]
  cases b
  · rw [if_neg (by decide)]
    exact hend
  obtain ⟨hn, hl⟩ := hG rfl
  rw [if_pos rfl]
  by_cases c : (l1.length : Int) = 0
  · rw [show ((l1.length : Int) == 0) = true by rw [c]; rfl]
    exact hend
  have hwf := wf_u8 hw
  obtain ⟨q, hq, hql⟩ : ∃ q : Nat, Int.tmod (wrap64 t) (l1.length : Int) = (q : Int) ∧ q < l1.length := by
    rw [show wrap64 t = t by unfold wrap64; omega, Int.tmod_eq_emod_of_nonneg hwf.1]
    have q1 := Int.emod_nonneg t c
    have q2 := Int.emod_lt_of_pos t (show 0 < (l1.length : Int) by omega)
    exact ⟨(t % (l1.length : Int)).toNat, by omega, by omega⟩
  rw [show ((l1.length : Int) == 0) = false from beq_eq_false_iff_ne.mpr c, billiardlaw17_JacobiOrderFree.j0, if_neg (by decide), if_neg c, hq]
  exact turn_l0 hv hl hn hql l1.length _ 0 [] (by omega) (by omega) (by omega) (by simp)
end Go.Proofs.Ytcbdcgghccjdpaa.Pure
