/- Only velocities are changed, those of static bodies and of bodies without a contact are not, and all are within the limit. -/
import Derived.Test.YtcbdcgghccjdpaaQJacobiVelocities
import Derived.Test.YtcbdcgghccjdpaaMjac
namespace Go.Proofs.Ytcbdcgghccjdpaa.Pure
open Go.RowKit Go.Proofs.Ytcbdcgghccjdpaa.Q Go.Proofs.YtcbdcgghccjdpaaW.PrintWords Go.Proofs.YtcbdcgghccjdpaaW.PrintLast Go.Proofs.YtcbdcgghccjdpaaW.PrintMore
set_option linter.unusedVariables false
/-- A body that no contact moves. -/
def Free17 (l : List Cn) (b : Bd) : Prop := b.f3 = 0 ∨ ∀ c ∈ l, ¬ c.f0.f0 = b.f0 ∧ ¬ c.f0.f1 = b.f0
theorem chg_free {w : List Bd} (hw : Vw 40 w) {c : Cn} (hc : J17 w c) {t : Nat} (ht : t < w.length) (h : w[t].f3 = 0 ∨ (¬ c.f0.f0 = w[t].f0 ∧ ¬ c.f0.f1 = w[t].f0)) (s : Bool) : chg w c w[t].f0 s = 0 := by
  obtain ⟨i, j, hi, hj, ki, kj, hij, ai, aj, _, _⟩ := two_J hw hc
  unfold chg
  by_cases c0 : c.f0.f0 = w[t].f0
  · have e := rise_inj hw.rise hi ht (ki.trans c0)
    subst e
    have hm := h.resolve_right (fun x => x.1 c0)
    rw [if_pos c0, ai, hm, chS_none]
    rfl
  · rw [if_neg c0]
    by_cases c1 : c.f0.f1 = w[t].f0
    · have e := rise_inj hw.rise hj ht (kj.trans c1)
      subst e
      have hm := h.resolve_right (fun x => x.2 c1)
      rw [if_pos c1, aj, hm, chS_none]
    · rw [if_neg c1]
theorem chgL_free {w : List Bd} (hw : Vw 40 w) {t : Nat} (ht : t < w.length) (s : Bool) : ∀ l : List Cn, (∀ c ∈ l, J17 w c) → Free17 l w[t] → chgL w l w[t].f0 s = 0
  | [], _, _ => rfl
  | c :: l, h, hf => by
    rw [chgL, chg_free hw (h c (by simp)) ht (hf.imp id (fun x => x c (by simp))) s, chgL_free hw ht s l (fun x hx => h x (List.mem_cons_of_mem _ hx)) (hf.imp id (fun x d hd => x d (List.mem_cons_of_mem _ hd)))]
    rfl
structure Moved17 (l : List Cn) (a b : Bd) : Prop where
  e0 : b.f0 = a.f0
  e1 : b.f1 = a.f1
  e2 : b.f2.f0 = a.f2.f0
  e3 : b.f2.f1 = a.f2.f1
  e4 : b.f3 = a.f3
  e5 : b.f4 = a.f4
  e6 : b.f5.f0 = a.f5.f0
  e7 : b.f5.f1 = a.f5.f1
  e8 : Free17 l a → b.f6.f0 = a.f6.f0 ∧ b.f6.f1 = a.f6.f1
theorem sol_moved {l : List Cn} : ∀ (n : Nat) (w : List Bd) (f : Bool), Vw 40 w → (∀ c ∈ l, J17 w c) → Vw 40 (solV l n w f).1 ∧ (solV l n w f).1.length = w.length ∧ ∀ t (h : t < w.length) (h' : t < (solV l n w f).1.length), Moved17 l w[t] (solV l n w f).1[t]
  | 0, w, f, hw, hl => ⟨hw, rfl, fun t h h' => ⟨rfl, rfl, rfl, rfl, rfl, rfl, rfl, rfl, fun _ => ⟨rfl, rfl⟩⟩⟩
  | n + 1, w, f, hw, hl => by
    have hlen : (rnd l w).length = w.length := by unfold rnd; rw [List.length_map]
    obtain ⟨h1, h2, h3⟩ := sol_moved (l := l) n (rnd l w) (f || cutR l w) (rnd_vw hw l) (fun c hc => rnd_J (hl c hc))
    refine ⟨h1, h2.trans hlen, fun t h h' => ?_⟩
    have hg := h3 t (by omega) h'
    have hr : (rnd l w)[t]'(by omega) = stepB w l w[t] := by unfold rnd; rw [List.getElem_map]
    rw [hr] at hg
    have st : Free17 l w[t] → stepB w l w[t] = w[t] := fun hf => (step_still (hw.good _ (List.getElem_mem h)).1 (chgL_free hw h false l hl hf) (chgL_free hw h true l hl hf)).1
    refine ⟨hg.e0, hg.e1, hg.e2, hg.e3, hg.e4, hg.e5, hg.e6, hg.e7, fun hf => ?_⟩
    have h8 := hg.e8
    rw [st hf] at h8
    exact h8 hf
theorem vel_l1 {v s : List Bd} {l : List Cn} (hn : l.length ≤ 100) {i : Nat} (hi : i < v.length) (hi' : i < s.length) (hm : Moved17 l v[i] s[i]) (hx : -16777216 ≤ s[i].f6.f0 ∧ s[i].f6.f0 ≤ 16777216) (hy : -16777216 ≤ s[i].f6.f1 ∧ s[i].f6.f1 ≤ 16777216) (hv : v.length ≤ 40) {K : Nat} (next : ∀ k, K ≤ k → billiardlaw17_JacobiVelocities.l0 k l v s ((i + 1 : Nat) : Int) = some true) : ∀ (d n j : Nat) (u : Bool), l.length - j = d → j ≤ l.length → K + d + 2 ≤ n → (u = false → ∀ c ∈ l.take j, ¬ c.f0.f0 = v[i].f0 ∧ ¬ c.f0.f1 = v[i].f0) →
    billiardlaw17_JacobiVelocities.l1 n l v s (i : Int) u (j : Int) v[i].f0 v[i].f1 v[i].f2.f0 v[i].f2.f1 v[i].f3 v[i].f4 v[i].f5.f0 v[i].f5.f1 v[i].f6.f0 v[i].f6.f1 = some true := fun d => by
  have j3 : ∀ k, K ≤ k → billiardlaw17_JacobiVelocities.j3 (k + 1) l v s (i : Int) false = some true := fun k hk => by
    rw [billiardlaw17_JacobiVelocities.j3, if_neg (by decide), if_pos (by omega), if_pos (by omega), rdB hi', if_neg (by omega), if_neg (by omega), if_neg (by omega), if_neg (by omega), step_ix hi (by omega)]
    exact next k hk
  induction d with
  | zero =>
    intro n j u hd hj hn2 hu
    obtain ⟨k, rfl⟩ : ∃ m, n = m + 1 + 1 := ⟨n - 2, by omega⟩
    have hj2 : j = l.length := by omega
    rw [billiardlaw17_JacobiVelocities.l1, if_neg (by omega), if_pos (by omega), if_pos (by omega), rdB hi, if_neg (by simp)]
    have same : Free17 l v[i] → (!(s[i].f6.f0 == v[i].f6.f0) || (!(s[i].f6.f1 == v[i].f6.f1))) = false := fun hf => by rw [(hm.e8 hf).1, (hm.e8 hf).2]; simp
    by_cases c : v[i].f3 = 0
    · rw [if_pos c, if_pos (by omega), rdB hi', same (Or.inl c)]
      exact j3 k (by omega)
    · rw [if_neg c]
      cases u
      · rw [if_neg (by decide), if_pos (by omega), rdB hi', same (Or.inr (by have h := hu rfl; rwa [hj2, List.take_length] at h))]
        exact j3 k (by omega)
      · rw [if_pos rfl]
        exact j3 k (by omega)
  | succ d ih =>
    intro n j u hd hj hn2 hu
    obtain ⟨k, rfl⟩ : ∃ m, n = m + 1 := ⟨n - 1, by omega⟩
    have hlt : j < l.length := by clear hx hy hn; omega
    have q5 : l.length - (j + 1) = d := by clear hx hy hn; omega
    have q6 : j + 1 ≤ l.length := by clear hx hy hn; omega
    have q7 : K + d + 2 ≤ k := by clear hx hy hn; omega
    have hw := step_ix hlt (Nat.le_trans hn (by decide))
    have q1 : (j : Int) < (l.length : Int) := Int.ofNat_lt.mpr hlt
    have q2 : (0 : Int) ≤ (j : Int) := Int.natCast_nonneg j
    have q3 : (0 : Int) ≤ (i : Int) := Int.natCast_nonneg i
    have q4 : (i : Int) < (v.length : Int) := Int.ofNat_lt.mpr hi
    rw [billiardlaw17_JacobiVelocities.l1, if_pos q1]
    cases u
    · rw [if_neg (by decide), if_pos q2, if_pos q3, if_pos q4, rdN hlt, rdB hi, hw]
      by_cases c0 : l[j].f0.f0 = v[i].f0
      · rw [if_pos c0]
        exact ih k (j + 1) true q5 q6 q7 (fun h => by cases h)
      · rw [if_neg c0]
        by_cases c1 : l[j].f0.f1 = v[i].f0
        · rw [show (l[j].f0.f1 == v[i].f0) = true from beq_iff_eq.mpr c1]
          exact ih k (j + 1) true q5 q6 q7 (fun h => by cases h)
        · rw [show (l[j].f0.f1 == v[i].f0) = false from beq_eq_false_iff_ne.mpr c1]
          refine ih k (j + 1) false q5 q6 q7 (fun _ c hc => ?_)
          rw [List.take_succ_eq_append_getElem hlt] at hc
          rcases List.mem_append.mp hc with h | h
          · exact hu rfl c h
          · rw [List.mem_singleton.mp h]
            exact ⟨c0, c1⟩
    · rw [if_pos rfl, hw]
      exact ih k (j + 1) true q5 q6 q7 (fun h => by cases h)
theorem vel_l0 {v s : List Bd} {l : List Cn} (hn : l.length ≤ 100) (hv : v.length ≤ 40) (hlen : s.length = v.length) (hm : ∀ t (h : t < v.length) (h' : t < s.length), Moved17 l v[t] s[t]) (hb : ∀ t (h' : t < s.length), (-16777216 ≤ s[t].f6.f0 ∧ s[t].f6.f0 ≤ 16777216) ∧ -16777216 ≤ s[t].f6.f1 ∧ s[t].f6.f1 ≤ 16777216) : ∀ (d n i : Nat), v.length - i = d → i ≤ v.length → 1 + 103 * d ≤ n → billiardlaw17_JacobiVelocities.l0 n l v s (i : Int) = some true := fun d => by
  induction d with
  | zero =>
    intro n i hd hi hn2
    obtain ⟨k, rfl⟩ : ∃ m, n = m + 1 := ⟨n - 1, by omega⟩
    rw [billiardlaw17_JacobiVelocities.l0, if_neg (by omega)]
  | succ d ih =>
    intro n i hd hi hn2
    obtain ⟨k, rfl⟩ : ∃ m, n = m + 1 := ⟨n - 1, by omega⟩
    have h1 : i < v.length := by omega
    have h2 : i < s.length := by omega
    have m := hm i h1 h2
    have b := hb i h2
    rw [billiardlaw17_JacobiVelocities.l0, if_pos (by omega), if_pos (by omega), if_pos (by omega), rdB h1, rdB h2, m.e0, m.e1, m.e2, m.e3, m.e4, m.e5, m.e6, m.e7]
    exact vel_l1 hn h1 h2 m b.1 b.2 hv (K := 1 + 103 * d) (fun k hk => ih k (i + 1) (by omega) (by omega) hk) l.length k 0 false (by omega) (by omega) (by omega) (fun _ c hc => by simp at hc)
theorem JacobiVelocities : billiardlaw17_JacobiVelocities.Pure := by
  intro l0 l1 h0 h1
  obtain ⟨v, ok, hV, hv⟩ := view_is l0 h0
  obtain ⟨b, hR, hG⟩ := jRight_is v hv.len l1
  have hvl := hv.len
  have hend : billiardlaw17_JacobiVelocities.j0 (4998 + 1 + 1) l1 v true = some true := by
    rw [billiardlaw17_JacobiVelocities.j0, if_pos rfl, awake17 _ (by omega)]
    rfl
  refine ⟨4998 + 1 + 1, ?_⟩
  unfold billiardlaw17_JacobiVelocities.f
  rw [hV _ (by omega)]
  simp only [Option.bind_some]
  rw [awake17 _ (by omega)]
  simp only [Option.bind_some]
  rw [if_pos trivial]
  by_cases hok : ok = true
  rotate_left
  · rw [if_neg hok]
    exact hend
  rw [if_pos hok, hR _ (by omega)]
  simp only [Option.bind_some]
  cases b
  · exact hend
  obtain ⟨hn, hl⟩ := hG rfl
  obtain ⟨m1, m2, m3⟩ := sol_moved (l := l1) 4 v false hv hl
  rw [Bool.not_true, billiardlaw17_JacobiVelocities.j0, if_neg (by decide), jSolve_is hv hl (by omega) (by omega)]
  simp only [Option.bind_some]
  rw [if_pos (by omega)]
  exact vel_l0 hn hvl m2 m3 (fun t h' => ⟨(m1.good _ (List.getElem_mem h')).1.vx, (m1.good _ (List.getElem_mem h')).1.vy⟩) v.length _ 0 (by omega) (by omega) (by omega)
end Go.Proofs.Ytcbdcgghccjdpaa.Pure
