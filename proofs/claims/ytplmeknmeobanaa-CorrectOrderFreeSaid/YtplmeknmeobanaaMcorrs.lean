/- What all contacts of a view move. -/
import Derived.Test.YtplmeknmeobanaaMcorr
namespace Go.Proofs.Ytplmeknmeobanaa.Q
open Go.RowKit Go.Proofs.YtplmeknmeobanaaW.PrintWords Go.Proofs.YtplmeknmeobanaaW.PrintLast Go.Proofs.YtplmeknmeobanaaW.PrintMore
set_option linter.unusedVariables false
abbrev zS : Sh := z48
theorem getD_set {xs : List Sh} {m : Nat} (h : m < xs.length) (y : Sh) (t : Nat) : (xs.set m y).getD t zS = if m = t then y else xs.getD t zS := by
  simp only [List.getD, List.getElem?_set]
  by_cases c : m = t
  · rw [if_pos c, if_pos c]
    subst c
    rw [if_pos h]
    rfl
  · rw [if_neg c, if_neg c]
/-- The body of a view with a key. -/
def atK (v : List Bd) (key : Int) : Bd := v.getD (ixOf v key 0).toNat z32
/-- What a contact moves a body with a key, along one coordinate. -/
def moved (v : List Bd) (c : Ct) (key : Int) (second : Bool) : Int :=
  if c.f0.f0 = key then -part (shr c (atK v c.f0.f0) (atK v c.f0.f1) (atK v c.f0.f0).f3) (if second then c.f1.f1 else c.f1.f0)
  else if c.f0.f1 = key then part (shr c (atK v c.f0.f0) (atK v c.f0.f1) (atK v c.f0.f1).f3) (if second then c.f1.f1 else c.f1.f0)
  else 0
def movedL (v : List Bd) : List Ct → Int → Bool → Int
  | [], _, _ => 0
  | c :: l, key, s => moved v c key s + movedL v l key s
/-- The two bodies of a contact of a view. -/
theorem two_of {v : List Bd} (hv : Vw 40 v) {c : Ct} (hc : G17 v c) : ∃ i j, ∃ hi : i < v.length, ∃ hj : j < v.length, v[i].f0 = c.f0.f0 ∧ v[j].f0 = c.f0.f1 ∧ i ≠ j ∧ atK v c.f0.f0 = v[i] ∧ atK v c.f0.f1 = v[j] ∧ ixOf v c.f0.f0 0 = (i : Int) ∧ ixOf v c.f0.f1 0 = (j : Int) := by
  obtain ⟨i, hi, ei, ki⟩ := ixOf_some v c.f0.f0 0 hc.lo
  obtain ⟨j, hj, ej, kj⟩ := ixOf_some v c.f0.f1 0 hc.hi
  rw [Nat.zero_add] at ei ej
  refine ⟨i, j, hi, hj, ki, kj, fun e => ?_, ?_, ?_, ei, ej⟩
  · subst e
    have := hc.lt
    omega
  · unfold atK
    rw [ei]
    simp [List.getD, hi]
  · unfold atK
    rw [ej]
    simp [List.getD, hj]
theorem moved_bd {v : List Bd} (hv : Vw 40 v) {c : Ct} (hc : G18 v c) (key : Int) (s : Bool) : -6710886 ≤ moved v c key s ∧ moved v c key s ≤ 6710886 := by
  obtain ⟨i, j, hi, hj, ki, kj, hij, ai, aj, _, _⟩ := two_of hv hc.g
  have hn : -65536 ≤ (if s then c.f1.f1 else c.f1.f0) ∧ (if s then c.f1.f1 else c.f1.f0) ≤ 65536 := by
    cases s
    · exact hc.g.nx
    · exact hc.g.ny
  unfold moved
  rw [ai, aj]
  have va := (hv.good _ (List.getElem_mem hi)).1
  have vb := (hv.good _ (List.getElem_mem hj)).1
  have ma := va.m
  have mb := vb.m
  have h1 := part_bd (shr_bd hc.depth va vb ma.1 (by omega)) hn
  have h2 := part_bd (shr_bd hc.depth va vb mb.1 (by omega)) hn
  split
  · omega
  · split
    · exact h2
    · omega
theorem movedL_bd {v : List Bd} (hv : Vw 40 v) (key : Int) (s : Bool) : ∀ l : List Ct, (∀ c ∈ l, G18 v c) → -(6710886 * (l.length : Int)) ≤ movedL v l key s ∧ movedL v l key s ≤ 6710886 * (l.length : Int)
  | [], _ => by simp [movedL]
  | c :: l, h => by
    have h1 := moved_bd hv (h c (by simp)) key s
    have h2 := movedL_bd hv key s l (fun x hx => h x (List.mem_cons_of_mem _ hx))
    rw [movedL, List.length_cons]
    omega
theorem shiftsL_step {v : List Bd} (hv : Vw 40 v) {c : Ct} (hc : G18 v c) (l : List Ct) (xs : List Sh) {B : Int} (hxs : xs.length = v.length) (hB : ∀ t, t < v.length → (-B ≤ (xs.getD t zS).f0 ∧ (xs.getD t zS).f0 ≤ B) ∧ -B ≤ (xs.getD t zS).f1 ∧ (xs.getD t zS).f1 ≤ B) (hb : B ≤ 1000000000000) :
    ∃ ys : List Sh, shiftsL v (c :: l) xs = shiftsL v l ys ∧ ys.length = v.length ∧ ∀ t (h : t < v.length), (ys.getD t zS).f0 = (xs.getD t zS).f0 + moved v c v[t].f0 false ∧ (ys.getD t zS).f1 = (xs.getD t zS).f1 + moved v c v[t].f0 true := by
  obtain ⟨i, j, hi, hj, ki, kj, hij, ai, aj, _, _⟩ := two_of hv hc.g
  have va := (hv.good _ (List.getElem_mem hi)).1
  have vb := (hv.good _ (List.getElem_mem hj)).1
  have ma := va.m
  have mb := vb.m
  have s0 := share_is hc.depth va vb false
  have s1 := share_is hc.depth va vb true
  unfold shareF at s0 s1
  rw [if_neg (by decide)] at s0
  rw [if_pos rfl] at s1
  have d0 := shr_bd hc.depth va vb ma.1 (by omega)
  have d1 := shr_bd hc.depth va vb mb.1 (by omega)
  rw [shiftsL, vfind_at hv.rise hi ki]
  simp only [Option.bind_some]
  rw [vfind_at hv.rise hj kj]
  simp only [Option.bind_some]
  rw [if_pos ⟨by omega, by omega⟩, rdB hi, rdB hj, s0]
  simp only [Option.bind_some]
  rw [s1]
  simp only [Option.bind_some, Int.toNat_natCast]
  have w0 := shiftV_is (x := xs.getD i zS) d0 hc.g.nx hc.g.ny (hB i hi).1 (hB i hi).2 hb (-1) (Or.inr rfl)
  have w1 := shiftV_is (x := xs.getD j zS) d1 hc.g.nx hc.g.ny (hB j hj).1 (hB j hj).2 hb 1 (Or.inl rfl)
  rw [show shiftV (xs.getD i z48) _ (-1) c.f1.f0 c.f1.f1 = _ from w0, getD_set (by omega), if_neg hij, show shiftV (xs.getD j z48) _ 1 c.f1.f0 c.f1.f1 = _ from w1]
  refine ⟨_, rfl, by simp [hxs], fun t h => ?_⟩
  rw [getD_set (by rw [List.length_set]; omega), getD_set (by omega)]
  unfold moved
  rw [ai, aj]
  by_cases c1 : i = t
  · subst c1
    rw [if_neg (fun e => hij e.symm), if_pos rfl, if_pos ki.symm, if_pos ki.symm]
    simp only [if_true]
    exact ⟨by rw [if_neg (by decide)]; omega, by omega⟩
  · have k1 : ¬ c.f0.f0 = v[t].f0 := fun e => c1 (rise_inj hv.rise hi h (ki.trans e))
    rw [if_neg k1, if_neg k1, if_neg c1]
    by_cases c2 : j = t
    · subst c2
      rw [if_pos rfl, if_pos kj.symm, if_pos kj.symm]
      simp only [if_true]
      exact ⟨by rw [if_neg (by decide)]; omega, by omega⟩
    · have k2 : ¬ c.f0.f1 = v[t].f0 := fun e => c2 (rise_inj hv.rise hj h (kj.trans e))
      rw [if_neg k2, if_neg k2, if_neg c2]
      simp
theorem shiftsL_is {v : List Bd} (hv : Vw 40 v) : ∀ (l : List Ct) (xs : List Sh) (B : Int), (∀ c ∈ l, G18 v c) → xs.length = v.length → (∀ t, t < v.length → (-B ≤ (xs.getD t zS).f0 ∧ (xs.getD t zS).f0 ≤ B) ∧ -B ≤ (xs.getD t zS).f1 ∧ (xs.getD t zS).f1 ≤ B) → B + 6710886 * (l.length : Int) ≤ 1000000000000 →
    ∃ ys : List Sh, shiftsL v l xs = some ys ∧ ys.length = v.length ∧ ∀ t (h : t < v.length), (ys.getD t zS).f0 = (xs.getD t zS).f0 + movedL v l v[t].f0 false ∧ (ys.getD t zS).f1 = (xs.getD t zS).f1 + movedL v l v[t].f0 true
  | [], xs, B, _, hxs, _, _ => ⟨xs, by rw [shiftsL], hxs, fun t h => by simp [movedL]⟩
  | c :: l, xs, B, hl, hxs, hB, hb => by
    rw [List.length_cons] at hb
    obtain ⟨ys, e, hys, hm⟩ := shiftsL_step hv (hl c (by simp)) l xs hxs hB (by omega)
    obtain ⟨zs, e2, hzs, hm2⟩ := shiftsL_is hv l ys (B + 6710886) (fun x hx => hl x (List.mem_cons_of_mem _ hx)) hys (fun t ht => by
      have h1 := hB t ht
      have h2 := hm t ht
      have h3 := moved_bd hv (hl c (by simp)) v[t].f0 false
      have h4 := moved_bd hv (hl c (by simp)) v[t].f0 true
      omega) (by omega)
    refine ⟨zs, e.trans e2, hzs, fun t ht => ?_⟩
    have h2 := hm t ht
    have h3 := hm2 t ht
    rw [movedL, movedL]
    omega
/-- The shifts of a view's bodies. -/
theorem shifts_is {v : List Bd} (hv : Vw 40 v) (l : List Ct) (hl : ∀ c ∈ l, G18 v c) (hn : l.length ≤ 1000) : ∃ ys : List Sh, correct_Shifts.f v l = some ys ∧ ys.length = v.length ∧ ∀ t (h : t < v.length), (ys.getD t zS).f0 = movedL v l v[t].f0 false ∧ (ys.getD t zS).f1 = movedL v l v[t].f0 true := by
  have hz : ∀ t, t < v.length → (List.replicate v.length zS).getD t zS = zS := fun t h => by simp [List.getD, h]
  obtain ⟨ys, e, hys, hm⟩ := shiftsL_is hv l (List.replicate v.length zS) 0 hl (by simp) (fun t ht => by rw [hz t ht]; decide) (by omega)
  refine ⟨ys, ?_, hys, fun t h => ?_⟩
  · unfold correct_Shifts.f
    rw [if_pos (by have := hv.len; omega)]
    exact e
  · have := hm t h
    rw [hz t h] at this
    rw [this.1, this.2]
    exact ⟨Int.zero_add _, Int.zero_add _⟩
theorem awake18 : ∀ k, 12 ≤ k → billiardlaw18_awake.f k = some true := up_all billiardlaw18_awake.mono (by kernel_rfl)
end Go.Proofs.Ytplmeknmeobanaa.Q
