/- The reference's sums, its round and its solving are what the code computes. -/
import Derived.Test.YtcbdcgghccjdpaaMjac
import Derived.Test.YtcbdcgghccjdpaaQbilliardref17
import Derived.Test.YtcbdcgghccjdpaaQbilliardref17y1
import Derived.Test.YtcbdcgghccjdpaaQbilliardref17y2
namespace Go.Proofs.Ytcbdcgghccjdpaa.Q
open Go.RowKit Go.Proofs.YtcbdcgghccjdpaaW.PrintWords Go.Proofs.YtcbdcgghccjdpaaW.PrintLast Go.Proofs.YtcbdcgghccjdpaaW.PrintMore
set_option linter.unusedVariables false
theorem ref17_j1 {v : List Bd} (hv : Vw 40 v) (l : List Cn) {c : Cn} (hc : J17 v c) {i : Nat} (hi : i < v.length) (s : Bool) (acc j : Int) (ba : -1000000000000 ≤ acc ∧ acc ≤ 1000000000000) (m : Nat) (hm : 50 ≤ m) (hk : c.f0.f0 = v[i].f0 ∨ c.f0.f1 = v[i].f0) :
    billiardref17_sum.j1 (m + 1 + 1) v l (i : Int) s acc j false c.f0.f0 c.f0.f1 c.f1.f0 c.f1.f1 c.f2 = billiardref17_sum.l0 m v l (i : Int) s (acc + chg v c v[i].f0 s) (wrap64 (j + 1)) := by
  have hvl := hv.len
  obtain ⟨p, q, hp, hq, kp, kq, hpq, ap, aq, xp, xq⟩ := two_J hv hc
  have va := (hv.good _ (List.getElem_mem hp)).1
  have vb := (hv.good _ (List.getElem_mem hq)).1
  have ma := va.m
  have mb := vb.m
  have mi := (hv.good _ (List.getElem_mem hi)).1.m
  have f0 : billiardref06_Find.f (m + 1) v c.f0.f0 = some (p : Int) := by rw [find_is v _ (by omega) (by omega), xp]
  have f1 : billiardref06_Find.f (m + 1) v c.f0.f1 = some (q : Int) := by rw [find_is v _ (by omega) (by omega), xq]
  have hs := str_bd hc.n va vb
  have s0 := billiardref16_Strength.is (p0 := c.f0.f0) (p1 := c.f0.f1) (dp := c.f2) va vb hc.n
  have hcb := chg_bd hv hc v[i].f0 s
  have hnb : -65536 ≤ (if s = true then c.f1.f1 else c.f1.f0) ∧ (if s = true then c.f1.f1 else c.f1.f0) ≤ 65536 := by
    cases s
    · exact hc.n.1
    · exact hc.n.2
  have c0 : billiardref16_ChangeX.f (strJ c v[p] v[q]) v[i].f3 (if s = true then c.f1.f1 else c.f1.f0) = _ := billiardref16_ChangeX.is hs.1 mi hnb
  have j2 : billiardref17_sum.j2 (m + 1) v l (i : Int) s acc j (strJ c v[p] v[q]) (if s = true then c.f1.f1 else c.f1.f0) c.f0.f0 c.f0.f1 c.f1.f0 c.f1.f1 c.f2 = billiardref17_sum.l0 m v l (i : Int) s (acc + chg v c v[i].f0 s) (wrap64 (j + 1)) := by
    rw [billiardref17_sum.j2, if_pos (by omega), if_pos (by omega), rdB hi, c0]
    simp only [Option.bind_some]
    by_cases h0 : c.f0.f0 = v[i].f0
    · have e := rise_inj hv.rise hp hi (kp.trans h0)
      subst e
      have e0 : chg v c v[p].f0 s = -chS (strJ c v[p] v[q]) v[p].f3 (if s = true then c.f1.f1 else c.f1.f0) := by
        unfold chg
        rw [if_pos h0, ap, aq]
      rw [if_pos h0, e0]
      rw [e0] at hcb
      generalize chS (strJ c v[p] v[q]) v[p].f3 (if s = true then c.f1.f1 else c.f1.f0) = P at *
      rw [show wrap64 (acc - P) = acc + -P by unfold wrap64; omega]
    · have h1 : c.f0.f1 = v[i].f0 := hk.resolve_left h0
      have e := rise_inj hv.rise hq hi (kq.trans h1)
      subst e
      have e0 : chg v c v[q].f0 s = chS (strJ c v[p] v[q]) v[q].f3 (if s = true then c.f1.f1 else c.f1.f0) := by
        unfold chg
        rw [if_neg h0, if_pos h1, ap, aq]
      rw [if_neg h0, e0]
      rw [e0] at hcb
      generalize chS (strJ c v[p] v[q]) v[q].f3 (if s = true then c.f1.f1 else c.f1.f0) = P at *
      rw [show wrap64 (acc + P) = acc + P by unfold wrap64; omega]
  rw [billiardref17_sum.j1, if_neg (by decide), f0]
  simp only [Option.bind_some]
  rw [if_pos (by omega), if_pos (by omega), f1]
  simp only [Option.bind_some]
  rw [if_pos (by omega), if_pos (by omega), rdB hp, rdB hq, s0]
  simp only [Option.bind_some]
  cases s
  · rw [if_neg (by decide)]
    exact j2
  · rw [if_pos rfl]
    exact j2
theorem ref17_l0 {v : List Bd} (hv : Vw 40 v) (l : List Cn) (hl : ∀ c ∈ l, J17 v c) (hn : l.length ≤ 100) {i : Nat} (hi : i < v.length) (s : Bool) : ∀ (d n j : Nat) (acc : Int), l.length - j = d → j ≤ l.length → 60 + 3 * d ≤ n → (-(1000000000000 - 268435456 * (d : Int)) ≤ acc ∧ acc ≤ 1000000000000 - 268435456 * (d : Int)) →
    billiardref17_sum.l0 n v l (i : Int) s acc (j : Int) = some (acc + chgL v (l.drop j) v[i].f0 s) := fun d => by
  induction d with
  | zero =>
    intro n j acc hd hj hn2 ba
    obtain ⟨m, rfl⟩ : ∃ m, n = m + 1 := ⟨n - 1, by omega⟩
    rw [billiardref17_sum.l0, if_neg (by omega), List.drop_eq_nil_of_le (by omega), chgL, Int.add_zero]
  | succ d ih =>
    intro n j acc hd hj hn2 ba
    have hlt : j < l.length := by omega
    obtain ⟨m, rfl⟩ : ∃ m, n = m + 1 + 1 + 1 := ⟨n - 3, by omega⟩
    have hc := hl _ (List.getElem_mem hlt)
    have hcb := chg_bd hv hc v[i].f0 s
    have hw : wrap64 ((j : Int) + 1) = ((j + 1 : Nat) : Int) := step_ix hlt (by omega)
    have next := fun k (hk : 60 + 3 * d ≤ k) => ih k (j + 1) (acc + chg v l[j] v[i].f0 s) (by omega) (by omega) hk (by omega)
    rw [billiardref17_sum.l0, if_pos (by omega), if_pos (by omega), if_pos (by omega), if_pos (by omega), rdN hlt, rdB hi, List.drop_eq_getElem_cons hlt, chgL, ← Int.add_assoc]
    by_cases h0 : l[j].f0.f0 = v[i].f0
    · rw [if_pos h0, ref17_j1 hv l hc hi s acc j (by omega) m (by omega) (Or.inl h0), hw]
      exact next m (by omega)
    · rw [if_neg h0]
      by_cases h1 : l[j].f0.f1 = v[i].f0
      · rw [show (l[j].f0.f1 != v[i].f0) = false by rw [h1]; exact bne_self_eq_false _, ref17_j1 hv l hc hi s acc j (by omega) m (by omega) (Or.inr h1), hw]
        exact next m (by omega)
      · have e : chg v l[j] v[i].f0 s = 0 := by unfold chg; rw [if_neg h0, if_neg h1]
        have nx := next (m + 1) (by omega)
        rw [e] at nx ⊢
        rw [show (l[j].f0.f1 != v[i].f0) = true from bne_iff_ne.mpr h1, billiardref17_sum.j1, if_pos rfl, hw]
        rw [Int.add_zero] at nx ⊢
        exact nx
theorem ref17_sum {v : List Bd} (hv : Vw 40 v) (l : List Cn) (hl : ∀ c ∈ l, J17 v c) (hn : l.length ≤ 100) {i : Nat} (hi : i < v.length) (s : Bool) {n : Nat} (h : 400 ≤ n) : billiardref17_sum.f n v l (i : Int) s = some (chgL v l v[i].f0 s) := by
  have e := ref17_l0 hv l hl hn hi s l.length n 0 0 (by omega) (by omega) (by omega) (by omega)
  rw [List.drop_zero, Int.zero_add] at e
  exact e
theorem ref17_Sums_l0 {v : List Bd} (hv : Vw 40 v) (l : List Cn) (hl : ∀ c ∈ l, J17 v c) (hn : l.length ≤ 100) (s : Bool) : ∀ (d n i : Nat) (acc : List Int), v.length - i = d → i ≤ v.length → 401 + d ≤ n → acc.length + d ≤ 1000 →
    billiardref17_Sums.l0 n v l s acc (i : Int) = some (acc ++ (v.drop i).map fun b => chgL v l b.f0 s) := fun d => by
  have hvl := hv.len
  induction d with
  | zero =>
    intro n i acc hd hi hn2 ha
    obtain ⟨m, rfl⟩ : ∃ m, n = m + 1 := ⟨n - 1, by omega⟩
    rw [billiardref17_Sums.l0, if_neg (by omega), List.drop_eq_nil_of_le (by omega)]
    simp
  | succ d ih =>
    intro n i acc hd hi hn2 ha
    have hlt : i < v.length := by omega
    obtain ⟨m, rfl⟩ : ∃ m, n = m + 1 := ⟨n - 1, by omega⟩
    rw [billiardref17_Sums.l0, if_pos (by omega), ref17_sum hv l hl hn hlt s (by omega)]
    simp only [Option.bind_some]
    rw [if_pos (by omega), step_ix hlt (by omega), ih _ (i + 1) _ (by omega) (by omega) (by omega) (by simp; omega), List.drop_eq_getElem_cons hlt, List.map_cons]
    simp
theorem ref17_Sums {v : List Bd} (hv : Vw 40 v) (l : List Cn) (hl : ∀ c ∈ l, J17 v c) (hn : l.length ≤ 100) (s : Bool) {n : Nat} (h : 500 ≤ n) : billiardref17_Sums.f n v l s = some (v.map fun b => chgL v l b.f0 s) := by
  have hvl := hv.len
  exact ref17_Sums_l0 hv l hl hn s v.length n 0 [] (by omega) (by omega) (by omega) (by simp; omega)
theorem ref02_lim (x : Int) : billiardref02_Limit.f x 16777216 = some (limV x) := by
  unfold billiardref02_Limit.f
  rw [lim_w]
  unfold limV mx mn
  by_cases c : x > 16777216
  · rw [if_pos c]
    congr 1
    omega
  · rw [if_neg c]
    by_cases d : x < -16777216
    · rw [if_pos d]
      congr 1
      omega
    · rw [if_neg d]
      congr 1
      omega
theorem ref17_Round_l0 {v : List Bd} (hv : Vw 40 v) (l : List Cn) (hl : ∀ c ∈ l, J17 v c) (hn : l.length ≤ 100) : ∀ (d n i : Nat) (acc : List Bd) (f : Bool), v.length - i = d → i ≤ v.length → 401 + d ≤ n → acc.length + d ≤ 1000 →
    billiardref17_Round.l0 n v l acc f (i : Int) = some (acc ++ (v.drop i).map (stepB v l), f || (v.drop i).any (cutB v l)) := fun d => by
  have hvl := hv.len
  induction d with
  | zero =>
    intro n i acc f hd hi hn2 ha
    obtain ⟨m, rfl⟩ : ∃ m, n = m + 1 := ⟨n - 1, by omega⟩
    rw [billiardref17_Round.l0, if_neg (by omega), List.drop_eq_nil_of_le (by omega)]
    simp
  | succ d ih =>
    intro n i acc f hd hi hn2 ha
    have hlt : i < v.length := by omega
    obtain ⟨k, rfl⟩ : ∃ m, n = m + 1 := ⟨n - 1, by omega⟩
    have e0 := vel_sum hv hl (by omega) hlt false
    have e1 := vel_sum hv hl (by omega) hlt true
    rw [if_neg (by decide)] at e0
    rw [if_pos rfl] at e1
    have w : ∀ x, wrap32 (limV x) = limV x := fun x => by have := limV_bd x; unfold wrap32; omega
    have w2 : ∀ x, wrap64 (limV x) = limV x := fun x => by have := limV_bd x; unfold wrap64; omega
    have next := fun (g : Bool) => ih k (i + 1) (acc ++ [stepB v l v[i]]) g (by omega) (by omega) (by omega) (by simp; omega)
    have hd1 : acc ++ (v.drop i).map (stepB v l) = acc ++ [stepB v l v[i]] ++ (v.drop (i + 1)).map (stepB v l) := by rw [List.drop_eq_getElem_cons hlt, List.map_cons, List.append_assoc]; rfl
    have hd2 : (v.drop i).any (cutB v l) = (cutB v l v[i] || (v.drop (i + 1)).any (cutB v l)) := by rw [List.drop_eq_getElem_cons hlt, List.any_cons]
    rw [billiardref17_Round.l0, if_pos (by omega), if_pos (by omega), ref17_sum hv l hl hn hlt false (by omega)]
    simp only [Option.bind_some]
    rw [ref17_sum hv l hl hn hlt true (by omega)]
    simp only [Option.bind_some]
    rw [rdB hlt, e0, e1, ref02_lim, ref02_lim]
    simp only [Option.bind_some]
    have hal : acc.length < 3518437208883 := by omega
    rw [step_ix hlt (by omega), w, w, w2, w2, if_pos hal, if_pos hal, hd1, hd2]
    show (if f = true then billiardref17_Round.l0 k v l (acc ++ [stepB v l v[i]]) true ((i + 1 : Nat) : Int)
      else (if limV (v[i].f6.f0 + chgL v l v[i].f0 false) = v[i].f6.f0 + chgL v l v[i].f0 false then billiardref17_Round.l0 k v l (acc ++ [stepB v l v[i]]) (limV (v[i].f6.f1 + chgL v l v[i].f0 true) != v[i].f6.f1 + chgL v l v[i].f0 true) ((i + 1 : Nat) : Int)
      else billiardref17_Round.l0 k v l (acc ++ [stepB v l v[i]]) true ((i + 1 : Nat) : Int))) = _
    rw [next true, next _]
    unfold cutB
    cases f
    · rw [if_neg (by decide)]
      by_cases c : limV (v[i].f6.f0 + chgL v l v[i].f0 false) = v[i].f6.f0 + chgL v l v[i].f0 false
      · rw [if_pos c, show (limV (v[i].f6.f0 + chgL v l v[i].f0 false) != v[i].f6.f0 + chgL v l v[i].f0 false) = false by rw [c]; exact bne_self_eq_false _]
        simp
      · rw [if_neg c, show (limV (v[i].f6.f0 + chgL v l v[i].f0 false) != v[i].f6.f0 + chgL v l v[i].f0 false) = true from bne_iff_ne.mpr c]
        simp
    · rw [if_pos rfl]
      simp
theorem ref17_Round {v : List Bd} (hv : Vw 40 v) (l : List Cn) (hl : ∀ c ∈ l, J17 v c) (hn : l.length ≤ 100) {n : Nat} (h : 500 ≤ n) : billiardref17_Round.f n v l = some (rnd l v, cutR l v) := by
  have hvl := hv.len
  have e := ref17_Round_l0 hv l hl hn v.length n 0 [] false (by omega) (by omega) (by omega) (by simp; omega)
  rw [List.drop_zero, List.nil_append, Bool.false_or] at e
  exact e
theorem ref17_Solve_l0 (l : List Cn) (hn : l.length ≤ 100) : ∀ (n : Nat) (v : List Bd) (f : Bool) (k : Nat), n ≤ 4 → Vw 40 v → (∀ c ∈ l, J17 v c) → n + 501 ≤ k → billiardref17_Solve.l0 k v l f ((4 - n : Nat) : Int) = some (solV l n v f)
  | 0, v, f, k, _, _, _, hk => by
    obtain ⟨k, rfl⟩ : ∃ j, k = j + 1 := ⟨k - 1, by omega⟩
    rw [billiardref17_Solve.l0, if_neg (by omega)]
    rfl
  | n + 1, v, f, k, hn4, hv, hl, hk => by
    obtain ⟨k, rfl⟩ : ∃ j, k = j + 1 := ⟨k - 1, by omega⟩
    have ih := fun g => ref17_Solve_l0 l hn n (rnd l v) g k (by omega) (rnd_vw hv l) (fun c hc => rnd_J (hl c hc)) (by omega)
    have e : wrap64 (((4 - (n + 1) : Nat) : Int) + 1) = ((4 - n : Nat) : Int) := by unfold wrap64; omega
    rw [billiardref17_Solve.l0, if_pos (by omega), ref17_Round hv l hl hn (by omega)]
    simp only [Option.bind_some]
    rw [e]
    cases f
    · rw [if_neg (by decide), ih, solV, Bool.false_or]
    · rw [if_pos rfl, ih, solV, Bool.true_or]
theorem ref17_Solve {v : List Bd} (hv : Vw 40 v) {l : List Cn} (hl : ∀ c ∈ l, J17 v c) (hn : l.length ≤ 100) {k : Nat} (hk : 505 ≤ k) : billiardref17_Solve.f k v l = some (solV l 4 v false) := by
  have := ref17_Solve_l0 l hn 4 v false k (by omega) hv hl (by omega)
  exact this
theorem num17_l0 (a : List Int) (ha : a.length ≤ 1000) : ∀ (d k i : Nat), a.length - i = d → i ≤ a.length → d < k → billiardref17_Numbers.l0 k a a (i : Int) = some true := fun d => by
  induction d with
  | zero =>
    intro k i hd hi hk
    obtain ⟨k, rfl⟩ : ∃ j, k = j + 1 := ⟨k - 1, by omega⟩
    rw [billiardref17_Numbers.l0, if_neg (by omega)]
  | succ d ih =>
    intro k i hd hi hk
    obtain ⟨k, rfl⟩ : ∃ j, k = j + 1 := ⟨k - 1, by omega⟩
    have hlt : i < a.length := by omega
    rw [billiardref17_Numbers.l0, if_pos (by omega), if_pos (by omega), if_pos (by omega), if_pos rfl, step_ix hlt (by omega)]
    exact ih k (i + 1) (by omega) (by omega) (by omega)
theorem num17_is (a : List Int) (ha : a.length ≤ 1000) {k : Nat} (hk : a.length < k) : billiardref17_Numbers.f k a a = some true := by
  unfold billiardref17_Numbers.f
  rw [if_pos rfl]
  exact num17_l0 a ha a.length k 0 (by omega) (by omega) hk
/-- The code's sums as lists of the view. -/
theorem jSums_eq {v : List Bd} (hv : Vw 40 v) (l : List Cn) (hl : ∀ c ∈ l, J17 v c) (hn : l.length ≤ 1000) : jacobi_Sums.f v l = some (v.map fun b => chgL v l b.f0 false, v.map fun b => chgL v l b.f0 true) := by
  obtain ⟨xs, ys, e, hx, hy, hm⟩ := jSums_is hv l hl hn
  rw [e]
  congr 1
  congr 1
  · apply List.ext_getElem (by simp [hx])
    intro t p q
    have := (hm t (by omega)).1
    rw [List.getElem_map, ← this]
    simp [List.getD, p]
  · apply List.ext_getElem (by simp [hy])
    intro t p q
    have := (hm t (by omega)).2
    rw [List.getElem_map, ← this]
    simp [List.getD, p]
end Go.Proofs.Ytcbdcgghccjdpaa.Q
