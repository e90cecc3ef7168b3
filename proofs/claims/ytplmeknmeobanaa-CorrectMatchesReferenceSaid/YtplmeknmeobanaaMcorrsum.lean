/- The reference's amount and share of a contact are those of the layer; its sum for a body is what all contacts move it. -/
import Derived.Test.YtplmeknmeobanaaMcorrs
import Derived.Test.YtplmeknmeobanaaQbilliardref01
import Derived.Test.YtplmeknmeobanaaMfloor
import Derived.Test.YtplmeknmeobanaaMnum
import Derived.Test.YtplmeknmeobanaaQbilliardref18y1
import Derived.Test.YtplmeknmeobanaaMbase
namespace Go.Proofs.Ytplmeknmeobanaa.Q
open Go.RowKit Go.Proofs.YtplmeknmeobanaaW.PrintWords Go.Proofs.YtplmeknmeobanaaW.PrintLast Go.Proofs.YtplmeknmeobanaaW.PrintMore
set_option linter.unusedVariables false
theorem floor_pos {a b : Int} (ha : 0 ≤ a ∧ a ≤ 9000000000000000000) (hb : 1 ≤ b) : billiardref01_Floor.f a b = some (a / b) := by
  unfold billiardref01_Floor.f
  have e1 : Int.tmod a b = a % b := Int.tmod_eq_emod_of_nonneg ha.1
  have e2 : Int.tdiv a b = a / b := Int.tdiv_eq_ediv_of_nonneg ha.1
  have h1 := Int.emod_nonneg a (show b ≠ 0 by omega)
  have h2 := Int.ediv_nonneg ha.1 (show 0 ≤ b by omega)
  have h3 := Int.ediv_le_self b ha.1
  rw [if_neg (by omega), e1, if_neg (by omega), e2]
  congr 1
  generalize a / b = q at *
  unfold wrap64
  omega
abbrev rAmountF (c : Ct) (a b : Bd) := billiardref18_Amount.f c.f0.f0 c.f0.f1 c.f1.f0 c.f1.f1 c.f2 a.f0 a.f1 a.f2.f0 a.f2.f1 a.f3 a.f4 a.f5.f0 a.f5.f1 a.f6.f0 a.f6.f1 b.f0 b.f1 b.f2.f0 b.f2.f1 b.f3 b.f4 b.f5.f0 b.f5.f1 b.f6.f0 b.f6.f1
abbrev rShareF (c : Ct) (a b : Bd) (m : Int) := billiardref18_Share.f c.f0.f0 c.f0.f1 c.f1.f0 c.f1.f1 c.f2 a.f0 a.f1 a.f2.f0 a.f2.f1 a.f3 a.f4 a.f5.f0 a.f5.f1 a.f6.f0 a.f6.f1 b.f0 b.f1 b.f2.f0 b.f2.f1 b.f3 b.f4 b.f5.f0 b.f5.f1 b.f6.f0 b.f6.f1 m
theorem rAmount_is {c : Ct} (hc : 1 ≤ c.f2 ∧ c.f2 ≤ 16777216) {a b : Bd} (ha : VB a) (hb : VB b) : rAmountF c a b = some (amt c a b) := by
  have ma := ha.m
  have mb := hb.m
  unfold rAmountF billiardref18_Amount.f amt
  have e0 : wrap32 (a.f3 + b.f3) = a.f3 + b.f3 := by unfold wrap32; omega
  have e1 : wrap64 (wrap64 c.f2 - 1024) = c.f2 - 1024 := by unfold wrap64; omega
  rw [e0, e1]
  by_cases h1 : c.f2 ≤ 1024
  · rw [if_pos h1, if_pos (Or.inl h1)]
  · rw [if_neg h1]
    have e2 : wrap64 ((c.f2 - 1024) * 26214) = (c.f2 - 1024) * 26214 := by unfold wrap64; omega
    by_cases h2 : a.f3 + b.f3 = 0
    · rw [if_pos h2, if_pos (Or.inr ⟨by omega, by omega⟩)]
    · rw [if_neg h2, if_neg (by omega), e2, floor_pos ⟨by omega, by omega⟩ (by omega)]
      rfl
theorem rShare_is {c : Ct} (hc : 1 ≤ c.f2 ∧ c.f2 ≤ 16777216) {a b : Bd} (ha : VB a) (hb : VB b) {m : Int} (hm : 0 ≤ m) (hm2 : m ≤ a.f3 + b.f3) : rShareF c a b m = some (shr c a b m) := by
  have ma := ha.m
  have mb := hb.m
  have e := rAmount_is hc ha hb
  have h := amt_bd hc a b
  unfold rAmountF at e
  unfold rShareF billiardref18_Share.f
  rw [e]
  simp only [Option.bind_some]
  by_cases h0 : amt c a b = 0
  · rw [if_pos h0]
    unfold Q.shr
    rw [h0]
    simp
  · rw [if_neg h0]
    have hs : 1 ≤ a.f3 + b.f3 := by
      by_cases z : a.f3 + b.f3 = 0
      · exact absurd (by unfold amt; rw [if_pos (Or.inr ⟨by omega, by omega⟩)]) h0
      · omega
    have e1 : wrap64 m = m := by unfold wrap64; omega
    have e2 : wrap64 ((wrap64 (a.f3)) + (wrap64 (b.f3))) = a.f3 + b.f3 := by unfold wrap64; omega
    have p0 := Int.mul_nonneg h.1 hm
    have p1 := Int.mul_le_mul h.2 (show m ≤ 2097152 by omega) hm (by omega)
    have e3 : wrap64 (amt c a b * m) = amt c a b * m := by
      generalize amt c a b * m = q at *
      unfold wrap64
      omega
    rw [e1, e2, e3, floor_pos ⟨p0, by omega⟩ hs]
    unfold Q.shr
    rw [show mx 1 (a.f3 + b.f3) = a.f3 + b.f3 by unfold mx; omega]
    rfl
end Go.Proofs.Ytplmeknmeobanaa.Q

namespace Go.Proofs.Ytplmeknmeobanaa.Q
open Go.RowKit Go.Proofs.YtplmeknmeobanaaW.PrintWords Go.Proofs.YtplmeknmeobanaaW.PrintLast Go.Proofs.YtplmeknmeobanaaW.PrintMore
set_option linter.unusedVariables false
theorem floor18 {t : Int} (h : -9223372036854775807 ≤ t ∧ t ≤ 9223372036854775807) : billiardref01_Floor.f t 65536 = some (t / 65536) := by
  unfold billiardref01_Floor.f
  exact floor_wrap (by omega) h.1 h.2
abbrev Rs18 := S53
theorem part_floor {s n : Int} (hs : 0 ≤ s ∧ s ≤ 6710886) (hn : -65536 ≤ n ∧ n ≤ 65536) : billiardref01_Floor.f (wrap64 (s * wrap64 n)) 65536 = some (part s n) := by
  have h1 := Int.mul_le_mul_of_nonneg_left hn.2 hs.1
  have h2 := Int.mul_le_mul_of_nonneg_left hn.1 hs.1
  have e : wrap64 (s * wrap64 n) = s * n := by
    rw [show wrap64 n = n by unfold wrap64; omega]
    generalize s * n = p at *
    unfold wrap64
    omega
  rw [floor18 (t := wrap64 (s * wrap64 n)) (by rw [e]; generalize s * n = p at *; omega), part_wrap hs hn]
theorem hit_j2 {v : List Bd} (hv : Vw 40 v) (l : List Ct) {c : Ct} (hc : G18 v c) {i : Nat} (hi : i < v.length) (acc : List Rs18) (m : Nat) (hm : 50 ≤ m) (j : Int) (sx sy : Int) (bx : -1000000000 ≤ sx ∧ sx ≤ 1000000000) (by_ : -1000000000 ≤ sy ∧ sy ≤ 1000000000) (hk : c.f0.f0 = v[i].f0 ∨ c.f0.f1 = v[i].f0) :
    billiardref18_Shifts.j2 (m + 1) v l acc (i : Int) j false sx sy c.f0.f0 c.f0.f1 c.f1.f0 c.f1.f1 c.f2 = billiardref18_Shifts.l1 m v l acc (i : Int) (wrap64 (j + 1)) (sx + moved v c v[i].f0 false) (sy + moved v c v[i].f0 true) := by
  have hvl := hv.len
  obtain ⟨p, q, hp, hq, kp, kq, hpq, ap, aq, xp, xq⟩ := two_of hv hc.g
  have va := (hv.good _ (List.getElem_mem hp)).1
  have vb := (hv.good _ (List.getElem_mem hq)).1
  have ma := va.m
  have mb := vb.m
  have f0 : billiardref06_Find.f m v c.f0.f0 = some (p : Int) := by rw [find_is v _ (by omega) (by omega), xp]
  have f1 : billiardref06_Find.f m v c.f0.f1 = some (q : Int) := by rw [find_is v _ (by omega) (by omega), xq]
  have hf3 : v[i].f3 = v[p].f3 ∨ v[i].f3 = v[q].f3 := by
    rcases hk with h | h
    · left
      have := rise_inj hv.rise hp hi (kp.trans h)
      subst this
      rfl
    · right
      have := rise_inj hv.rise hq hi (kq.trans h)
      subst this
      rfl
  have hs : rShareF c v[p] v[q] v[i].f3 = some (shr c v[p] v[q] v[i].f3) := rShare_is hc.depth va vb (by omega) (by omega)
  have hb := shr_bd hc.depth va vb (m := v[i].f3) (by omega) (by omega)
  unfold rShareF at hs
  rw [billiardref18_Shifts.j2, if_neg (by decide), f0]
  simp only [Option.bind_some]
  rw [if_pos (by omega), if_pos (by omega), f1]
  simp only [Option.bind_some]
  rw [if_pos (by omega), if_pos (by omega), if_pos (by omega), if_pos (by omega), rdB hp, rdB hq, rdB hi, hs]
  simp only [Option.bind_some]
  rw [part_floor hb hc.g.nx, part_floor hb hc.g.ny]
  simp only [Option.bind_some]
  have b0 := part_bd hb hc.g.nx
  have b1 := part_bd hb hc.g.ny
  by_cases h0 : c.f0.f0 = v[i].f0
  · have e := rise_inj hv.rise hp hi (kp.trans h0)
    have e0 : moved v c v[i].f0 false = -part (shr c v[p] v[q] v[i].f3) c.f1.f0 := by
      unfold moved
      rw [if_pos h0, ap, aq, if_neg (by decide)]
      subst e
      rfl
    have e1 : moved v c v[i].f0 true = -part (shr c v[p] v[q] v[i].f3) c.f1.f1 := by
      unfold moved
      rw [if_pos h0, ap, aq, if_pos rfl]
      subst e
      rfl
    rw [if_pos h0, e0, e1]
    generalize part (shr c v[p] v[q] v[i].f3) c.f1.f0 = P at *
    generalize part (shr c v[p] v[q] v[i].f3) c.f1.f1 = Q at *
    rw [show wrap64 (sx + wrap64 (-P)) = sx + -P by unfold wrap64; omega, show wrap64 (sy + wrap64 (-Q)) = sy + -Q by unfold wrap64; omega]
  · have h1 : c.f0.f1 = v[i].f0 := hk.resolve_left h0
    have e := rise_inj hv.rise hq hi (kq.trans h1)
    have e0 : moved v c v[i].f0 false = part (shr c v[p] v[q] v[i].f3) c.f1.f0 := by
      unfold moved
      rw [if_neg h0, if_pos h1, ap, aq, if_neg (by decide)]
      subst e
      rfl
    have e1 : moved v c v[i].f0 true = part (shr c v[p] v[q] v[i].f3) c.f1.f1 := by
      unfold moved
      rw [if_neg h0, if_pos h1, ap, aq, if_pos rfl]
      subst e
      rfl
    rw [if_neg h0, e0, e1]
    generalize part (shr c v[p] v[q] v[i].f3) c.f1.f0 = P at *
    generalize part (shr c v[p] v[q] v[i].f3) c.f1.f1 = Q at *
    rw [show wrap64 (sx + P) = sx + P by unfold wrap64; omega, show wrap64 (sy + Q) = sy + Q by unfold wrap64; omega]
theorem one_l1 {v : List Bd} (hv : Vw 40 v) (l : List Ct) (hl : ∀ c ∈ l, G18 v c) (hn : l.length ≤ 100) {i : Nat} (hi : i < v.length) (acc : List Rs18) (m : Nat) (hm : 50 ≤ m) (j : Nat) (hj : j < l.length) (sx sy : Int) (bx : -1000000000 ≤ sx ∧ sx ≤ 1000000000) (by_ : -1000000000 ≤ sy ∧ sy ≤ 1000000000) :
    billiardref18_Shifts.l1 (m + 1 + 1) v l acc (i : Int) (j : Int) sx sy = billiardref18_Shifts.l1 m v l acc (i : Int) ((j + 1 : Nat) : Int) (sx + moved v l[j] v[i].f0 false) (sy + moved v l[j] v[i].f0 true) := by
  have hc := hl _ (List.getElem_mem hj)
  have hw : wrap64 ((j : Int) + 1) = ((j + 1 : Nat) : Int) := step_ix hj (by omega)
  rw [billiardref18_Shifts.l1, if_pos (by omega), if_pos (by omega), if_pos (by omega), if_pos (by omega), rdC hj, rdB hi]
  by_cases h0 : l[j].f0.f0 = v[i].f0
  · rw [if_pos h0, hit_j2 hv l hc hi acc m hm j sx sy bx by_ (Or.inl h0), hw]
  · rw [if_neg h0]
    by_cases h1 : l[j].f0.f1 = v[i].f0
    · rw [show (l[j].f0.f1 != v[i].f0) = false by rw [h1]; exact bne_self_eq_false _, hit_j2 hv l hc hi acc m hm j sx sy bx by_ (Or.inr h1), hw]
    · have e : ∀ s, moved v l[j] v[i].f0 s = 0 := fun s => by unfold moved; rw [if_neg h0, if_neg h1]
      rw [show (l[j].f0.f1 != v[i].f0) = true from bne_iff_ne.mpr h1, billiardref18_Shifts.j2, if_pos rfl, hw, e, e, Int.add_zero, Int.add_zero]
theorem ref_l1 {v : List Bd} (hv : Vw 40 v) (l : List Ct) (hl : ∀ c ∈ l, G18 v c) (hn : l.length ≤ 100) {i : Nat} (hi : i < v.length) (acc : List Rs18) (ha : acc.length ≤ 1000) (k : Nat) (hk : 50 ≤ k) : ∀ (d n j : Nat) (sx sy : Int), l.length - j = d → j ≤ l.length → n = k + 2 * d + 1 → (-(1000000000 - 6710886 * (d : Int)) ≤ sx ∧ sx ≤ 1000000000 - 6710886 * (d : Int)) → (-(1000000000 - 6710886 * (d : Int)) ≤ sy ∧ sy ≤ 1000000000 - 6710886 * (d : Int)) →
    billiardref18_Shifts.l1 n v l acc (i : Int) (j : Int) sx sy = billiardref18_Shifts.l0 k v l (acc ++ [⟨sx + movedL v (l.drop j) v[i].f0 false, sy + movedL v (l.drop j) v[i].f0 true⟩]) ((i + 1 : Nat) : Int) := fun d => by
  have hvl := hv.len
  induction d with
  | zero =>
    intro n j sx sy hd hj hn bx by_
    subst hn
    rw [show k + 2 * 0 + 1 = k + 1 by omega, billiardref18_Shifts.l1, if_neg (by omega), if_pos (by omega), List.drop_eq_nil_of_le (by omega), step_ix hi (by omega)]
    simp [movedL]
  | succ d ih =>
    intro n j sx sy hd hj hn2 bx by_
    have hlt : j < l.length := by omega
    obtain ⟨m, rfl⟩ : ∃ m, n = m + 1 + 1 := ⟨n - 2, by omega⟩
    have m0 := moved_bd hv (hl _ (List.getElem_mem hlt)) v[i].f0 false
    have m1 := moved_bd hv (hl _ (List.getElem_mem hlt)) v[i].f0 true
    rw [one_l1 hv l hl hn hi acc m (by omega) j hlt sx sy (by omega) (by omega), ih m (j + 1) _ _ (by omega) (by omega) (by omega) (by omega) (by omega), List.drop_eq_getElem_cons hlt, movedL, movedL, Int.add_assoc, Int.add_assoc]
theorem ref_l0 {v : List Bd} (hv : Vw 40 v) (l : List Ct) (hl : ∀ c ∈ l, G18 v c) (hn : l.length ≤ 100) : ∀ (d n i : Nat) (acc : List Rs18), v.length - i = d → i ≤ v.length → 60 + 202 * d ≤ n → acc.length + d ≤ 1000 →
    billiardref18_Shifts.l0 n v l acc (i : Int) = some (acc ++ (v.drop i).map fun b => (⟨movedL v l b.f0 false, movedL v l b.f0 true⟩ : Rs18)) := fun d => by
  have hvl := hv.len
  induction d with
  | zero =>
    intro n i acc hd hi hn2 ha
    obtain ⟨m, rfl⟩ : ∃ m, n = m + 1 := ⟨n - 1, by omega⟩
    rw [billiardref18_Shifts.l0, if_neg (by omega), List.drop_eq_nil_of_le (by omega)]
    simp
  | succ d ih =>
    intro n i acc hd hi hn2 ha
    have hlt : i < v.length := by omega
    obtain ⟨m, rfl⟩ : ∃ m, n = m + 1 := ⟨n - 1, by omega⟩
    have e := ref_l1 hv l hl hn hlt acc (by omega) (m - 2 * l.length - 1) (by omega) l.length m 0 0 0 (by omega) (by omega) (by omega) (by omega) (by omega)
    rw [billiardref18_Shifts.l0, if_pos (by omega), show billiardref18_Shifts.l1 m v l acc (i : Int) 0 0 0 = _ from e, ih _ (i + 1) _ (by omega) (by omega) (by omega) (by simp; omega), List.drop_eq_getElem_cons hlt, List.map_cons, List.drop_zero, Int.zero_add, Int.zero_add]
    simp
theorem refShifts_is {v : List Bd} (hv : Vw 40 v) (l : List Ct) (hl : ∀ c ∈ l, G18 v c) (hn : l.length ≤ 100) {n : Nat} (h : 9000 ≤ n) : billiardref18_Shifts.f n v l = some (v.map fun b => (⟨movedL v l b.f0 false, movedL v l b.f0 true⟩ : Rs18)) := by
  have hvl := hv.len
  have e := ref_l0 hv l hl hn v.length n 0 [] (by omega) (by omega) (by omega) (by simp; omega)
  exact e
end Go.Proofs.Ytplmeknmeobanaa.Q

namespace Go.Proofs.Ytplmeknmeobanaa.Pure
open Go.RowKit Go.Proofs.Ytplmeknmeobanaa.Q Go.Proofs.YtplmeknmeobanaaW.PrintWords Go.Proofs.YtplmeknmeobanaaW.PrintLast Go.Proofs.YtplmeknmeobanaaW.PrintMore
set_option linter.unusedVariables false
abbrev Rs := S53
abbrev toR (x : Sh) : Rs := ⟨x.f0, x.f1⟩
theorem rdS {v : List Sh} {i : Nat} (h : i < v.length) : rd_T48 v (i : Int) = v[i] := by
  unfold rd_T48
  simp [List.getD, h]
theorem rdR {v : List Rs} {i : Nat} (h : i < v.length) : rd_T53 v (i : Int) = v[i] := by
  unfold rd_T53
  simp [List.getD, h]
theorem toR_l0 (xs : List Sh) (hx : xs.length ≤ 1000) : ∀ (d k i : Nat) (acc : List Rs), xs.length - i = d → i ≤ xs.length → d < k → acc.length + d ≤ 1000 → billiardlaw18_shifts.l0 k xs acc (i : Int) = some (acc ++ (xs.drop i).map toR) := fun d => by
  induction d with
  | zero =>
    intro k i acc hd hi hk ha
    obtain ⟨k, rfl⟩ : ∃ j, k = j + 1 := ⟨k - 1, by omega⟩
    rw [billiardlaw18_shifts.l0, if_neg (by omega), List.drop_eq_nil_of_le (by omega)]
    simp
  | succ d ih =>
    intro k i acc hd hi hk ha
    obtain ⟨k, rfl⟩ : ∃ j, k = j + 1 := ⟨k - 1, by omega⟩
    have hlt : i < xs.length := by omega
    rw [billiardlaw18_shifts.l0, if_pos (by omega), if_pos (by omega), if_pos (by omega), rdS hlt, step_ix hlt (by omega), List.drop_eq_getElem_cons hlt, List.map_cons, ih k (i + 1) (acc ++ [toR xs[i]]) (by omega) (by omega) (by omega) (by simp; omega)]
    simp
theorem toR_is (xs : List Sh) (hx : xs.length ≤ 1000) {k : Nat} (hk : xs.length < k) : billiardlaw18_shifts.f k xs = some (xs.map toR) := by
  have := toR_l0 xs hx xs.length k 0 [] (by omega) (by omega) hk (by simp; omega)
  unfold billiardlaw18_shifts.f
  simpa using this
theorem same18_l0 (v : List Rs) (hv : v.length ≤ 1000) : ∀ (d k i : Nat), v.length - i = d → i ≤ v.length → d < k → billiardref18_Same.l0 k v v (i : Int) = some true := fun d => by
  induction d with
  | zero =>
    intro k i hd hi hk
    obtain ⟨k, rfl⟩ : ∃ j, k = j + 1 := ⟨k - 1, by omega⟩
    rw [billiardref18_Same.l0, if_neg (by omega)]
  | succ d ih =>
    intro k i hd hi hk
    obtain ⟨k, rfl⟩ : ∃ j, k = j + 1 := ⟨k - 1, by omega⟩
    have hlt : i < v.length := by omega
    rw [billiardref18_Same.l0, if_pos (by omega), if_pos (by omega), if_pos (by omega), if_neg (by simp), step_ix hlt (by omega)]
    exact ih k (i + 1) (by omega) (by omega) (by omega)
theorem same18_is (v : List Rs) (hv : v.length ≤ 1000) {k : Nat} (hk : v.length < k) : billiardref18_Same.f k v v = some true := by
  unfold billiardref18_Same.f
  rw [if_pos rfl]
  exact same18_l0 v hv v.length k 0 (by omega) (by omega) hk
theorem sh_eq {a b : Sh} (h0 : a.f0 = b.f0) (h1 : a.f1 = b.f1) : a = b := by
  cases a; cases b; simp only at h0 h1; rw [h0, h1]
theorem getD_at {xs : List Sh} {t : Nat} (h : t < xs.length) : xs.getD t zS = xs[t] := by simp [List.getD, h]
end Go.Proofs.Ytplmeknmeobanaa.Pure
