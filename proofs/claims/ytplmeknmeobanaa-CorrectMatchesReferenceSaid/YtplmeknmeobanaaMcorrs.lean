/- What the contacts of a view are, what a contact moves, and what all of them move. -/
import Derived.Test.YtplmeknmeobanaaMview
import Derived.Test.YtplmeknmeobanaaQcorrect
import Derived.Test.YtplmeknmeobanaaQbilliardref18
import Derived.Test.YtplmeknmeobanaaQbilliardlaw18
namespace Go.Proofs.Ytplmeknmeobanaa.Q
open Go.RowKit Go.Proofs.YtplmeknmeobanaaW.PrintWords Go.Proofs.YtplmeknmeobanaaW.PrintLast Go.Proofs.YtplmeknmeobanaaW.PrintMore
set_option linter.unusedVariables false
abbrev Ct := S37
abbrev Sh := S48
theorem up_all {α : Type} {f : Nat → Option α} (hm : ∀ k, LeO (f k) (f (k + 1))) {k0 : Nat} {r : α} (h : f k0 = some r) : ∀ k, k0 ≤ k → f k = some r := by
  have : ∀ j, f (k0 + j) = some r := fun j => by
    induction j with
    | zero => exact h
    | succ j ih => exact hm (k0 + j) r ih
  intro k hk
  have := this (k - k0)
  rwa [Nat.add_sub_cancel' hk] at this
theorem rdC {l : List Ct} {i : Nat} (h : i < l.length) : rd_T37 l (i : Int) = l[i] := by
  unfold rd_T37
  simp [List.getD, h]
/-- A contact as the layers of jacobi and of correct require. -/
structure G17 (v : List Bd) (c : Ct) : Prop where
  lt : c.f0.f0 < c.f0.f1
  lo : 0 ≤ ixOf v c.f0.f0 0
  hi : 0 ≤ ixOf v c.f0.f1 0
  nx : -65536 ≤ c.f1.f0 ∧ c.f1.f0 ≤ 65536
  ny : -65536 ≤ c.f1.f1 ∧ c.f1.f1 ≤ 65536
theorem right17_l0 (v : List Bd) (hv : v.length ≤ 40) (l : List Ct) (hl : l.length ≤ 100) : ∀ (d i : Nat), l.length - i = d → i ≤ l.length → ∃ b : Bool, (∀ k, 2 * d + 50 ≤ k → billiardref17_Right.l0 k v l (i : Int) = some b) ∧ (b = true → ∀ x ∈ l.drop i, G17 v x) := fun d => by
  induction d with
  | zero =>
    intro i hd hi
    refine ⟨true, fun k hk => ?_, fun _ x hx => by rw [List.drop_eq_nil_of_le (by omega)] at hx; simp at hx⟩
    obtain ⟨k, rfl⟩ : ∃ j, k = j + 1 := ⟨k - 1, by omega⟩
    rw [billiardref17_Right.l0, if_neg (by omega)]
  | succ d ih =>
    intro i hd hi
    have hlt : i < l.length := by omega
    have f0 : ∀ k, 50 ≤ k → billiardref06_Find.f k v l[i].f0.f0 = some (ixOf v l[i].f0.f0 0) := fun k hk => find_is v _ (by omega) (by omega)
    have f1 : ∀ k, 50 ≤ k → billiardref06_Find.f k v l[i].f0.f1 = some (ixOf v l[i].f0.f1 0) := fun k hk => find_is v _ (by omega) (by omega)
    by_cases c1 : l[i].f0.f0 ≥ l[i].f0.f1
    · refine ⟨false, fun k hk => ?_, fun h => by cases h⟩
      obtain ⟨k, rfl⟩ : ∃ j, k = j + 1 + 1 := ⟨k - 2, by omega⟩
      rw [billiardref17_Right.l0, if_pos (by omega), if_pos (by omega), rdC hlt, if_pos c1, billiardref17_Right.j1, if_pos rfl]
    by_cases c2 : ixOf v l[i].f0.f0 0 < 0
    · refine ⟨false, fun k hk => ?_, fun h => by cases h⟩
      obtain ⟨k, rfl⟩ : ∃ j, k = j + 1 + 1 := ⟨k - 2, by omega⟩
      rw [billiardref17_Right.l0, if_pos (by omega), if_pos (by omega), rdC hlt, if_neg c1, f0 _ (by omega)]
      simp only [Option.bind_some]
      rw [if_pos c2, billiardref17_Right.j1, if_pos rfl]
    have go : ∀ k, 2 * d + 51 ≤ k → billiardref17_Right.l0 (k + 1) v l (i : Int) = billiardref17_Right.j1 k v l (i : Int) (decide (ixOf v l[i].f0.f1 0 < 0)) l[i].f0.f0 l[i].f0.f1 l[i].f1.f0 l[i].f1.f1 l[i].f2 := fun k hk => by
      rw [billiardref17_Right.l0, if_pos (by omega), if_pos (by omega), rdC hlt, if_neg c1, f0 _ (by omega)]
      simp only [Option.bind_some]
      rw [if_neg c2, f1 _ (by omega)]
      rfl
    by_cases c3 : ixOf v l[i].f0.f1 0 < 0
    · refine ⟨false, fun k hk => ?_, fun h => by cases h⟩
      obtain ⟨k, rfl⟩ : ∃ j, k = j + 1 + 1 := ⟨k - 2, by omega⟩
      rw [go _ (by omega), decide_eq_true c3, billiardref17_Right.j1, if_pos rfl]
    rw [decide_eq_false c3] at go
    by_cases c4 : l[i].f1.f0 < (-65536)
    · refine ⟨false, fun k hk => ?_, fun h => by cases h⟩
      obtain ⟨k, rfl⟩ : ∃ j, k = j + 1 + 1 := ⟨k - 2, by omega⟩
      rw [go _ (by omega), billiardref17_Right.j1, if_neg (by decide), if_pos c4]
    by_cases c5 : l[i].f1.f0 > 65536
    · refine ⟨false, fun k hk => ?_, fun h => by cases h⟩
      obtain ⟨k, rfl⟩ : ∃ j, k = j + 1 + 1 := ⟨k - 2, by omega⟩
      rw [go _ (by omega), billiardref17_Right.j1, if_neg (by decide), if_neg c4, if_pos c5]
    by_cases c6 : l[i].f1.f1 < (-65536)
    · refine ⟨false, fun k hk => ?_, fun h => by cases h⟩
      obtain ⟨k, rfl⟩ : ∃ j, k = j + 1 + 1 := ⟨k - 2, by omega⟩
      rw [go _ (by omega), billiardref17_Right.j1, if_neg (by decide), if_neg c4, if_neg c5, if_pos c6]
    by_cases c7 : l[i].f1.f1 > 65536
    · refine ⟨false, fun k hk => ?_, fun h => by cases h⟩
      obtain ⟨k, rfl⟩ : ∃ j, k = j + 1 + 1 := ⟨k - 2, by omega⟩
      rw [go _ (by omega), billiardref17_Right.j1, if_neg (by decide), if_neg c4, if_neg c5, if_neg c6, if_pos c7]
    obtain ⟨b, hb, hg⟩ := ih (i + 1) (by omega) (by omega)
    refine ⟨b, fun k hk => ?_, fun h x hx => ?_⟩
    · obtain ⟨k, rfl⟩ : ∃ j, k = j + 1 + 1 := ⟨k - 2, by omega⟩
      rw [go _ (by omega), billiardref17_Right.j1, if_neg (by decide), if_neg c4, if_neg c5, if_neg c6, if_neg c7, step_ix hlt (by omega)]
      exact hb k (by omega)
    · rw [List.drop_eq_getElem_cons hlt] at hx
      rcases List.mem_cons.mp hx with rfl | hx
      · exact ⟨by omega, by omega, by omega, ⟨by omega, by omega⟩, ⟨by omega, by omega⟩⟩
      · exact hg h x hx
theorem right18_l0 (l : List Ct) (hl : l.length ≤ 100) : ∀ (d i : Nat), l.length - i = d → i ≤ l.length → ∃ b : Bool, (∀ k, d + 1 ≤ k → billiardref18_Right.l0 k l (i : Int) = some b) ∧ (b = true → ∀ x ∈ l.drop i, 1 ≤ x.f2 ∧ x.f2 ≤ 16777216) := fun d => by
  induction d with
  | zero =>
    intro i hd hi
    refine ⟨true, fun k hk => ?_, fun _ x hx => by rw [List.drop_eq_nil_of_le (by omega)] at hx; simp at hx⟩
    obtain ⟨k, rfl⟩ : ∃ j, k = j + 1 := ⟨k - 1, by omega⟩
    rw [billiardref18_Right.l0, if_neg (by omega)]
  | succ d ih =>
    intro i hd hi
    have hlt : i < l.length := by omega
    by_cases c1 : l[i].f2 < 1
    · refine ⟨false, fun k hk => ?_, fun h => by cases h⟩
      obtain ⟨k, rfl⟩ : ∃ j, k = j + 1 := ⟨k - 1, by omega⟩
      rw [billiardref18_Right.l0, if_pos (by omega), if_pos (by omega), rdC hlt, if_pos c1]
    by_cases c2 : l[i].f2 > 16777216
    · refine ⟨false, fun k hk => ?_, fun h => by cases h⟩
      obtain ⟨k, rfl⟩ : ∃ j, k = j + 1 := ⟨k - 1, by omega⟩
      rw [billiardref18_Right.l0, if_pos (by omega), if_pos (by omega), rdC hlt, if_neg c1, if_pos c2]
    obtain ⟨b, hb, hg⟩ := ih (i + 1) (by omega) (by omega)
    refine ⟨b, fun k hk => ?_, fun h x hx => ?_⟩
    · obtain ⟨k, rfl⟩ : ∃ j, k = j + 1 := ⟨k - 1, by omega⟩
      rw [billiardref18_Right.l0, if_pos (by omega), if_pos (by omega), rdC hlt, if_neg c1, if_neg c2, step_ix hlt (by omega)]
      exact hb k (by omega)
    · rw [List.drop_eq_getElem_cons hlt] at hx
      rcases List.mem_cons.mp hx with rfl | hx
      · exact ⟨by omega, by omega⟩
      · exact hg h x hx
/-- A contact as the layer of correct requires. -/
structure G18 (v : List Bd) (c : Ct) : Prop where
  g : G17 v c
  depth : 1 ≤ c.f2 ∧ c.f2 ≤ 16777216
theorem right18_is (v : List Bd) (hv : v.length ≤ 40) (l : List Ct) : ∃ b : Bool, (∀ k, 300 ≤ k → billiardref18_Right.f k v l = some b) ∧ (b = true → l.length ≤ 100 ∧ ∀ x ∈ l, G18 v x) := by
  by_cases h100 : (l.length : Int) > 100
  · refine ⟨false, fun k hk => ?_, fun h => by cases h⟩
    unfold billiardref18_Right.f billiardref17_Right.f
    rw [if_pos h100]
    rfl
  obtain ⟨b, hb, hg⟩ := right17_l0 v hv l (by omega) l.length 0 (by omega) (by omega)
  obtain ⟨b2, hb2, hg2⟩ := right18_l0 l (by omega) l.length 0 (by omega) (by omega)
  refine ⟨b && b2, fun k hk => ?_, fun h => ?_⟩
  · unfold billiardref18_Right.f billiardref17_Right.f
    rw [if_neg h100, show billiardref17_Right.l0 k v l 0 = _ from hb k (by omega)]
    simp only [Option.bind_some]
    cases b
    · rfl
    · rw [if_pos rfl, show billiardref18_Right.l0 k l 0 = _ from hb2 k (by omega)]
      rfl
  · rw [Bool.and_eq_true] at h
    exact ⟨by omega, fun x hx => ⟨hg h.1 x (by simpa using hx), hg2 h.2 x (by simpa using hx)⟩⟩
/-- How far a contact corrects. -/
def amt (c : Ct) (a b : Bd) : Int := if c.f2 ≤ 1024 ∨ (a.f3 = 0 ∧ b.f3 = 0) then 0 else (c.f2 - 1024) * 26214 / 65536
theorem amt_bd {c : Ct} (hc : 1 ≤ c.f2 ∧ c.f2 ≤ 16777216) (a b : Bd) : 0 ≤ amt c a b ∧ amt c a b ≤ 6710886 := by
  unfold amt
  split <;> omega
abbrev amountF (c : Ct) (a b : Bd) := correct_Amount.f c.f0.f0 c.f0.f1 c.f1.f0 c.f1.f1 c.f2 a.f0 a.f1 a.f2.f0 a.f2.f1 a.f3 a.f4 a.f5.f0 a.f5.f1 a.f6.f0 a.f6.f1 b.f0 b.f1 b.f2.f0 b.f2.f1 b.f3 b.f4 b.f5.f0 b.f5.f1 b.f6.f0 b.f6.f1
abbrev shareF (c : Ct) (a b : Bd) (high : Bool) := correct_Share.f c.f0.f0 c.f0.f1 c.f1.f0 c.f1.f1 c.f2 a.f0 a.f1 a.f2.f0 a.f2.f1 a.f3 a.f4 a.f5.f0 a.f5.f1 a.f6.f0 a.f6.f1 b.f0 b.f1 b.f2.f0 b.f2.f1 b.f3 b.f4 b.f5.f0 b.f5.f1 b.f6.f0 b.f6.f1 high
theorem amount_is {c : Ct} (hc : 1 ≤ c.f2 ∧ c.f2 ≤ 16777216) (a b : Bd) : amountF c a b = some (amt c a b) := by
  unfold amountF correct_Amount.f amt
  have e1 : wrap64 (wrap64 c.f2 - 1024) = c.f2 - 1024 := by unfold wrap64; omega
  have e2 : wrap64 ((c.f2 - 1024) * 26214) = (c.f2 - 1024) * 26214 := by unfold wrap64; omega
  rw [e1, e2]
  by_cases h1 : c.f2 - 1024 ≤ 0
  · rw [if_pos h1, if_pos (Or.inl (by omega))]
  · rw [if_neg h1]
    by_cases h2 : a.f3 = 0
    · rw [if_pos h2]
      by_cases h3 : b.f3 = 0
      · rw [if_pos h3, if_pos (Or.inr ⟨h2, h3⟩)]
      · rw [if_neg h3, if_neg (by omega)]
    · rw [if_neg h2, if_neg (by omega)]
/-- The share of one of the two bodies, whose inverse mass is m. -/
def shr (c : Ct) (a b : Bd) (m : Int) : Int := amt c a b * m / mx 1 (a.f3 + b.f3)
theorem shr_bd {c : Ct} (hc : 1 ≤ c.f2 ∧ c.f2 ≤ 16777216) {a b : Bd} (ha : VB a) (hb : VB b) {m : Int} (hm : 0 ≤ m) (hm2 : m ≤ a.f3 + b.f3) : 0 ≤ shr c a b m ∧ shr c a b m ≤ 6710886 := by
  have h := amt_bd hc a b
  unfold shr
  generalize amt c a b = n at *
  have hx : 1 ≤ mx 1 (a.f3 + b.f3) ∧ a.f3 + b.f3 ≤ mx 1 (a.f3 + b.f3) := by unfold mx; omega
  generalize mx 1 (a.f3 + b.f3) = d at *
  refine ⟨Int.ediv_nonneg (Int.mul_nonneg h.1 hm) (by omega), Int.le_trans (Int.ediv_le_of_le_mul (by omega) (Int.mul_le_mul_of_nonneg_left (show m ≤ d by omega) h.1)) h.2⟩
theorem share_is {c : Ct} (hc : 1 ≤ c.f2 ∧ c.f2 ≤ 16777216) {a b : Bd} (ha : VB a) (hb : VB b) (high : Bool) : shareF c a b high = some (shr c a b (if high then b.f3 else a.f3)) := by
  have h := amt_bd hc a b
  have ma := ha.m
  have mb := hb.m
  have key : ∀ m : Int, 0 ≤ m → m ≤ a.f3 + b.f3 → m ≤ 1048576 → (wide_MulDiv.f (amt c a b) (wrap64 m) (mx 1 (wrap64 ((wrap64 (a.f3)) + (wrap64 (b.f3)))))).bind (fun t => some t.1) = some (shr c a b m) := fun m h0 h1 h2 => by
    have e1 : wrap64 m = m := by unfold wrap64; omega
    have e2 : wrap64 ((wrap64 (a.f3)) + (wrap64 (b.f3))) = a.f3 + b.f3 := by unfold wrap64; omega
    have hs := shr_bd hc ha hb h0 h1
    rw [e1, e2]
    unfold shr at hs ⊢
    have hx : 1 ≤ mx 1 (a.f3 + b.f3) ∧ mx 1 (a.f3 + b.f3) ≤ 2097152 := by unfold mx; omega
    generalize mx 1 (a.f3 + b.f3) = d at *
    unfold wide_MulDiv.f
    rw [if_pos ⟨i64B_iff.mpr (by omega), i64B_iff.mpr (by omega), i64B_iff.mpr (by omega)⟩]
    have ef : fl (amt c a b * m) d = amt c a b * m / d := by unfold fl; rw [if_pos (by omega)]
    unfold mulDivS
    rw [if_neg (by omega), ef, if_pos (i64B_iff.mpr ⟨by omega, by omega⟩)]
    rfl
  have he := amount_is hc a b
  unfold amountF at he
  unfold shareF correct_Share.f
  cases high
  · rw [if_neg (by decide), he]
    exact key a.f3 ma.1 (by omega) ma.2
  · rw [if_pos rfl, he]
    exact key b.f3 mb.1 (by omega) mb.2
/-- A share along one of the normal's coordinates. -/
def part (s n : Int) : Int := s * n / 65536
theorem part_bd {s n : Int} (hs : 0 ≤ s ∧ s ≤ 6710886) (hn : -65536 ≤ n ∧ n ≤ 65536) : -6710886 ≤ part s n ∧ part s n ≤ 6710886 := by
  have h1 := Int.mul_le_mul_of_nonneg_left hn.2 hs.1
  have h2 := Int.mul_le_mul_of_nonneg_left hn.1 hs.1
  unfold part
  generalize s * n = p at *
  omega
theorem part_wrap {s n : Int} (hs : 0 ≤ s ∧ s ≤ 6710886) (hn : -65536 ≤ n ∧ n ≤ 65536) : wrap64 (s * wrap64 n) / 65536 = part s n := by
  have h1 := Int.mul_le_mul_of_nonneg_left hn.2 hs.1
  have h2 := Int.mul_le_mul_of_nonneg_left hn.1 hs.1
  have e : wrap64 n = n := by unfold wrap64; omega
  rw [e]
  unfold part
  generalize s * n = p at *
  have e2 : wrap64 p = p := by unfold wrap64; omega
  rw [e2]
theorem shiftV_is {x : Sh} {s nx ny : Int} (hs : 0 ≤ s ∧ s ≤ 6710886) (hx : -65536 ≤ nx ∧ nx ≤ 65536) (hy : -65536 ≤ ny ∧ ny ≤ 65536) {B : Int} (b0 : -B ≤ x.f0 ∧ x.f0 ≤ B) (b1 : -B ≤ x.f1 ∧ x.f1 ≤ B) (hB : B ≤ 1000000000000) (g : Int) (hg : g = 1 ∨ g = -1) : shiftV x s g nx ny = ⟨x.f0 + g * part s nx, x.f1 + g * part s ny⟩ := by
  unfold shiftV
  rw [part_wrap hs hx, part_wrap hs hy]
  have h1 := part_bd hs hx
  have h2 := part_bd hs hy
  generalize part s nx = p at *
  generalize part s ny = q at *
  have e : ∀ a b : Int, -1000000000000 ≤ a → a ≤ 1000000000000 → -6710886 ≤ b → b ≤ 6710886 → wrap64 (a + wrap64 (g * b)) = a + g * b := fun a b h0 h1 h2 h3 => by
    rcases hg with rfl | rfl <;> (unfold wrap64; omega)
  rw [e _ _ (by omega) (by omega) (by omega) (by omega), e _ _ (by omega) (by omega) (by omega) (by omega)]
end Go.Proofs.Ytplmeknmeobanaa.Q

namespace Go.Proofs.Ytplmeknmeobanaa.Q
open Go.RowKit Go.Proofs.YtplmeknmeobanaaW.PrintWords Go.Proofs.YtplmeknmeobanaaW.PrintLast Go.Proofs.YtplmeknmeobanaaW.PrintMore
set_option linter.unusedVariables false
abbrev zS : Sh := z48
theorem getD_set {xs : List Sh} {m : Nat} (h : m < xs.length) (y : Sh) (t : Nat) : (xs.set m y).getD t zS = if m = t then y else xs.getD t zS := by
  simp only [List.getD, List.getElem?_set]
  by_cases c : m = t
  · rw [if_pos c, if_pos c]
    subst c
    rw [if_pos h]
    rfl
  · rw [if_neg c, if_neg c]
/-- The body of a view with a key. -/
def atK (v : List Bd) (key : Int) : Bd := v.getD (ixOf v key 0).toNat z32
/-- What a contact moves a body with a key, along one coordinate. -/
def moved (v : List Bd) (c : Ct) (key : Int) (second : Bool) : Int :=
  if c.f0.f0 = key then -part (shr c (atK v c.f0.f0) (atK v c.f0.f1) (atK v c.f0.f0).f3) (if second then c.f1.f1 else c.f1.f0)
  else if c.f0.f1 = key then part (shr c (atK v c.f0.f0) (atK v c.f0.f1) (atK v c.f0.f1).f3) (if second then c.f1.f1 else c.f1.f0)
  else 0
def movedL (v : List Bd) : List Ct → Int → Bool → Int
  | [], _, _ => 0
  | c :: l, key, s => moved v c key s + movedL v l key s
/-- The two bodies of a contact of a view. -/
theorem two_of {v : List Bd} (hv : Vw 40 v) {c : Ct} (hc : G17 v c) : ∃ i j, ∃ hi : i < v.length, ∃ hj : j < v.length, v[i].f0 = c.f0.f0 ∧ v[j].f0 = c.f0.f1 ∧ i ≠ j ∧ atK v c.f0.f0 = v[i] ∧ atK v c.f0.f1 = v[j] ∧ ixOf v c.f0.f0 0 = (i : Int) ∧ ixOf v c.f0.f1 0 = (j : Int) := by
  obtain ⟨i, hi, ei, ki⟩ := ixOf_some v c.f0.f0 0 hc.lo
  obtain ⟨j, hj, ej, kj⟩ := ixOf_some v c.f0.f1 0 hc.hi
  rw [Nat.zero_add] at ei ej
  refine ⟨i, j, hi, hj, ki, kj, fun e => ?_, ?_, ?_, ei, ej⟩
  · subst e
    have := hc.lt
    omega
  · unfold atK
    rw [ei]
    simp [List.getD, hi]
  · unfold atK
    rw [ej]
    simp [List.getD, hj]
theorem moved_bd {v : List Bd} (hv : Vw 40 v) {c : Ct} (hc : G18 v c) (key : Int) (s : Bool) : -6710886 ≤ moved v c key s ∧ moved v c key s ≤ 6710886 := by
  obtain ⟨i, j, hi, hj, ki, kj, hij, ai, aj, _, _⟩ := two_of hv hc.g
  have hn : -65536 ≤ (if s then c.f1.f1 else c.f1.f0) ∧ (if s then c.f1.f1 else c.f1.f0) ≤ 65536 := by
    cases s
    · exact hc.g.nx
    · exact hc.g.ny
  unfold moved
  rw [ai, aj]
  have va := (hv.good _ (List.getElem_mem hi)).1
  have vb := (hv.good _ (List.getElem_mem hj)).1
  have ma := va.m
  have mb := vb.m
  have h1 := part_bd (shr_bd hc.depth va vb ma.1 (by omega)) hn
  have h2 := part_bd (shr_bd hc.depth va vb mb.1 (by omega)) hn
  split
  · omega
  · split
    · exact h2
    · omega
theorem movedL_bd {v : List Bd} (hv : Vw 40 v) (key : Int) (s : Bool) : ∀ l : List Ct, (∀ c ∈ l, G18 v c) → -(6710886 * (l.length : Int)) ≤ movedL v l key s ∧ movedL v l key s ≤ 6710886 * (l.length : Int)
  | [], _ => by simp [movedL]
  | c :: l, h => by
    have h1 := moved_bd hv (h c (by simp)) key s
    have h2 := movedL_bd hv key s l (fun x hx => h x (List.mem_cons_of_mem _ hx))
    rw [movedL, List.length_cons]
    omega
theorem shiftsL_step {v : List Bd} (hv : Vw 40 v) {c : Ct} (hc : G18 v c) (l : List Ct) (xs : List Sh) {B : Int} (hxs : xs.length = v.length) (hB : ∀ t, t < v.length → (-B ≤ (xs.getD t zS).f0 ∧ (xs.getD t zS).f0 ≤ B) ∧ -B ≤ (xs.getD t zS).f1 ∧ (xs.getD t zS).f1 ≤ B) (hb : B ≤ 1000000000000) :
    ∃ ys : List Sh, shiftsL v (c :: l) xs = shiftsL v l ys ∧ ys.length = v.length ∧ ∀ t (h : t < v.length), (ys.getD t zS).f0 = (xs.getD t zS).f0 + moved v c v[t].f0 false ∧ (ys.getD t zS).f1 = (xs.getD t zS).f1 + moved v c v[t].f0 true := by
  obtain ⟨i, j, hi, hj, ki, kj, hij, ai, aj, _, _⟩ := two_of hv hc.g
  have va := (hv.good _ (List.getElem_mem hi)).1
  have vb := (hv.good _ (List.getElem_mem hj)).1
  have ma := va.m
  have mb := vb.m
  have s0 := share_is hc.depth va vb false
  have s1 := share_is hc.depth va vb true
  unfold shareF at s0 s1
  rw [if_neg (by decide)] at s0
  rw [if_pos rfl] at s1
  have d0 := shr_bd hc.depth va vb ma.1 (by omega)
  have d1 := shr_bd hc.depth va vb mb.1 (by omega)
  rw [shiftsL, vfind_at hv.rise hi ki]
  simp only [Option.bind_some]
  rw [vfind_at hv.rise hj kj]
  simp only [Option.bind_some]
  rw [if_pos ⟨by omega, by omega⟩, rdB hi, rdB hj, s0]
  simp only [Option.bind_some]
  rw [s1]
  simp only [Option.bind_some, Int.toNat_natCast]
  have w0 := shiftV_is (x := xs.getD i zS) d0 hc.g.nx hc.g.ny (hB i hi).1 (hB i hi).2 hb (-1) (Or.inr rfl)
  have w1 := shiftV_is (x := xs.getD j zS) d1 hc.g.nx hc.g.ny (hB j hj).1 (hB j hj).2 hb 1 (Or.inl rfl)
  rw [show shiftV (xs.getD i z48) _ (-1) c.f1.f0 c.f1.f1 = _ from w0, getD_set (by omega), if_neg hij, show shiftV (xs.getD j z48) _ 1 c.f1.f0 c.f1.f1 = _ from w1]
  refine ⟨_, rfl, by simp [hxs], fun t h => ?_⟩
  rw [getD_set (by rw [List.length_set]; omega), getD_set (by omega)]
  unfold moved
  rw [ai, aj]
  by_cases c1 : i = t
  · subst c1
    rw [if_neg (fun e => hij e.symm), if_pos rfl, if_pos ki.symm, if_pos ki.symm]
    simp only [if_true]
    exact ⟨by rw [if_neg (by decide)]; omega, by omega⟩
  · have k1 : ¬ c.f0.f0 = v[t].f0 := fun e => c1 (rise_inj hv.rise hi h (ki.trans e))
    rw [if_neg k1, if_neg k1, if_neg c1]
    by_cases c2 : j = t
    · subst c2
      rw [if_pos rfl, if_pos kj.symm, if_pos kj.symm]
      simp only [if_true]
      exact ⟨by rw [if_neg (by decide)]; omega, by omega⟩
    · have k2 : ¬ c.f0.f1 = v[t].f0 := fun e => c2 (rise_inj hv.rise hj h (kj.trans e))
      rw [if_neg k2, if_neg k2, if_neg c2]
      simp
theorem shiftsL_is {v : List Bd} (hv : Vw 40 v) : ∀ (l : List Ct) (xs : List Sh) (B : Int), (∀ c ∈ l, G18 v c) → xs.length = v.length → (∀ t, t < v.length → (-B ≤ (xs.getD t zS).f0 ∧ (xs.getD t zS).f0 ≤ B) ∧ -B ≤ (xs.getD t zS).f1 ∧ (xs.getD t zS).f1 ≤ B) → B + 6710886 * (l.length : Int) ≤ 1000000000000 →
    ∃ ys : List Sh, shiftsL v l xs = some ys ∧ ys.length = v.length ∧ ∀ t (h : t < v.length), (ys.getD t zS).f0 = (xs.getD t zS).f0 + movedL v l v[t].f0 false ∧ (ys.getD t zS).f1 = (xs.getD t zS).f1 + movedL v l v[t].f0 true
  | [], xs, B, _, hxs, _, _ => ⟨xs, by rw [shiftsL], hxs, fun t h => by simp [movedL]⟩
  | c :: l, xs, B, hl, hxs, hB, hb => by
    rw [List.length_cons] at hb
    obtain ⟨ys, e, hys, hm⟩ := shiftsL_step hv (hl c (by simp)) l xs hxs hB (by omega)
    obtain ⟨zs, e2, hzs, hm2⟩ := shiftsL_is hv l ys (B + 6710886) (fun x hx => hl x (List.mem_cons_of_mem _ hx)) hys (fun t ht => by
      have h1 := hB t ht
      have h2 := hm t ht
      have h3 := moved_bd hv (hl c (by simp)) v[t].f0 false
      have h4 := moved_bd hv (hl c (by simp)) v[t].f0 true
      omega) (by omega)
    refine ⟨zs, e.trans e2, hzs, fun t ht => ?_⟩
    have h2 := hm t ht
    have h3 := hm2 t ht
    rw [movedL, movedL]
    omega
/-- The shifts of a view's bodies. -/
theorem shifts_is {v : List Bd} (hv : Vw 40 v) (l : List Ct) (hl : ∀ c ∈ l, G18 v c) (hn : l.length ≤ 1000) : ∃ ys : List Sh, correct_Shifts.f v l = some ys ∧ ys.length = v.length ∧ ∀ t (h : t < v.length), (ys.getD t zS).f0 = movedL v l v[t].f0 false ∧ (ys.getD t zS).f1 = movedL v l v[t].f0 true := by
  have hz : ∀ t, t < v.length → (List.replicate v.length zS).getD t zS = zS := fun t h => by simp [List.getD, h]
  obtain ⟨ys, e, hys, hm⟩ := shiftsL_is hv l (List.replicate v.length zS) 0 hl (by simp) (fun t ht => by rw [hz t ht]; decide) (by omega)
  refine ⟨ys, ?_, hys, fun t h => ?_⟩
  · unfold correct_Shifts.f
    rw [if_pos (by have := hv.len; omega)]
    exact e
  · have := hm t h
    rw [hz t h] at this
    rw [this.1, this.2]
    exact ⟨Int.zero_add _, Int.zero_add _⟩
theorem awake18 : ∀ k, 12 ≤ k → billiardlaw18_awake.f k = some true := up_all billiardlaw18_awake.mono (by kernel_rfl)
end Go.Proofs.Ytplmeknmeobanaa.Q
