/- What a view of the reference is: its keys rise, its bodies are valid; where its keys are found. -/
import Derived.Test.YtplmeknmeobanaaQbilliardref11
import Derived.Test.YtplmeknmeobanaaMbody
import Derived.Test.YtplmeknmeobanaaMslice
import Derived.Test.YtplmeknmeobanaaQview
namespace Go.Proofs.Ytplmeknmeobanaa.Q
open Go.RowKit Go.Proofs.YtplmeknmeobanaaW.PrintWords Go.Proofs.YtplmeknmeobanaaW.PrintLast Go.Proofs.YtplmeknmeobanaaW.PrintMore
set_option linter.unusedVariables false
abbrev Bd := S32
theorem step_ix {i n : Nat} (h : i < n) (hn : n ≤ 1000000) : wrap64 ((i : Int) + 1) = ((i + 1 : Nat) : Int) := by unfold wrap64; omega
theorem rdB {v : List Bd} {i : Nat} (h : i < v.length) : rd_T32 v (i : Int) = v[i] := by
  unfold rd_T32
  simp [List.getD, h]
def VB (x : Bd) : Prop := Valid x.f0 x.f1 x.f2.f0 x.f2.f1 x.f3 x.f4 x.f5.f0 x.f5.f1 x.f6.f0 x.f6.f1
abbrev chk (k : Nat) (x : Bd) : Option Int := billiardref05_Check.f k x.f0 x.f1 x.f2.f0 x.f2.f1 x.f3 x.f4 x.f5.f0 x.f5.f1 x.f6.f0 x.f6.f1
theorem chk_up (x : Bd) (r : Int) (h : chk 5 x = some r) : ∀ k, chk (k + 5) x = some r
  | 0 => h
  | k + 1 => billiardref05_Check.mono _ _ _ _ _ _ _ _ _ _ (k + 5) r (chk_up x r h k)
/-- The error of a body. -/
def why (x : Bd) : Int := (chk 5 x).getD 0
theorem chk_is (x : Bd) {k : Nat} (hk : 5 ≤ k) : chk k x = some (why x) ∧ (why x = 0 → VB x) := by
  have h5 : chk 5 x = some (why x) := by
    rcases Check_cases 0 x.f0 x.f1 x.f2.f0 x.f2.f1 x.f3 x.f4 x.f5.f0 x.f5.f1 x.f6.f0 x.f6.f1 with ⟨h, _⟩ | ⟨e, _, h⟩ <;> (unfold why; rw [show chk 5 x = _ from h]; rfl)
  refine ⟨by have := chk_up x _ h5 (k - 5); rwa [Nat.sub_add_cancel hk] at this, fun h0 => ?_⟩
  rcases Check_cases 0 x.f0 x.f1 x.f2.f0 x.f2.f1 x.f3 x.f4 x.f5.f0 x.f5.f1 x.f6.f0 x.f6.f1 with ⟨_, h⟩ | ⟨e, he, h⟩
  · exact h
  · rw [show chk 5 x = _ from h] at h5
    simp only [Option.some.injEq] at h5
    exact absurd (h5.trans h0) he
/-- The index of a key, or -1. -/
def ixOf : List Bd → Int → Nat → Int
  | [], _, _ => -1
  | b :: l, key, n => if b.f0 = key then (n : Int) else ixOf l key (n + 1)
theorem find_l0 (v : List Bd) (key : Int) (hv : v.length ≤ 1000000) : ∀ (d k i : Nat), v.length - i = d → i ≤ v.length → d < k → billiardref06_Find.l0 k v key (i : Int) = some (ixOf (v.drop i) key i) := fun d => by
  induction d with
  | zero =>
    intro k i hd hi hk
    obtain ⟨k, rfl⟩ : ∃ j, k = j + 1 := ⟨k - 1, by omega⟩
    rw [billiardref06_Find.l0, if_neg (by omega), List.drop_eq_nil_of_le (by omega)]
    rfl
  | succ d ih =>
    intro k i hd hi hk
    obtain ⟨k, rfl⟩ : ∃ j, k = j + 1 := ⟨k - 1, by omega⟩
    have hlt : i < v.length := by omega
    rw [billiardref06_Find.l0, if_pos (by omega), if_pos (by omega), rdB hlt, List.drop_eq_getElem_cons hlt, ixOf]
    by_cases c : v[i].f0 = key
    · rw [if_pos c, if_pos c]
    · rw [if_neg c, if_neg c, step_ix hlt hv]
      exact ih k (i + 1) (by omega) (by omega) (by omega)
theorem find_is (v : List Bd) (key : Int) (hv : v.length ≤ 1000000) {k : Nat} (hk : v.length < k) : billiardref06_Find.f k v key = some (ixOf v key 0) := by
  have := find_l0 v key hv v.length k 0 (by omega) (by omega) (by omega)
  exact this
theorem ixOf_none : ∀ (v : List Bd) (key : Int) (n : Nat), ixOf v key n < 0 → ∀ x ∈ v, x.f0 ≠ key
  | [], _, _, _, x, hx => by simp at hx
  | b :: l, key, n, h, x, hx => by
    unfold ixOf at h
    split at h
    · omega
    · rename_i hb
      rcases List.mem_cons.mp hx with rfl | hx
      · exact hb
      · exact ixOf_none l key (n + 1) h x hx
theorem ixOf_some : ∀ (v : List Bd) (key : Int) (n : Nat), 0 ≤ ixOf v key n → ∃ i, ∃ h : i < v.length, ixOf v key n = ((n + i : Nat) : Int) ∧ v[i].f0 = key
  | [], _, _, h => by simp [ixOf] at h
  | b :: l, key, n, h => by
    unfold ixOf at h ⊢
    split at h
    · rename_i hb
      exact ⟨0, by simp, by simp [hb], hb⟩
    · rename_i hb
      obtain ⟨i, hi, e, hk⟩ := ixOf_some l key (n + 1) h
      exact ⟨i + 1, by simpa using hi, by rw [if_neg hb, e]; omega, by simpa using hk⟩
/-- The keys rise. -/
def Rise (v : List Bd) : Prop := v.Pairwise (fun x y => x.f0 < y.f0)
/-- A body put among others. -/
def ins (b : Bd) : List Bd → List Bd
  | [] => [b]
  | x :: l => if x.f0 ≥ b.f0 then b :: x :: l else x :: ins b l
theorem ins_len (b : Bd) : ∀ l, (ins b l).length = l.length + 1
  | [] => rfl
  | x :: l => by
    unfold ins
    split
    · rfl
    · simp [ins_len b l]
theorem ins_mem (b : Bd) : ∀ l y, y ∈ ins b l → y = b ∨ y ∈ l
  | [], y, h => by simpa [ins] using h
  | x :: l, y, h => by
    unfold ins at h
    split at h
    · simpa using h
    · rcases List.mem_cons.mp h with rfl | h
      · exact Or.inr (by simp)
      · rcases ins_mem b l y h with h | h
        · exact Or.inl h
        · exact Or.inr (List.mem_cons_of_mem _ h)
theorem ins_rise (b : Bd) : ∀ l, Rise l → (∀ x ∈ l, x.f0 ≠ b.f0) → Rise (ins b l)
  | [], _, _ => by simp [ins, Rise]
  | x :: l, hr, hn => by
    have hx := hn x (by simp)
    obtain ⟨h1, h2⟩ := List.pairwise_cons.mp hr
    unfold ins
    split
    · refine List.pairwise_cons.mpr ⟨fun y hy => ?_, hr⟩
      rcases List.mem_cons.mp hy with rfl | hy
      · omega
      · have := h1 y hy
        omega
    · refine List.pairwise_cons.mpr ⟨fun y hy => ?_, ins_rise b l h2 (fun y hy => hn y (List.mem_cons_of_mem _ hy))⟩
      rcases ins_mem b l y hy with rfl | hy
      · omega
      · exact h1 y hy
abbrev putL (k : Nat) (v acc : List Bd) (d : Bool) (i : Int) (b : Bd) := billiardref06_Put.l0 k v acc d i b.f0 b.f1 b.f2.f0 b.f2.f1 b.f3 b.f4 b.f5.f0 b.f5.f1 b.f6.f0 b.f6.f1
theorem put_rest (v : List Bd) (b : Bd) (hv : v.length ≤ 1000000) (hn : ∀ x ∈ v, x.f0 ≠ b.f0) : ∀ (d k i : Nat) (acc : List Bd), v.length - i = d → i ≤ v.length → 2 * d < k → acc.length + d ≤ 2000000 → putL k v acc true (i : Int) b = some (acc ++ v.drop i) := fun d => by
  induction d with
  | zero =>
    intro k i acc hd hi hk ha
    obtain ⟨k, rfl⟩ : ∃ j, k = j + 1 := ⟨k - 1, by omega⟩
    rw [putL, billiardref06_Put.l0, if_neg (by omega), List.drop_eq_nil_of_le (by omega), if_pos rfl, List.append_nil]
  | succ d ih =>
    intro k i acc hd hi hk ha
    obtain ⟨k, rfl⟩ : ∃ j, k = j + 1 + 1 := ⟨k - 2, by omega⟩
    have hlt : i < v.length := by omega
    rw [putL, billiardref06_Put.l0, if_pos (by omega), if_pos rfl, billiardref06_Put.j1, if_neg (by decide), if_pos (by omega), if_pos (by omega), rdB hlt, if_neg (hn _ (List.getElem_mem hlt)), if_pos (by omega), step_ix hlt hv]
    have := ih k (i + 1) (acc ++ [v[i]]) (by omega) (by omega) (by omega) (by simp; omega)
    rw [List.drop_eq_getElem_cons hlt, show acc ++ v[i] :: v.drop (i + 1) = acc ++ [v[i]] ++ v.drop (i + 1) by simp]
    exact this
theorem put_l0 (v : List Bd) (b : Bd) (hv : v.length ≤ 1000000) (hn : ∀ x ∈ v, x.f0 ≠ b.f0) : ∀ (d k i : Nat) (acc : List Bd), v.length - i = d → i ≤ v.length → 2 * d < k → acc.length + d ≤ 1000000 → putL k v acc false (i : Int) b = some (acc ++ ins b (v.drop i)) := fun d => by
  induction d with
  | zero =>
    intro k i acc hd hi hk ha
    obtain ⟨k, rfl⟩ : ∃ j, k = j + 1 := ⟨k - 1, by omega⟩
    rw [putL, billiardref06_Put.l0, if_neg (by omega), List.drop_eq_nil_of_le (by omega), if_neg (by decide), if_pos (by omega)]
    rfl
  | succ d ih =>
    intro k i acc hd hi hk ha
    obtain ⟨k, rfl⟩ : ∃ j, k = j + 1 + 1 := ⟨k - 2, by omega⟩
    have hlt : i < v.length := by omega
    rw [putL, billiardref06_Put.l0, if_pos (by omega), if_neg (by decide), if_pos (by omega), rdB hlt, List.drop_eq_getElem_cons hlt, ins, billiardref06_Put.j1]
    by_cases c : v[i].f0 ≥ b.f0
    · rw [decide_eq_true c, if_pos rfl, if_pos (by omega), if_pos c]
      simp only [Option.bind_some]
      rw [if_pos (by omega), if_pos (by omega), rdB hlt, if_neg (hn _ (List.getElem_mem hlt)), if_pos (by simp; omega), step_ix hlt hv]
      have := put_rest v b hv hn d k (i + 1) (acc ++ [b] ++ [v[i]]) (by omega) (by omega) (by omega) (by simp; omega)
      rw [show acc ++ b :: v[i] :: v.drop (i + 1) = acc ++ [b] ++ [v[i]] ++ v.drop (i + 1) by simp]
      exact this
    · rw [decide_eq_false c, if_neg (by decide), if_neg c, if_pos (by omega), if_pos (by omega), rdB hlt, if_neg (hn _ (List.getElem_mem hlt)), if_pos (by omega), step_ix hlt hv]
      have := ih k (i + 1) (acc ++ [v[i]]) (by omega) (by omega) (by omega) (by simp; omega)
      rw [show acc ++ v[i] :: ins b (v.drop (i + 1)) = acc ++ [v[i]] ++ ins b (v.drop (i + 1)) by simp]
      exact this
/-- What stands in a view. -/
structure Vw (n : Nat) (v : List Bd) : Prop where
  rise : Rise v
  good : ∀ x ∈ v, VB x ∧ Flat.WFB x
  len : v.length ≤ n
theorem add_is (b : Bd) (hb : Flat.WFB b) (n : Nat) (hn : n ≤ 100) (v : List Bd) (hv : Vw n v) : ∃ v' e, Vw (n + 1) v' ∧ ∀ k, 300 ≤ k → billiardref06_Add.f k v b.f0 b.f1 b.f2.f0 b.f2.f1 b.f3 b.f4 b.f5.f0 b.f5.f1 b.f6.f0 b.f6.f1 = some (v', e) := by
  have hl := hv.len
  by_cases h0 : why b = 0
  rotate_left
  · refine ⟨v, why b, ⟨hv.rise, hv.good, by omega⟩, fun k hk => ?_⟩
    unfold billiardref06_Add.f
    rw [show billiardref05_Check.f k b.f0 b.f1 b.f2.f0 b.f2.f1 b.f3 b.f4 b.f5.f0 b.f5.f1 b.f6.f0 b.f6.f1 = _ from (chk_is b (k := k) (by omega)).1]
    simp only [Option.bind_some]
    rw [if_neg h0]
  by_cases hf : ixOf v b.f0 0 ≥ 0
  · refine ⟨v, 10, ⟨hv.rise, hv.good, by omega⟩, fun k hk => ?_⟩
    unfold billiardref06_Add.f
    rw [show billiardref05_Check.f k b.f0 b.f1 b.f2.f0 b.f2.f1 b.f3 b.f4 b.f5.f0 b.f5.f1 b.f6.f0 b.f6.f1 = _ from (chk_is b (k := k) (by omega)).1]
    simp only [Option.bind_some]
    rw [if_pos h0, find_is v b.f0 (by omega) (by omega)]
    simp only [Option.bind_some]
    rw [if_pos hf]
  · have hnk := ixOf_none v b.f0 0 (by omega)
    refine ⟨ins b v, 0, ⟨ins_rise b v hv.rise hnk, fun x hx => ?_, by rw [ins_len]; omega⟩, fun k hk => ?_⟩
    · rcases ins_mem b v x hx with rfl | hx
      · exact ⟨(chk_is x (Nat.le_refl 5)).2 h0, hb⟩
      · exact hv.good x hx
    · unfold billiardref06_Add.f
      rw [show billiardref05_Check.f k b.f0 b.f1 b.f2.f0 b.f2.f1 b.f3 b.f4 b.f5.f0 b.f5.f1 b.f6.f0 b.f6.f1 = _ from (chk_is b (k := k) (by omega)).1]
      simp only [Option.bind_some]
      rw [if_pos h0, find_is v b.f0 (by omega) (by omega)]
      simp only [Option.bind_some]
      rw [if_neg hf, if_neg (by omega)]
      have := put_l0 v b (by omega) hnk v.length k 0 [] (by omega) (by omega) (by omega) (by simp; omega)
      unfold billiardref06_Put.f
      rw [show billiardref06_Put.l0 k v [] false 0 b.f0 b.f1 b.f2.f0 b.f2.f1 b.f3 b.f4 b.f5.f0 b.f5.f1 b.f6.f0 b.f6.f1 = _ from this]
      rfl
theorem all_l0 (l : List Bd) (hw : ∀ x ∈ l, Flat.WFB x) (hl : l.length ≤ 40) : ∀ (d i : Nat) (v : List Bd), l.length - i = d → i ≤ l.length → Vw i v → ∃ v', Vw l.length v' ∧ ∀ k, 301 + d ≤ k → billiardref06_All.l0 k l v (i : Int) = some v' := fun d => by
  induction d with
  | zero =>
    intro i v hd hi hv
    refine ⟨v, ⟨hv.rise, hv.good, by have := hv.len; omega⟩, fun k hk => ?_⟩
    obtain ⟨k, rfl⟩ : ∃ j, k = j + 1 := ⟨k - 1, by omega⟩
    rw [billiardref06_All.l0, if_neg (by omega)]
  | succ d ih =>
    intro i v hd hi hv
    have hlt : i < l.length := by omega
    obtain ⟨v1, e, hv1, ha⟩ := add_is l[i] (hw _ (List.getElem_mem hlt)) i (by omega) v hv
    obtain ⟨v2, hv2, hb⟩ := ih (i + 1) v1 (by omega) (by omega) hv1
    refine ⟨v2, hv2, fun k hk => ?_⟩
    obtain ⟨k, rfl⟩ : ∃ j, k = j + 1 := ⟨k - 1, by omega⟩
    rw [billiardref06_All.l0, if_pos (by omega), if_pos (by omega), rdB hlt, ha k (by omega)]
    simp only [Option.bind_some]
    rw [step_ix hlt (by omega)]
    exact hb k (by omega)
theorem each_l0 (l : List Bd) (hl : l.length ≤ 40) : ∀ (d i : Nat), l.length - i = d → i ≤ l.length → ∃ e, ∀ k, 7 + d ≤ k → billiardref07_each.l0 k l (i : Int) = some e := fun d => by
  induction d with
  | zero =>
    intro i hd hi
    refine ⟨0, fun k hk => ?_⟩
    obtain ⟨k, rfl⟩ : ∃ j, k = j + 1 := ⟨k - 1, by omega⟩
    rw [billiardref07_each.l0, if_neg (by omega)]
  | succ d ih =>
    intro i hd hi
    have hlt : i < l.length := by omega
    obtain ⟨e, he⟩ := ih (i + 1) (by omega) (by omega)
    by_cases h0 : why l[i] = 0
    · refine ⟨e, fun k hk => ?_⟩
      obtain ⟨k, rfl⟩ : ∃ j, k = j + 1 := ⟨k - 1, by omega⟩
      rw [billiardref07_each.l0, if_pos (by omega), if_pos (by omega), rdB hlt, show billiardref05_Check.f k l[i].f0 l[i].f1 l[i].f2.f0 l[i].f2.f1 l[i].f3 l[i].f4 l[i].f5.f0 l[i].f5.f1 l[i].f6.f0 l[i].f6.f1 = _ from (chk_is l[i] (k := k) (by omega)).1]
      simp only [Option.bind_some]
      rw [if_pos h0, step_ix hlt (by omega)]
      exact he k (by omega)
    · refine ⟨why l[i], fun k hk => ?_⟩
      obtain ⟨k, rfl⟩ : ∃ j, k = j + 1 := ⟨k - 1, by omega⟩
      rw [billiardref07_each.l0, if_pos (by omega), if_pos (by omega), rdB hlt, show billiardref05_Check.f k l[i].f0 l[i].f1 l[i].f2.f0 l[i].f2.f1 l[i].f3 l[i].f4 l[i].f5.f0 l[i].f5.f1 l[i].f6.f0 l[i].f6.f1 = _ from (chk_is l[i] (k := k) (by omega)).1]
      simp only [Option.bind_some]
      rw [if_neg h0]
theorem view_is (l : List Bd) (hw : ∀ x ∈ l, Flat.WFB x) : ∃ v ok, (∀ k, 400 ≤ k → billiardref11_View.f k l = some (v, ok)) ∧ Vw 40 v := by
  have hnil : Vw 40 [] := ⟨List.Pairwise.nil, fun x hx => by simp at hx, by simp⟩
  by_cases h40 : (l.length : Int) > 40
  · exact ⟨[], false, fun k hk => by unfold billiardref11_View.f; rw [if_pos h40], hnil⟩
  have hl : l.length ≤ 40 := by omega
  obtain ⟨e, he⟩ := each_l0 l hl l.length 0 (by omega) (by omega)
  obtain ⟨v, hv, ha⟩ := all_l0 l hw hl l.length 0 [] (by omega) (by omega) ⟨List.Pairwise.nil, fun x hx => by simp at hx, by simp⟩
  have hv40 : Vw 40 v := ⟨hv.rise, hv.good, by have := hv.len; omega⟩
  have hs : ∀ k, 400 ≤ k → billiardref07_Sort.f k l = some (if e = 0 then (if (v.length : Int) < (l.length : Int) then ([], 10) else (v, 0)) else ([], e)) := fun k hk => by
    unfold billiardref07_Sort.f billiardref07_each.f
    rw [if_neg (by omega), show billiardref07_each.l0 k l 0 = _ from he k (by omega)]
    simp only [Option.bind_some]
    unfold billiardref06_All.f
    rw [show billiardref06_All.l0 k l [] 0 = _ from ha k (by omega)]
    simp only [Option.bind_some]
    split
    · split <;> rfl
    · rfl
  have hV : ∀ k, 400 ≤ k → billiardref11_View.f k l = some ((if e = 0 then (if (v.length : Int) < (l.length : Int) then (([] : List Bd), (10 : Int)) else (v, 0)) else ([], e)).1, ((if e = 0 then (if (v.length : Int) < (l.length : Int) then (([] : List Bd), (10 : Int)) else (v, 0)) else ([], e)).2 == 0)) := fun k hk => by
    unfold billiardref11_View.f
    rw [if_neg h40, hs k hk]
    rfl
  refine ⟨_, _, hV, ?_⟩
  split
  · split
    · exact hnil
    · exact hv40
  · exact hnil
/-- Where a key of a view is found by halving. -/
theorem rise_lt {v : List Bd} (h : Rise v) {i j : Nat} (hi : i < v.length) (hj : j < v.length) (hij : i < j) : v[i].f0 < v[j].f0 := List.pairwise_iff_getElem.mp h i j hi hj hij
theorem rise_inj {v : List Bd} (h : Rise v) {i j : Nat} (hi : i < v.length) (hj : j < v.length) (e : v[i].f0 = v[j].f0) : i = j := by
  rcases Nat.lt_trichotomy i j with c | c | c
  · have := rise_lt h hi hj c; omega
  · exact c
  · have := rise_lt h hj hi c; omega
theorem rise_all (v : List Bd) (h : Rise v) (key : Int) : (v.drop (cutK v key)).all (fun x => decide (key ≤ x.f0)) = true := by
  induction v with
  | nil => rfl
  | cons x l ih =>
    obtain ⟨h1, h2⟩ := List.pairwise_cons.mp h
    have hi := ih h2
    unfold cutK at hi ⊢
    rw [List.takeWhile_cons]
    by_cases c : x.f0 < key
    · rw [if_pos (decide_eq_true c), List.length_cons, List.drop_succ_cons]
      exact hi
    · rw [if_neg (by simp; omega), List.length_nil, List.drop_zero, List.all_eq_true]
      intro y hy
      rcases List.mem_cons.mp hy with rfl | hy
      · exact decide_eq_true (by omega)
      · have := h1 y hy
        exact decide_eq_true (by omega)
theorem cut_at {v : List Bd} (h : Rise v) {key : Int} {i : Nat} (hi : i < v.length) (hk : v[i].f0 = key) : cutK v key = i := by
  rcases Nat.lt_trichotomy (cutK v key) i with c | c | c
  · have h1 := cutK_ge (rise_all v h key) (cutK v key) (by omega) (Nat.le_refl _)
    have h2 := rise_lt h (show cutK v key < v.length by omega) hi c
    omega
  · exact c
  · have := cutK_lt v key i hi c
    omega
theorem vfind_at {v : List Bd} (h : Rise v) {key : Int} {i : Nat} (hi : i < v.length) (hk : v[i].f0 = key) : view_Find.f v key = some ((i : Int), true) := by
  unfold view_Find.f
  rw [if_pos (rise_all v h key), cut_at h hi hk, rdB hi, hk]
  simp [hi]
theorem ixOf_at {v : List Bd} (h : Rise v) {key : Int} {i : Nat} (hi : i < v.length) (hk : v[i].f0 = key) : ixOf v key 0 = (i : Int) := by
  by_cases c : 0 ≤ ixOf v key 0
  · obtain ⟨j, hj, e, ej⟩ := ixOf_some v key 0 c
    rw [e, rise_inj h hi hj (hk.trans ej.symm)]
    omega
  · exact absurd hk (ixOf_none v key 0 (by omega) _ (List.getElem_mem hi))
end Go.Proofs.Ytplmeknmeobanaa.Q
