/- What the reference's check of a body tells. -/
import Derived.Test.YtcbdcgghccjdpaaQbilliardref05
import Derived.Test.YtcbdcgghccjdpaaMspec
import Derived.Test.YtcbdcgghccjdpaaQbilliardref11
import Derived.Test.YtcbdcgghccjdpaaMslice
import Derived.Test.YtcbdcgghccjdpaaQview
import Derived.Test.YtcbdcgghccjdpaaQimpulse
import Derived.Test.YtcbdcgghccjdpaaMwide
import Derived.Test.YtcbdcgghccjdpaaQjacobi
import Derived.Test.YtcbdcgghccjdpaaQbilliardref17
import Derived.Test.YtcbdcgghccjdpaaQbilliardlaw17
namespace Go.Proofs.Ytcbdcgghccjdpaa.Q
open Go.RowKit Go.Proofs.YtcbdcgghccjdpaaW.PrintWords Go.Proofs.YtcbdcgghccjdpaaW.PrintLast Go.Proofs.YtcbdcgghccjdpaaW.PrintMore
set_option linter.unusedVariables false
theorem billiardref05_In.is (a b : Int) (hb : -2147483647 ≤ b ∧ b ≤ 2147483647) : billiardref05_In.f a b = some (decide (-b ≤ a ∧ a ≤ b)) := by
  unfold billiardref05_In.f
  rw [w32_id (n := -b) (by omega) (by omega)]
  by_cases h : -b ≤ a
  · rw [if_pos h]
    congr 1
    rw [decide_eq_decide]
    omega
  · rw [if_neg h, decide_eq_false (by omega)]
/-- A valid body: radius, axis, inverse mass, bounce, position, velocity. -/
structure Valid (key r ax ay m b px py vx vy : Int) : Prop where
  r : 4096 ≤ r ∧ r ≤ 4194304
  ax : -4194304 ≤ ax ∧ ax ≤ 4194304
  ay : -4194304 ≤ ay ∧ ay ≤ 4194304
  m : 0 ≤ m ∧ m ≤ 1048576
  b : 0 ≤ b ∧ b ≤ 65536
  px : -1073741824 ≤ px ∧ px ≤ 1073741824
  py : -1073741824 ≤ py ∧ py ≤ 1073741824
  vx : -16777216 ≤ vx ∧ vx ≤ 16777216
  vy : -16777216 ≤ vy ∧ vy ≤ 16777216
theorem Check_cases (k : Nat) (key r ax ay m b px py vx vy : Int) : (billiardref05_Check.f (k + 5) key r ax ay m b px py vx vy = some 0 ∧ Valid key r ax ay m b px py vx vy) ∨ (∃ e, e ≠ 0 ∧ billiardref05_Check.f (k + 5) key r ax ay m b px py vx vy = some e) := by
  have i1 := billiardref05_In.is ax 4194304 (by omega)
  have i2 := billiardref05_In.is ay 4194304 (by omega)
  have i3 := billiardref05_In.is px 1073741824 (by omega)
  have i4 := billiardref05_In.is py 1073741824 (by omega)
  have i5 := billiardref05_In.is vx 16777216 (by omega)
  have i6 := billiardref05_In.is vy 16777216 (by omega)
  have e : billiardref05_Check.f (k + 5) key r ax ay m b px py vx vy = billiardref05_Check.j0 (k + 5) (!decide (4096 ≤ r ∧ r ≤ 4194304)) key r ax ay m b px py vx vy := by
    unfold billiardref05_Check.f
    by_cases c : r < 4096
    · rw [if_pos c, decide_eq_false (by omega)]; rfl
    · rw [if_neg c]
      by_cases d : r > 4194304
      · rw [decide_eq_true d, decide_eq_false (by omega)]; rfl
      · rw [decide_eq_false d, decide_eq_true (by omega)]; rfl
  rw [e]
  by_cases c1 : 4096 ≤ r ∧ r ≤ 4194304
  rotate_left
  · rw [decide_eq_false c1]; exact Or.inr ⟨4, by decide, rfl⟩
  rw [decide_eq_true c1]
  have e2 : billiardref05_Check.j0 (k + 5) (!true) key r ax ay m b px py vx vy = billiardref05_Check.j1 (k + 4) (!decide ((-4194304 ≤ ax ∧ ax ≤ 4194304) ∧ (-4194304 ≤ ay ∧ ay ≤ 4194304))) key r ax ay m b px py vx vy := by
    simp only [billiardref05_Check.j0]
    rw [i1, i2]
    by_cases c : -4194304 ≤ ax ∧ ax ≤ 4194304
    · rw [decide_eq_true c]
      by_cases d : -4194304 ≤ ay ∧ ay ≤ 4194304
      · rw [decide_eq_true d, decide_eq_true ⟨c, d⟩]; rfl
      · rw [decide_eq_false d, show decide ((-4194304 ≤ ax ∧ ax ≤ 4194304) ∧ (-4194304 ≤ ay ∧ ay ≤ 4194304)) = false from decide_eq_false (fun h => d h.2)]; rfl
    · rw [decide_eq_false c, show decide ((-4194304 ≤ ax ∧ ax ≤ 4194304) ∧ (-4194304 ≤ ay ∧ ay ≤ 4194304)) = false from decide_eq_false (fun h => c h.1)]; rfl
  rw [e2]
  by_cases c2 : (-4194304 ≤ ax ∧ ax ≤ 4194304) ∧ (-4194304 ≤ ay ∧ ay ≤ 4194304)
  rotate_left
  · rw [decide_eq_false c2]; exact Or.inr ⟨5, by decide, rfl⟩
  rw [decide_eq_true c2]
  have e3 : billiardref05_Check.j1 (k + 4) (!true) key r ax ay m b px py vx vy = billiardref05_Check.j2 (k + 3) (!decide (0 ≤ m ∧ m ≤ 1048576)) key r ax ay m b px py vx vy := by
    simp only [billiardref05_Check.j1]
    rw [if_neg (by decide)]
    by_cases c : m < 0
    · rw [if_pos c, decide_eq_false (by omega)]; rfl
    · rw [if_neg c]
      by_cases d : m > 1048576
      · rw [decide_eq_true d, decide_eq_false (by omega)]; rfl
      · rw [decide_eq_false d, decide_eq_true (by omega)]; rfl
  rw [e3]
  by_cases c3 : 0 ≤ m ∧ m ≤ 1048576
  rotate_left
  · rw [decide_eq_false c3]; exact Or.inr ⟨6, by decide, rfl⟩
  rw [decide_eq_true c3]
  have e4 : billiardref05_Check.j2 (k + 3) (!true) key r ax ay m b px py vx vy = billiardref05_Check.j3 (k + 2) (!decide (0 ≤ b ∧ b ≤ 65536)) key r ax ay m b px py vx vy := by
    simp only [billiardref05_Check.j2]
    rw [if_neg (by decide)]
    by_cases c : b < 0
    · rw [if_pos c, decide_eq_false (by omega)]; rfl
    · rw [if_neg c]
      by_cases d : b > 65536
      · rw [decide_eq_true d, decide_eq_false (by omega)]; rfl
      · rw [decide_eq_false d, decide_eq_true (by omega)]; rfl
  rw [e4]
  by_cases c4 : 0 ≤ b ∧ b ≤ 65536
  rotate_left
  · rw [decide_eq_false c4]; exact Or.inr ⟨7, by decide, rfl⟩
  rw [decide_eq_true c4]
  have e5 : billiardref05_Check.j3 (k + 2) (!true) key r ax ay m b px py vx vy = billiardref05_Check.j4 (k + 1) (!decide ((-1073741824 ≤ px ∧ px ≤ 1073741824) ∧ (-1073741824 ≤ py ∧ py ≤ 1073741824))) key r ax ay m b px py vx vy := by
    simp only [billiardref05_Check.j3]
    rw [i3, i4]
    by_cases c : -1073741824 ≤ px ∧ px ≤ 1073741824
    · rw [decide_eq_true c]
      by_cases d : -1073741824 ≤ py ∧ py ≤ 1073741824
      · rw [decide_eq_true d, decide_eq_true ⟨c, d⟩]; rfl
      · rw [decide_eq_false d, show decide ((-1073741824 ≤ px ∧ px ≤ 1073741824) ∧ (-1073741824 ≤ py ∧ py ≤ 1073741824)) = false from decide_eq_false (fun h => d h.2)]; rfl
    · rw [decide_eq_false c, show decide ((-1073741824 ≤ px ∧ px ≤ 1073741824) ∧ (-1073741824 ≤ py ∧ py ≤ 1073741824)) = false from decide_eq_false (fun h => c h.1)]; rfl
  rw [e5]
  by_cases c5 : (-1073741824 ≤ px ∧ px ≤ 1073741824) ∧ (-1073741824 ≤ py ∧ py ≤ 1073741824)
  rotate_left
  · rw [decide_eq_false c5]; exact Or.inr ⟨8, by decide, rfl⟩
  rw [decide_eq_true c5]
  simp only [billiardref05_Check.j4]
  rw [i5, i6]
  by_cases c6 : -16777216 ≤ vx ∧ vx ≤ 16777216
  · rw [decide_eq_true c6]
    by_cases c7 : -16777216 ≤ vy ∧ vy ≤ 16777216
    · rw [decide_eq_true c7]
      exact Or.inl ⟨rfl, c1, c2.1, c2.2, c3, c4, c5.1, c5.2, c6, c7⟩
    · rw [decide_eq_false c7]; exact Or.inr ⟨9, by decide, rfl⟩
  · rw [decide_eq_false c6]; exact Or.inr ⟨9, by decide, rfl⟩
end Go.Proofs.Ytcbdcgghccjdpaa.Q

namespace Go.Proofs.Ytcbdcgghccjdpaa.Q
open Go.RowKit Go.Proofs.YtcbdcgghccjdpaaW.PrintWords Go.Proofs.YtcbdcgghccjdpaaW.PrintLast Go.Proofs.YtcbdcgghccjdpaaW.PrintMore
set_option linter.unusedVariables false
abbrev Bd := S44
theorem step_ix {i n : Nat} (h : i < n) (hn : n ≤ 1000000) : wrap64 ((i : Int) + 1) = ((i + 1 : Nat) : Int) := by unfold wrap64; omega
theorem rdB {v : List Bd} {i : Nat} (h : i < v.length) : rd_T44 v (i : Int) = v[i] := by
  unfold rd_T44
  simp [List.getD, h]
def VB (x : Bd) : Prop := Valid x.f0 x.f1 x.f2.f0 x.f2.f1 x.f3 x.f4 x.f5.f0 x.f5.f1 x.f6.f0 x.f6.f1
abbrev chk (k : Nat) (x : Bd) : Option Int := billiardref05_Check.f k x.f0 x.f1 x.f2.f0 x.f2.f1 x.f3 x.f4 x.f5.f0 x.f5.f1 x.f6.f0 x.f6.f1
theorem chk_up (x : Bd) (r : Int) (h : chk 5 x = some r) : ∀ k, chk (k + 5) x = some r
  | 0 => h
  | k + 1 => billiardref05_Check.mono _ _ _ _ _ _ _ _ _ _ (k + 5) r (chk_up x r h k)
/-- The error of a body. -/
def why (x : Bd) : Int := (chk 5 x).getD 0
theorem chk_is (x : Bd) {k : Nat} (hk : 5 ≤ k) : chk k x = some (why x) ∧ (why x = 0 → VB x) := by
  have h5 : chk 5 x = some (why x) := by
    rcases Check_cases 0 x.f0 x.f1 x.f2.f0 x.f2.f1 x.f3 x.f4 x.f5.f0 x.f5.f1 x.f6.f0 x.f6.f1 with ⟨h, _⟩ | ⟨e, _, h⟩ <;> (unfold why; rw [show chk 5 x = _ from h]; rfl)
  refine ⟨by have := chk_up x _ h5 (k - 5); rwa [Nat.sub_add_cancel hk] at this, fun h0 => ?_⟩
  rcases Check_cases 0 x.f0 x.f1 x.f2.f0 x.f2.f1 x.f3 x.f4 x.f5.f0 x.f5.f1 x.f6.f0 x.f6.f1 with ⟨_, h⟩ | ⟨e, he, h⟩
  · exact h
  · rw [show chk 5 x = _ from h] at h5
    simp only [Option.some.injEq] at h5
    exact absurd (h5.trans h0) he
/-- The index of a key, or -1. -/
def ixOf : List Bd → Int → Nat → Int
  | [], _, _ => -1
  | b :: l, key, n => if b.f0 = key then (n : Int) else ixOf l key (n + 1)
theorem find_l0 (v : List Bd) (key : Int) (hv : v.length ≤ 1000000) : ∀ (d k i : Nat), v.length - i = d → i ≤ v.length → d < k → billiardref06_Find.l0 k v key (i : Int) = some (ixOf (v.drop i) key i) := fun d => by
  induction d with
  | zero =>
    intro k i hd hi hk
    obtain ⟨k, rfl⟩ : ∃ j, k = j + 1 := ⟨k - 1, by omega⟩
    rw [billiardref06_Find.l0, if_neg (by omega), List.drop_eq_nil_of_le (by omega)]
    rfl
  | succ d ih =>
    intro k i hd hi hk
    obtain ⟨k, rfl⟩ : ∃ j, k = j + 1 := ⟨k - 1, by omega⟩
    have hlt : i < v.length := by omega
    rw [billiardref06_Find.l0, if_pos (by omega), if_pos (by omega), rdB hlt, List.drop_eq_getElem_cons hlt, ixOf]
    by_cases c : v[i].f0 = key
    · rw [if_pos c, if_pos c]
    · rw [if_neg c, if_neg c, step_ix hlt hv]
      exact ih k (i + 1) (by omega) (by omega) (by omega)
theorem find_is (v : List Bd) (key : Int) (hv : v.length ≤ 1000000) {k : Nat} (hk : v.length < k) : billiardref06_Find.f k v key = some (ixOf v key 0) := by
  have := find_l0 v key hv v.length k 0 (by omega) (by omega) (by omega)
  exact this
theorem ixOf_none : ∀ (v : List Bd) (key : Int) (n : Nat), ixOf v key n < 0 → ∀ x ∈ v, x.f0 ≠ key
  | [], _, _, _, x, hx => by simp at hx
  | b :: l, key, n, h, x, hx => by
    unfold ixOf at h
    split at h
    · omega
    · rename_i hb
      rcases List.mem_cons.mp hx with rfl | hx
      · exact hb
      · exact ixOf_none l key (n + 1) h x hx
theorem ixOf_some : ∀ (v : List Bd) (key : Int) (n : Nat), 0 ≤ ixOf v key n → ∃ i, ∃ h : i < v.length, ixOf v key n = ((n + i : Nat) : Int) ∧ v[i].f0 = key
  | [], _, _, h => by simp [ixOf] at h
  | b :: l, key, n, h => by
    unfold ixOf at h ⊢
    split at h
    · rename_i hb
      exact ⟨0, by simp, by simp [hb], hb⟩
    · rename_i hb
      obtain ⟨i, hi, e, hk⟩ := ixOf_some l key (n + 1) h
      exact ⟨i + 1, by simpa using hi, by rw [if_neg hb, e]; omega, by simpa using hk⟩
/-- The keys rise. -/
def Rise (v : List Bd) : Prop := v.Pairwise (fun x y => x.f0 < y.f0)
/-- A body put among others. -/
def ins (b : Bd) : List Bd → List Bd
  | [] => [b]
  | x :: l => if x.f0 ≥ b.f0 then b :: x :: l else x :: ins b l
theorem ins_len (b : Bd) : ∀ l, (ins b l).length = l.length + 1
  | [] => rfl
  | x :: l => by
    unfold ins
    split
    · rfl
    · simp [ins_len b l]
theorem ins_mem (b : Bd) : ∀ l y, y ∈ ins b l → y = b ∨ y ∈ l
  | [], y, h => by simpa [ins] using h
  | x :: l, y, h => by
    unfold ins at h
    split at h
    · simpa using h
    · rcases List.mem_cons.mp h with rfl | h
      · exact Or.inr (by simp)
      · rcases ins_mem b l y h with h | h
        · exact Or.inl h
        · exact Or.inr (List.mem_cons_of_mem _ h)
theorem ins_rise (b : Bd) : ∀ l, Rise l → (∀ x ∈ l, x.f0 ≠ b.f0) → Rise (ins b l)
  | [], _, _ => by simp [ins, Rise]
  | x :: l, hr, hn => by
    have hx := hn x (by simp)
    obtain ⟨h1, h2⟩ := List.pairwise_cons.mp hr
    unfold ins
    split
    · refine List.pairwise_cons.mpr ⟨fun y hy => ?_, hr⟩
      rcases List.mem_cons.mp hy with rfl | hy
      · omega
      · have := h1 y hy
        omega
    · refine List.pairwise_cons.mpr ⟨fun y hy => ?_, ins_rise b l h2 (fun y hy => hn y (List.mem_cons_of_mem _ hy))⟩
      rcases ins_mem b l y hy with rfl | hy
      · omega
      · exact h1 y hy
abbrev putL (k : Nat) (v acc : List Bd) (d : Bool) (i : Int) (b : Bd) := billiardref06_Put.l0 k v acc d i b.f0 b.f1 b.f2.f0 b.f2.f1 b.f3 b.f4 b.f5.f0 b.f5.f1 b.f6.f0 b.f6.f1
theorem put_rest (v : List Bd) (b : Bd) (hv : v.length ≤ 1000000) (hn : ∀ x ∈ v, x.f0 ≠ b.f0) : ∀ (d k i : Nat) (acc : List Bd), v.length - i = d → i ≤ v.length → 2 * d < k → acc.length + d ≤ 2000000 → putL k v acc true (i : Int) b = some (acc ++ v.drop i) := fun d => by
  induction d with
  | zero =>
    intro k i acc hd hi hk ha
    obtain ⟨k, rfl⟩ : ∃ j, k = j + 1 := ⟨k - 1, by omega⟩
    rw [putL, billiardref06_Put.l0, if_neg (by omega), List.drop_eq_nil_of_le (by omega), if_pos rfl, List.append_nil]
  | succ d ih =>
    intro k i acc hd hi hk ha
    obtain ⟨k, rfl⟩ : ∃ j, k = j + 1 + 1 := ⟨k - 2, by omega⟩
    have hlt : i < v.length := by omega
    rw [putL, billiardref06_Put.l0, if_pos (by omega), if_pos rfl, billiardref06_Put.j1, if_neg (by decide), if_pos (by omega), if_pos (by omega), rdB hlt, if_neg (hn _ (List.getElem_mem hlt)), if_pos (by omega), step_ix hlt hv]
    have := ih k (i + 1) (acc ++ [v[i]]) (by omega) (by omega) (by omega) (by simp; omega)
    rw [List.drop_eq_getElem_cons hlt, show acc ++ v[i] :: v.drop (i + 1) = acc ++ [v[i]] ++ v.drop (i + 1) by simp]
    exact this
theorem put_l0 (v : List Bd) (b : Bd) (hv : v.length ≤ 1000000) (hn : ∀ x ∈ v, x.f0 ≠ b.f0) : ∀ (d k i : Nat) (acc : List Bd), v.length - i = d → i ≤ v.length → 2 * d < k → acc.length + d ≤ 1000000 → putL k v acc false (i : Int) b = some (acc ++ ins b (v.drop i)) := fun d => by
  induction d with
  | zero =>
    intro k i acc hd hi hk ha
    obtain ⟨k, rfl⟩ : ∃ j, k = j + 1 := ⟨k - 1, by omega⟩
    rw [putL, billiardref06_Put.l0, if_neg (by omega), List.drop_eq_nil_of_le (by omega), if_neg (by decide), if_pos (by omega)]
    rfl
  | succ d ih =>
    intro k i acc hd hi hk ha
    obtain ⟨k, rfl⟩ : ∃ j, k = j + 1 + 1 := ⟨k - 2, by omega⟩
    have hlt : i < v.length := by omega
    rw [putL, billiardref06_Put.l0, if_pos (by omega), if_neg (by decide), if_pos (by omega), rdB hlt, List.drop_eq_getElem_cons hlt, ins, billiardref06_Put.j1]
    by_cases c : v[i].f0 ≥ b.f0
    · rw [decide_eq_true c, if_pos rfl, if_pos (by omega), if_pos c]
      simp only [Option.bind_some]
      rw [if_pos (by omega), if_pos (by omega), rdB hlt, if_neg (hn _ (List.getElem_mem hlt)), if_pos (by simp; omega), step_ix hlt hv]
      have := put_rest v b hv hn d k (i + 1) (acc ++ [b] ++ [v[i]]) (by omega) (by omega) (by omega) (by simp; omega)
      rw [show acc ++ b :: v[i] :: v.drop (i + 1) = acc ++ [b] ++ [v[i]] ++ v.drop (i + 1) by simp]
      exact this
    · rw [decide_eq_false c, if_neg (by decide), if_neg c, if_pos (by omega), if_pos (by omega), rdB hlt, if_neg (hn _ (List.getElem_mem hlt)), if_pos (by omega), step_ix hlt hv]
      have := ih k (i + 1) (acc ++ [v[i]]) (by omega) (by omega) (by omega) (by simp; omega)
      rw [show acc ++ v[i] :: ins b (v.drop (i + 1)) = acc ++ [v[i]] ++ ins b (v.drop (i + 1)) by simp]
      exact this
/-- What stands in a view. -/
structure Vw (n : Nat) (v : List Bd) : Prop where
  rise : Rise v
  good : ∀ x ∈ v, VB x ∧ Flat.WFB x
  len : v.length ≤ n
theorem add_is (b : Bd) (hb : Flat.WFB b) (n : Nat) (hn : n ≤ 100) (v : List Bd) (hv : Vw n v) : ∃ v' e, Vw (n + 1) v' ∧ ∀ k, 300 ≤ k → billiardref06_Add.f k v b.f0 b.f1 b.f2.f0 b.f2.f1 b.f3 b.f4 b.f5.f0 b.f5.f1 b.f6.f0 b.f6.f1 = some (v', e) := by
  have hl := hv.len
  by_cases h0 : why b = 0
  rotate_left
  · refine ⟨v, why b, ⟨hv.rise, hv.good, by omega⟩, fun k hk => ?_⟩
    unfold billiardref06_Add.f
    rw [show billiardref05_Check.f k b.f0 b.f1 b.f2.f0 b.f2.f1 b.f3 b.f4 b.f5.f0 b.f5.f1 b.f6.f0 b.f6.f1 = _ from (chk_is b (k := k) (by omega)).1]
    simp only [Option.bind_some]
    rw [if_neg h0]
  by_cases hf : ixOf v b.f0 0 ≥ 0
  · refine ⟨v, 10, ⟨hv.rise, hv.good, by omega⟩, fun k hk => ?_⟩
    unfold billiardref06_Add.f
    rw [show billiardref05_Check.f k b.f0 b.f1 b.f2.f0 b.f2.f1 b.f3 b.f4 b.f5.f0 b.f5.f1 b.f6.f0 b.f6.f1 = _ from (chk_is b (k := k) (by omega)).1]
    simp only [Option.bind_some]
    rw [if_pos h0, find_is v b.f0 (by omega) (by omega)]
    simp only [Option.bind_some]
    rw [if_pos hf]
  · have hnk := ixOf_none v b.f0 0 (by omega)
    refine ⟨ins b v, 0, ⟨ins_rise b v hv.rise hnk, fun x hx => ?_, by rw [ins_len]; omega⟩, fun k hk => ?_⟩
    · rcases ins_mem b v x hx with rfl | hx
      · exact ⟨(chk_is x (Nat.le_refl 5)).2 h0, hb⟩
      · exact hv.good x hx
    · unfold billiardref06_Add.f
      rw [show billiardref05_Check.f k b.f0 b.f1 b.f2.f0 b.f2.f1 b.f3 b.f4 b.f5.f0 b.f5.f1 b.f6.f0 b.f6.f1 = _ from (chk_is b (k := k) (by omega)).1]
      simp only [Option.bind_some]
      rw [if_pos h0, find_is v b.f0 (by omega) (by omega)]
      simp only [Option.bind_some]
      rw [if_neg hf, if_neg (by omega)]
      have := put_l0 v b (by omega) hnk v.length k 0 [] (by omega) (by omega) (by omega) (by simp; omega)
      unfold billiardref06_Put.f
      rw [show billiardref06_Put.l0 k v [] false 0 b.f0 b.f1 b.f2.f0 b.f2.f1 b.f3 b.f4 b.f5.f0 b.f5.f1 b.f6.f0 b.f6.f1 = _ from this]
      rfl
theorem all_l0 (l : List Bd) (hw : ∀ x ∈ l, Flat.WFB x) (hl : l.length ≤ 40) : ∀ (d i : Nat) (v : List Bd), l.length - i = d → i ≤ l.length → Vw i v → ∃ v', Vw l.length v' ∧ ∀ k, 301 + d ≤ k → billiardref06_All.l0 k l v (i : Int) = some v' := fun d => by
  induction d with
  | zero =>
    intro i v hd hi hv
    refine ⟨v, ⟨hv.rise, hv.good, by have := hv.len; omega⟩, fun k hk => ?_⟩
    obtain ⟨k, rfl⟩ : ∃ j, k = j + 1 := ⟨k - 1, by omega⟩
    rw [billiardref06_All.l0, if_neg (by omega)]
  | succ d ih =>
    intro i v hd hi hv
    have hlt : i < l.length := by omega
    obtain ⟨v1, e, hv1, ha⟩ := add_is l[i] (hw _ (List.getElem_mem hlt)) i (by omega) v hv
    obtain ⟨v2, hv2, hb⟩ := ih (i + 1) v1 (by omega) (by omega) hv1
    refine ⟨v2, hv2, fun k hk => ?_⟩
    obtain ⟨k, rfl⟩ : ∃ j, k = j + 1 := ⟨k - 1, by omega⟩
    rw [billiardref06_All.l0, if_pos (by omega), if_pos (by omega), rdB hlt, ha k (by omega)]
    simp only [Option.bind_some]
    rw [step_ix hlt (by omega)]
    exact hb k (by omega)
theorem each_l0 (l : List Bd) (hl : l.length ≤ 40) : ∀ (d i : Nat), l.length - i = d → i ≤ l.length → ∃ e, ∀ k, 7 + d ≤ k → billiardref07_each.l0 k l (i : Int) = some e := fun d => by
  induction d with
  | zero =>
    intro i hd hi
    refine ⟨0, fun k hk => ?_⟩
    obtain ⟨k, rfl⟩ : ∃ j, k = j + 1 := ⟨k - 1, by omega⟩
    rw [billiardref07_each.l0, if_neg (by omega)]
  | succ d ih =>
    intro i hd hi
    have hlt : i < l.length := by omega
    obtain ⟨e, he⟩ := ih (i + 1) (by omega) (by omega)
    by_cases h0 : why l[i] = 0
    · refine ⟨e, fun k hk => ?_⟩
      obtain ⟨k, rfl⟩ : ∃ j, k = j + 1 := ⟨k - 1, by omega⟩
      rw [billiardref07_each.l0, if_pos (by omega), if_pos (by omega), rdB hlt, show billiardref05_Check.f k l[i].f0 l[i].f1 l[i].f2.f0 l[i].f2.f1 l[i].f3 l[i].f4 l[i].f5.f0 l[i].f5.f1 l[i].f6.f0 l[i].f6.f1 = _ from (chk_is l[i] (k := k) (by omega)).1]
      simp only [Option.bind_some]
      rw [if_pos h0, step_ix hlt (by omega)]
      exact he k (by omega)
    · refine ⟨why l[i], fun k hk => ?_⟩
      obtain ⟨k, rfl⟩ : ∃ j, k = j + 1 := ⟨k - 1, by omega⟩
      rw [billiardref07_each.l0, if_pos (by omega), if_pos (by omega), rdB hlt, show billiardref05_Check.f k l[i].f0 l[i].f1 l[i].f2.f0 l[i].f2.f1 l[i].f3 l[i].f4 l[i].f5.f0 l[i].f5.f1 l[i].f6.f0 l[i].f6.f1 = _ from (chk_is l[i] (k := k) (by omega)).1]
      simp only [Option.bind_some]
      rw [if_neg h0]
theorem view_is (l : List Bd) (hw : ∀ x ∈ l, Flat.WFB x) : ∃ v ok, (∀ k, 400 ≤ k → billiardref11_View.f k l = some (v, ok)) ∧ Vw 40 v := by
  have hnil : Vw 40 [] := ⟨List.Pairwise.nil, fun x hx => by simp at hx, by simp⟩
  by_cases h40 : (l.length : Int) > 40
  · exact ⟨[], false, fun k hk => by unfold billiardref11_View.f; rw [if_pos h40], hnil⟩
  have hl : l.length ≤ 40 := by omega
  obtain ⟨e, he⟩ := each_l0 l hl l.length 0 (by omega) (by omega)
  obtain ⟨v, hv, ha⟩ := all_l0 l hw hl l.length 0 [] (by omega) (by omega) ⟨List.Pairwise.nil, fun x hx => by simp at hx, by simp⟩
  have hv40 : Vw 40 v := ⟨hv.rise, hv.good, by have := hv.len; omega⟩
  have hs : ∀ k, 400 ≤ k → billiardref07_Sort.f k l = some (if e = 0 then (if (v.length : Int) < (l.length : Int) then ([], 10) else (v, 0)) else ([], e)) := fun k hk => by
    unfold billiardref07_Sort.f billiardref07_each.f
    rw [if_neg (by omega), show billiardref07_each.l0 k l 0 = _ from he k (by omega)]
    simp only [Option.bind_some]
    unfold billiardref06_All.f
    rw [show billiardref06_All.l0 k l [] 0 = _ from ha k (by omega)]
    simp only [Option.bind_some]
    split
    · split <;> rfl
    · rfl
  have hV : ∀ k, 400 ≤ k → billiardref11_View.f k l = some ((if e = 0 then (if (v.length : Int) < (l.length : Int) then (([] : List Bd), (10 : Int)) else (v, 0)) else ([], e)).1, ((if e = 0 then (if (v.length : Int) < (l.length : Int) then (([] : List Bd), (10 : Int)) else (v, 0)) else ([], e)).2 == 0)) := fun k hk => by
    unfold billiardref11_View.f
    rw [if_neg h40, hs k hk]
    rfl
  refine ⟨_, _, hV, ?_⟩
  split
  · split
    · exact hnil
    · exact hv40
  · exact hnil
/-- Where a key of a view is found by halving. -/
theorem rise_lt {v : List Bd} (h : Rise v) {i j : Nat} (hi : i < v.length) (hj : j < v.length) (hij : i < j) : v[i].f0 < v[j].f0 := List.pairwise_iff_getElem.mp h i j hi hj hij
theorem rise_inj {v : List Bd} (h : Rise v) {i j : Nat} (hi : i < v.length) (hj : j < v.length) (e : v[i].f0 = v[j].f0) : i = j := by
  rcases Nat.lt_trichotomy i j with c | c | c
  · have := rise_lt h hi hj c; omega
  · exact c
  · have := rise_lt h hj hi c; omega
theorem rise_all (v : List Bd) (h : Rise v) (key : Int) : (v.drop (cutK v key)).all (fun x => decide (key ≤ x.f0)) = true := by
  induction v with
  | nil => rfl
  | cons x l ih =>
    obtain ⟨h1, h2⟩ := List.pairwise_cons.mp h
    have hi := ih h2
    unfold cutK at hi ⊢
    rw [List.takeWhile_cons]
    by_cases c : x.f0 < key
    · rw [if_pos (decide_eq_true c), List.length_cons, List.drop_succ_cons]
      exact hi
    · rw [if_neg (by simp; omega), List.length_nil, List.drop_zero, List.all_eq_true]
      intro y hy
      rcases List.mem_cons.mp hy with rfl | hy
      · exact decide_eq_true (by omega)
      · have := h1 y hy
        exact decide_eq_true (by omega)
theorem cut_at {v : List Bd} (h : Rise v) {key : Int} {i : Nat} (hi : i < v.length) (hk : v[i].f0 = key) : cutK v key = i := by
  rcases Nat.lt_trichotomy (cutK v key) i with c | c | c
  · have h1 := cutK_ge (rise_all v h key) (cutK v key) (by omega) (Nat.le_refl _)
    have h2 := rise_lt h (show cutK v key < v.length by omega) hi c
    omega
  · exact c
  · have := cutK_lt v key i hi c
    omega
theorem vfind_at {v : List Bd} (h : Rise v) {key : Int} {i : Nat} (hi : i < v.length) (hk : v[i].f0 = key) : view_Find.f v key = some ((i : Int), true) := by
  unfold view_Find.f
  rw [if_pos (rise_all v h key), cut_at h hi hk, rdB hi, hk]
  simp [hi]
theorem ixOf_at {v : List Bd} (h : Rise v) {key : Int} {i : Nat} (hi : i < v.length) (hk : v[i].f0 = key) : ixOf v key 0 = (i : Int) := by
  by_cases c : 0 ≤ ixOf v key 0
  · obtain ⟨j, hj, e, ej⟩ := ixOf_some v key 0 c
    rw [e, rise_inj h hi hj (hk.trans ej.symm)]
    omega
  · exact absurd hk (ixOf_none v key 0 (by omega) _ (List.getElem_mem hi))
end Go.Proofs.Ytcbdcgghccjdpaa.Q

namespace Go.Proofs.Ytcbdcgghccjdpaa.Q
open Go.RowKit Go.Proofs.YtcbdcgghccjdpaaW.PrintWords Go.Proofs.YtcbdcgghccjdpaaW.PrintLast Go.Proofs.YtcbdcgghccjdpaaW.PrintMore
set_option linter.unusedVariables false
theorem bd_mul {x y A B : Int} (hx : -A ≤ x ∧ x ≤ A) (hy : -B ≤ y ∧ y ≤ B) : -(A * B) ≤ x * y ∧ x * y ≤ A * B := by
  have hA : mg x ≤ A := by unfold mg; split <;> omega
  have hB : mg y ≤ B := by unfold mg; split <;> omega
  have h0 : 0 ≤ mg x := by unfold mg; split <;> omega
  have h1 : 0 ≤ mg y := by unfold mg; split <;> omega
  have hm := Int.mul_le_mul hA hB h1 (by omega)
  have e : x * y = mg x * mg y ∨ x * y = -(mg x * mg y) := by
    by_cases ca : x < 0 <;> by_cases cb : y < 0 <;> simp [mg, ca, cb, Int.neg_mul, Int.mul_neg]
  have hn := Int.mul_nonneg h0 h1
  omega
def NormB (n0 n1 : Int) : Prop := (-65536 ≤ n0 ∧ n0 ≤ 65536) ∧ (-65536 ≤ n1 ∧ n1 ≤ 65536)
/-- The velocity along the normal. -/
def apS (ux uy n0 n1 : Int) : Int := (ux * n0 + uy * n1) / 65536
theorem apS_bd {ux uy n0 n1 : Int} (hx : -33554432 ≤ ux ∧ ux ≤ 33554432) (hy : -33554432 ≤ uy ∧ uy ≤ 33554432) (hn : NormB n0 n1) : (-2199023255552 ≤ ux * n0 ∧ ux * n0 ≤ 2199023255552) ∧ (-2199023255552 ≤ uy * n1 ∧ uy * n1 ≤ 2199023255552) ∧ -67108864 ≤ apS ux uy n0 n1 ∧ apS ux uy n0 n1 ≤ 67108864 := by
  have h1 := bd_mul hx hn.1
  have h2 := bd_mul hy hn.2
  unfold apS
  omega
theorem impulse_Approach.is {p0 p1 n0 n1 dp k0 r0 ax0 ay0 m0 b0 px0 py0 vx0 vy0 k1 r1 ax1 ay1 m1 b1 px1 py1 vx1 vy1 : Int} (h0 : Valid k0 r0 ax0 ay0 m0 b0 px0 py0 vx0 vy0) (h1 : Valid k1 r1 ax1 ay1 m1 b1 px1 py1 vx1 vy1) (hn : NormB n0 n1) :
    impulse_Approach.f p0 p1 n0 n1 dp k0 r0 ax0 ay0 m0 b0 px0 py0 vx0 vy0 k1 r1 ax1 ay1 m1 b1 px1 py1 vx1 vy1 = some (apS (vx1 - vx0) (vy1 - vy0) n0 n1) := by
  obtain ⟨_, _, _, _, _, _, _, a1, a2⟩ := h0
  obtain ⟨_, _, _, _, _, _, _, b1, b2⟩ := h1
  obtain ⟨g1, g2, _⟩ := apS_bd (ux := vx1 - vx0) (uy := vy1 - vy0) (by omega) (by omega) hn
  obtain ⟨c1, c2⟩ := hn
  unfold impulse_Approach.f apS
  rw [w64_id (n := vx1) (by omega) (by omega), w64_id (n := vx0) (by omega) (by omega), w64_id (n := vy1) (by omega) (by omega), w64_id (n := vy0) (by omega) (by omega), w64_id (n := vx1 - vx0) (by omega) (by omega), w64_id (n := vy1 - vy0) (by omega) (by omega), w64_id (n := n0) (by omega) (by omega), w64_id (n := n1) (by omega) (by omega), w64_id (n := (vx1 - vx0) * n0) (by omega) (by omega), w64_id (n := (vy1 - vy0) * n1) (by omega) (by omega), w64_id (by omega) (by omega)]
/-- The impulse: v the velocity along the normal, m the sum of the inverse masses, b the bounce. -/
def stS (v m b : Int) : Int := if v ≥ 0 then 0 else if m = 0 then 0 else (-v) * (65536 + b) / m
theorem stS_in {v m b : Int} (hv : -67108864 ≤ v ∧ v ≤ 67108864) (hm : 0 ≤ m ∧ m ≤ 2097152) (hb : 0 ≤ b ∧ b ≤ 65536) : 0 ≤ stS v m b ∧ stS v m b ≤ 8796093022208 := by
  unfold stS
  split
  · omega
  · split
    · omega
    · have h := bd_mul (x := -v) (y := 65536 + b) (A := 67108864) (B := 131072) (by omega) (by omega)
      have h0 := Int.mul_nonneg (show 0 ≤ -v by omega) (show 0 ≤ 65536 + b by omega)
      refine ⟨Int.ediv_nonneg h0 (by omega), ?_⟩
      exact Int.ediv_le_of_le_mul (by omega) (by have := Int.mul_le_mul_of_nonneg_left (show 1 ≤ m by omega) (show (0 : Int) ≤ 8796093022208 by omega); omega)
theorem mx_bd {a b : Int} (ha : 0 ≤ a ∧ a ≤ 65536) (hb : 0 ≤ b ∧ b ≤ 65536) : 0 ≤ mx a b ∧ mx a b ≤ 65536 := by unfold mx; omega
theorem impulse_Strength.is {p0 p1 n0 n1 dp k0 r0 ax0 ay0 m0 b0 px0 py0 vx0 vy0 k1 r1 ax1 ay1 m1 b1 px1 py1 vx1 vy1 : Int} (h0 : Valid k0 r0 ax0 ay0 m0 b0 px0 py0 vx0 vy0) (h1 : Valid k1 r1 ax1 ay1 m1 b1 px1 py1 vx1 vy1) (hn : NormB n0 n1) (k : Nat) :
    impulse_Strength.f (k + 1) p0 p1 n0 n1 dp k0 r0 ax0 ay0 m0 b0 px0 py0 vx0 vy0 k1 r1 ax1 ay1 m1 b1 px1 py1 vx1 vy1 = some (stS (apS (vx1 - vx0) (vy1 - vy0) n0 n1) (m0 + m1) (mx b0 b1)) := by
  have hb := mx_bd h0.b h1.b
  have hm0 := h0.m
  have hm1 := h1.m
  have hap : -67108864 ≤ apS (vx1 - vx0) (vy1 - vy0) n0 n1 ∧ apS (vx1 - vx0) (vy1 - vy0) n0 n1 ≤ 67108864 := by
    obtain ⟨_, _, _, _, _, _, _, a1, a2⟩ := h0
    obtain ⟨_, _, _, _, _, _, _, b1, b2⟩ := h1
    exact (apS_bd (ux := vx1 - vx0) (uy := vy1 - vy0) (by omega) (by omega) hn).2.2
  have hs := stS_in (v := apS (vx1 - vx0) (vy1 - vy0) n0 n1) (m := m0 + m1) (b := mx b0 b1) hap (by omega) hb
  unfold impulse_Strength.f
  rw [impulse_Approach.is h0 h1 hn]
  simp only [Option.bind_some]
  rw [w64_id (n := m0) (by omega) (by omega), w64_id (n := m1) (by omega) (by omega), w64_id (n := m0 + m1) (by omega) (by omega)]
  generalize apS (vx1 - vx0) (vy1 - vy0) n0 n1 = v at *
  unfold stS at *
  by_cases c : v ≥ 0
  · rw [if_pos c, if_pos c]
    simp [impulse_Strength.j0]
  · rw [if_neg c, if_neg c]
    by_cases d : m0 + m1 = 0
    · rw [if_pos d, beq_iff_eq.mpr d]
      simp [impulse_Strength.j0]
    · rw [if_neg c, if_neg d] at hs
      rw [if_neg d, beq_eq_false_iff_ne.mpr d]
      simp only [impulse_Strength.j0]
      rw [if_neg (by decide)]
      unfold impulse_Bounce.f
      simp only [Option.bind_some]
      rw [w64_id (n := mx b0 b1) (by omega) (by omega), w64_id (n := 65536 + mx b0 b1) (by omega) (by omega), w64_id (n := -v) (by omega) (by omega), wide_MulDiv.is (by omega) (by omega) (by omega)]
      unfold mulDivS fl
      rw [if_neg d, if_pos (show 0 < m0 + m1 by omega), if_pos (i64B_iff.mpr (by omega))]
      rfl
/-- One component of a change of velocity. -/
def chS (j m n : Int) : Int := j * m / 65536 * n / 65536
theorem chS_bd {j m n : Int} (hj : 0 ≤ j ∧ j ≤ 8796093022208) (hm : 0 ≤ m ∧ m ≤ 1048576) (hn : -65536 ≤ n ∧ n ≤ 65536) : (0 ≤ j * m / 65536 ∧ j * m / 65536 ≤ 140737488355328) ∧ -140737488355328 ≤ chS j m n ∧ chS j m n ≤ 140737488355328 := by
  have h := bd_mul (x := j) (y := m) (A := 8796093022208) (B := 1048576) (by omega) (by omega)
  have h0 := Int.mul_nonneg hj.1 hm.1
  have hk : 0 ≤ j * m / 65536 ∧ j * m / 65536 ≤ 140737488355328 := by omega
  refine ⟨hk, ?_⟩
  unfold chS
  have h2 := bd_mul (x := j * m / 65536) (y := n) (A := 140737488355328) (B := 65536) (by omega) (by omega)
  omega
theorem impulse_Change.is {j m n0 n1 : Int} (hj : 0 ≤ j ∧ j ≤ 8796093022208) (hm : 0 ≤ m ∧ m ≤ 1048576) (hn : NormB n0 n1) : impulse_Change.f j m n0 n1 = some (chS j m n0, chS j m n1) := by
  obtain ⟨g1, g2⟩ := chS_bd hj hm hn.1
  obtain ⟨_, g3⟩ := chS_bd hj hm hn.2
  obtain ⟨c1, c2⟩ := hn
  have e1 : shS j m = j * m / 65536 := by
    unfold shS shiftS
    rw [if_pos (by omega)]
    show ((if i64B (j * m / 2 ^ 16) = true then (j * m / 2 ^ 16, 0) else (0, 3) : Int × Int)).1 = _
    rw [if_pos (i64B_iff.mpr (show -9223372036854775808 ≤ j * m / 2 ^ 16 ∧ j * m / 2 ^ 16 ≤ 9223372036854775807 by omega))]
    exact congrArg (j * m / ·) (show (2 : Int) ^ 16 = 65536 by decide)
  have e2 : ∀ n, -140737488355328 ≤ chS j m n ∧ chS j m n ≤ 140737488355328 → shS (j * m / 65536) n = chS j m n := by
    intro n hb
    unfold shS shiftS
    rw [if_pos (by omega)]
    show ((if i64B (j * m / 65536 * n / 2 ^ 16) = true then (j * m / 65536 * n / 2 ^ 16, 0) else (0, 3) : Int × Int)).1 = _
    unfold chS at *
    rw [if_pos (i64B_iff.mpr (show -9223372036854775808 ≤ j * m / 65536 * n / 2 ^ 16 ∧ j * m / 65536 * n / 2 ^ 16 ≤ 9223372036854775807 by omega))]
    exact congrArg (j * m / 65536 * n / ·) (show (2 : Int) ^ 16 = 65536 by decide)
  unfold impulse_Change.f
  rw [e1, if_pos ⟨i64B_iff.mpr (by omega), i32B_iff.mpr (by omega), i32B_iff.mpr (by omega), i32B_iff.mpr (by omega), i64B_iff.mpr (by omega)⟩, e2 _ g2, e2 _ g3]
end Go.Proofs.Ytcbdcgghccjdpaa.Q

namespace Go.Proofs.Ytcbdcgghccjdpaa.Q
open Go.RowKit Go.Proofs.YtcbdcgghccjdpaaW.PrintWords Go.Proofs.YtcbdcgghccjdpaaW.PrintLast Go.Proofs.YtcbdcgghccjdpaaW.PrintMore
set_option linter.unusedVariables false
abbrev Cn := S41
theorem rdN {l : List Cn} {i : Nat} (h : i < l.length) : rd_T41 l (i : Int) = l[i] := by
  unfold rd_T41
  simp [List.getD, h]
/-- What an impulse changes: bounded, as a body's part of the inverse masses is at most one. -/
theorem chS_small {v m b mm n : Int} (hv : -67108864 ≤ v ∧ v ≤ 67108864) (hm : 0 ≤ m ∧ m ≤ 2097152) (hb : 0 ≤ b ∧ b ≤ 65536) (hp : 0 ≤ mm ∧ mm ≤ m) (hn : -65536 ≤ n ∧ n ≤ 65536) : -268435456 ≤ chS (stS v m b) mm n ∧ chS (stS v m b) mm n ≤ 268435456 := by
  have h0 : 0 ≤ stS v m b * mm ∧ stS v m b * mm ≤ 8796093022208 := by
    have hs := stS_in hv hm hb
    refine ⟨Int.mul_nonneg hs.1 hp.1, ?_⟩
    have h1 := Int.mul_le_mul_of_nonneg_left hp.2 hs.1
    have h2 : stS v m b * m ≤ 8796093022208 := by
      unfold stS
      split
      · omega
      · split
        · omega
        · have h := bd_mul (x := -v) (y := 65536 + b) (A := 67108864) (B := 131072) (by omega) (by omega)
          have := Int.ediv_mul_le (-v * (65536 + b)) (show m ≠ 0 by omega)
          omega
    omega
  unfold chS
  have hk : 0 ≤ stS v m b * mm / 65536 ∧ stS v m b * mm / 65536 ≤ 134217728 := by omega
  have h2 := bd_mul (x := stS v m b * mm / 65536) (y := n) (A := 134217728) (B := 65536) (by omega) (by omega)
  omega
theorem chS_none (j n : Int) : chS j 0 n = 0 := by simp [chS]
/-- A contact as the layer of jacobi requires. -/
structure J17 (v : List Bd) (c : Cn) : Prop where
  lt : c.f0.f0 < c.f0.f1
  lo : 0 ≤ ixOf v c.f0.f0 0
  hi : 0 ≤ ixOf v c.f0.f1 0
  n : NormB c.f1.f0 c.f1.f1
/-- The body of a view with a key. -/
def atJ (v : List Bd) (key : Int) : Bd := v.getD (ixOf v key 0).toNat z44
/-- The impulse at a contact. -/
def strJ (c : Cn) (a b : Bd) : Int := stS (apS (b.f6.f0 - a.f6.f0) (b.f6.f1 - a.f6.f1) c.f1.f0 c.f1.f1) (a.f3 + b.f3) (mx a.f4 b.f4)
/-- What a contact changes the velocity of the body with a key by, along one coordinate. -/
def chg (v : List Bd) (c : Cn) (key : Int) (second : Bool) : Int :=
  if c.f0.f0 = key then -chS (strJ c (atJ v c.f0.f0) (atJ v c.f0.f1)) (atJ v c.f0.f0).f3 (if second then c.f1.f1 else c.f1.f0)
  else if c.f0.f1 = key then chS (strJ c (atJ v c.f0.f0) (atJ v c.f0.f1)) (atJ v c.f0.f1).f3 (if second then c.f1.f1 else c.f1.f0)
  else 0
def chgL (v : List Bd) : List Cn → Int → Bool → Int
  | [], _, _ => 0
  | c :: l, key, s => chg v c key s + chgL v l key s
theorem two_J {v : List Bd} (hv : Vw 40 v) {c : Cn} (hc : J17 v c) : ∃ i j, ∃ hi : i < v.length, ∃ hj : j < v.length, v[i].f0 = c.f0.f0 ∧ v[j].f0 = c.f0.f1 ∧ i ≠ j ∧ atJ v c.f0.f0 = v[i] ∧ atJ v c.f0.f1 = v[j] ∧ ixOf v c.f0.f0 0 = (i : Int) ∧ ixOf v c.f0.f1 0 = (j : Int) := by
  obtain ⟨i, hi, ei, ki⟩ := ixOf_some v c.f0.f0 0 hc.lo
  obtain ⟨j, hj, ej, kj⟩ := ixOf_some v c.f0.f1 0 hc.hi
  rw [Nat.zero_add] at ei ej
  refine ⟨i, j, hi, hj, ki, kj, fun e => ?_, ?_, ?_, ei, ej⟩
  · subst e
    have := hc.lt
    omega
  · unfold atJ
    rw [ei]
    simp [List.getD, hi]
  · unfold atJ
    rw [ej]
    simp [List.getD, hj]
/-- The bounds of the strength and of the changes. -/
theorem str_bd {c : Cn} (hn : NormB c.f1.f0 c.f1.f1) {a b : Bd} (ha : VB a) (hb : VB b) : (0 ≤ strJ c a b ∧ strJ c a b ≤ 8796093022208) ∧ ∀ n, -65536 ≤ n ∧ n ≤ 65536 → (-268435456 ≤ chS (strJ c a b) a.f3 n ∧ chS (strJ c a b) a.f3 n ≤ 268435456) ∧ -268435456 ≤ chS (strJ c a b) b.f3 n ∧ chS (strJ c a b) b.f3 n ≤ 268435456 := by
  have h0 := ha.m
  have h1 := hb.m
  have a1 := ha.vx
  have a2 := ha.vy
  have b1 := hb.vx
  have b2 := hb.vy
  have hap := (apS_bd (ux := b.f6.f0 - a.f6.f0) (uy := b.f6.f1 - a.f6.f1) (by omega) (by omega) hn).2.2
  have hm := mx_bd ha.b hb.b
  have hs := stS_in (v := apS (b.f6.f0 - a.f6.f0) (b.f6.f1 - a.f6.f1) c.f1.f0 c.f1.f1) (m := a.f3 + b.f3) (b := mx a.f4 b.f4) hap (by omega) hm
  exact ⟨hs, fun n hnn => ⟨chS_small hap (by omega) hm (by omega) hnn, chS_small hap (by omega) hm (by omega) hnn⟩⟩
theorem chg_bd {v : List Bd} (hv : Vw 40 v) {c : Cn} (hc : J17 v c) (key : Int) (s : Bool) : -268435456 ≤ chg v c key s ∧ chg v c key s ≤ 268435456 := by
  obtain ⟨i, j, hi, hj, ki, kj, hij, ai, aj, _, _⟩ := two_J hv hc
  have hn : -65536 ≤ (if s then c.f1.f1 else c.f1.f0) ∧ (if s then c.f1.f1 else c.f1.f0) ≤ 65536 := by
    cases s
    · exact hc.n.1
    · exact hc.n.2
  have h := (str_bd hc.n (hv.good _ (List.getElem_mem hi)).1 (hv.good _ (List.getElem_mem hj)).1).2 _ hn
  unfold chg
  rw [ai, aj]
  split
  · omega
  · split
    · exact h.2
    · omega
theorem chgL_bd {v : List Bd} (hv : Vw 40 v) (key : Int) (s : Bool) : ∀ l : List Cn, (∀ c ∈ l, J17 v c) → -(268435456 * (l.length : Int)) ≤ chgL v l key s ∧ chgL v l key s ≤ 268435456 * (l.length : Int)
  | [], _ => by simp [chgL]
  | c :: l, h => by
    have h1 := chg_bd hv (h c (by simp)) key s
    have h2 := chgL_bd hv key s l (fun x hx => h x (List.mem_cons_of_mem _ hx))
    rw [chgL, List.length_cons]
    omega
theorem getD_setI {xs : List Int} {m : Nat} (h : m < xs.length) (y : Int) (t : Nat) : (xs.set m y).getD t 0 = if m = t then y else xs.getD t 0 := by
  simp only [List.getD, List.getElem?_set]
  by_cases c : m = t
  · rw [if_pos c, if_pos c]
    subst c
    rw [if_pos h]
    rfl
  · rw [if_neg c, if_neg c]
theorem sumsL_step {v : List Bd} (hv : Vw 40 v) {c : Cn} (hc : J17 v c) (l : List Cn) (xs ys : List Int) {B : Int} (hxs : xs.length = v.length) (hys : ys.length = v.length) (hB : ∀ t, t < v.length → (-B ≤ xs.getD t 0 ∧ xs.getD t 0 ≤ B) ∧ -B ≤ ys.getD t 0 ∧ ys.getD t 0 ≤ B) (hb : B ≤ 1000000000000) :
    ∃ xs' ys' : List Int, sumsL v (c :: l) xs ys = sumsL v l xs' ys' ∧ xs'.length = v.length ∧ ys'.length = v.length ∧ ∀ t (h : t < v.length), xs'.getD t 0 = xs.getD t 0 + chg v c v[t].f0 false ∧ ys'.getD t 0 = ys.getD t 0 + chg v c v[t].f0 true := by
  obtain ⟨i, j, hi, hj, ki, kj, hij, ai, aj, _, _⟩ := two_J hv hc
  have va := (hv.good _ (List.getElem_mem hi)).1
  have vb := (hv.good _ (List.getElem_mem hj)).1
  have ma := va.m
  have mb := vb.m
  have hs := str_bd hc.n va vb
  have g0 := hs.2 _ hc.n.1
  have g1 := hs.2 _ hc.n.2
  have s0 := impulse_Strength.is (p0 := c.f0.f0) (p1 := c.f0.f1) (dp := c.f2) va vb hc.n 0
  have c0 : impulse_Change.f (strJ c v[i] v[j]) v[i].f3 c.f1.f0 c.f1.f1 = _ := impulse_Change.is hs.1 ma hc.n
  have c1 : impulse_Change.f (strJ c v[i] v[j]) v[j].f3 c.f1.f0 c.f1.f1 = _ := impulse_Change.is hs.1 mb hc.n
  rw [sumsL, vfind_at hv.rise hi ki]
  simp only [Option.bind_some]
  rw [vfind_at hv.rise hj kj]
  simp only [Option.bind_some]
  rw [if_pos ⟨by omega, by omega⟩, rdB hi, rdB hj, s0]
  simp only [Option.bind_some]
  rw [show impulse_Change.f (stS (apS (v[j].f6.f0 - v[i].f6.f0) (v[j].f6.f1 - v[i].f6.f1) c.f1.f0 c.f1.f1) (v[i].f3 + v[j].f3) (mx v[i].f4 v[j].f4)) v[i].f3 c.f1.f0 c.f1.f1 = _ from c0]
  simp only [Option.bind_some]
  rw [show impulse_Change.f (stS (apS (v[j].f6.f0 - v[i].f6.f0) (v[j].f6.f1 - v[i].f6.f1) c.f1.f0 c.f1.f1) (v[i].f3 + v[j].f3) (mx v[i].f4 v[j].f4)) v[j].f3 c.f1.f0 c.f1.f1 = _ from c1]
  simp only [Option.bind_some, Int.toNat_natCast]
  refine ⟨_, _, rfl, by simp [hxs], by simp [hys], fun t h => ?_⟩
  have w : ∀ a b : Int, -1000000000000 ≤ a → a ≤ 1000000000000 → -268435456 ≤ b → b ≤ 268435456 → wrap64 (a - b) = a - b ∧ wrap64 (a + b) = a + b := fun a b _ _ _ _ => by unfold wrap64; omega
  have bi := hB i hi
  have bj := hB j hj
  rw [getD_setI (by rw [List.length_set]; omega), getD_setI (by omega), getD_setI (by omega), getD_setI (by rw [List.length_set]; omega), getD_setI (by omega), getD_setI (by omega), if_neg hij, if_neg hij]
  rw [(w (xs.getD i 0) _ (by omega) (by omega) g0.1.1 g0.1.2).1, (w (ys.getD i 0) _ (by omega) (by omega) g1.1.1 g1.1.2).1, (w (xs.getD j 0) _ (by omega) (by omega) g0.2.1 g0.2.2).2, (w (ys.getD j 0) _ (by omega) (by omega) g1.2.1 g1.2.2).2]
  unfold chg
  rw [ai, aj]
  by_cases e1 : i = t
  · subst e1
    have hji : ¬ j = i := fun e => hij e.symm
    rw [if_neg hji, if_neg hji, if_pos (show i = i from rfl), if_pos (show i = i from rfl), if_pos ki.symm, if_pos ki.symm]
    exact ⟨by rw [if_neg (by decide)]; omega, by rw [if_pos rfl]; omega⟩
  · have k1 : ¬ c.f0.f0 = v[t].f0 := fun e => e1 (rise_inj hv.rise hi h (ki.trans e))
    rw [if_neg k1, if_neg k1, if_neg e1, if_neg e1]
    by_cases e2 : j = t
    · subst e2
      rw [if_pos rfl, if_pos rfl, if_pos kj.symm, if_pos kj.symm]
      exact ⟨by rw [if_neg (by decide)], by rw [if_pos rfl]⟩
    · have k2 : ¬ c.f0.f1 = v[t].f0 := fun e => e2 (rise_inj hv.rise hj h (kj.trans e))
      rw [if_neg k2, if_neg k2, if_neg e2, if_neg e2]
      simp
theorem sumsL_is {v : List Bd} (hv : Vw 40 v) : ∀ (l : List Cn) (xs ys : List Int) (B : Int), (∀ c ∈ l, J17 v c) → xs.length = v.length → ys.length = v.length → (∀ t, t < v.length → (-B ≤ xs.getD t 0 ∧ xs.getD t 0 ≤ B) ∧ -B ≤ ys.getD t 0 ∧ ys.getD t 0 ≤ B) → B + 268435456 * (l.length : Int) ≤ 1000000000000 →
    ∃ xs' ys' : List Int, sumsL v l xs ys = some (xs', ys') ∧ xs'.length = v.length ∧ ys'.length = v.length ∧ ∀ t (h : t < v.length), xs'.getD t 0 = xs.getD t 0 + chgL v l v[t].f0 false ∧ ys'.getD t 0 = ys.getD t 0 + chgL v l v[t].f0 true
  | [], xs, ys, B, _, hxs, hys, _, _ => ⟨xs, ys, by rw [sumsL], hxs, hys, fun t h => by simp [chgL]⟩
  | c :: l, xs, ys, B, hl, hxs, hys, hB, hb => by
    rw [List.length_cons] at hb
    obtain ⟨x1, y1, e, hx1, hy1, hm⟩ := sumsL_step hv (hl c (by simp)) l xs ys hxs hys hB (by omega)
    obtain ⟨x2, y2, e2, hx2, hy2, hm2⟩ := sumsL_is hv l x1 y1 (B + 268435456) (fun x hx => hl x (List.mem_cons_of_mem _ hx)) hx1 hy1 (fun t ht => by
      have h1 := hB t ht
      have h2 := hm t ht
      have h3 := chg_bd hv (hl c (by simp)) v[t].f0 false
      have h4 := chg_bd hv (hl c (by simp)) v[t].f0 true
      omega) (by omega)
    refine ⟨x2, y2, e.trans e2, hx2, hy2, fun t ht => ?_⟩
    have h2 := hm t ht
    have h3 := hm2 t ht
    rw [chgL, chgL]
    omega
/-- The sums of a view's bodies. -/
theorem jSums_is {v : List Bd} (hv : Vw 40 v) (l : List Cn) (hl : ∀ c ∈ l, J17 v c) (hn : l.length ≤ 1000) : ∃ xs ys : List Int, jacobi_Sums.f v l = some (xs, ys) ∧ xs.length = v.length ∧ ys.length = v.length ∧ ∀ t (h : t < v.length), xs.getD t 0 = chgL v l v[t].f0 false ∧ ys.getD t 0 = chgL v l v[t].f0 true := by
  have hz : ∀ t, t < v.length → (List.replicate v.length (0 : Int)).getD t 0 = 0 := fun t h => by simp [List.getD, h]
  obtain ⟨xs, ys, e, hx, hy, hm⟩ := sumsL_is hv l (List.replicate v.length 0) (List.replicate v.length 0) 0 hl (by simp) (by simp) (fun t ht => by rw [hz t ht]; decide) (by omega)
  refine ⟨xs, ys, ?_, hx, hy, fun t h => ?_⟩
  · unfold jacobi_Sums.f
    rw [if_pos (by have := hv.len; omega)]
    exact e
  · have := hm t h
    rw [hz t h] at this
    rw [this.1, this.2]
    exact ⟨Int.zero_add _, Int.zero_add _⟩
/-! ### a round -/
def limV (x : Int) : Int := mx (-16777216) (mn x 16777216)
theorem limV_bd (x : Int) : -16777216 ≤ limV x ∧ limV x ≤ 16777216 := by unfold limV mx mn; omega
theorem limV_id {x : Int} (h : -16777216 ≤ x ∧ x ≤ 16777216) : limV x = x := by unfold limV mx mn; omega
def setV (b : Bd) (x y : Int) : Bd := ⟨b.f0, b.f1, ⟨b.f2.f0, b.f2.f1⟩, b.f3, b.f4, ⟨b.f5.f0, b.f5.f1⟩, ⟨x, y⟩⟩
def stepB (v : List Bd) (l : List Cn) (b : Bd) : Bd := setV b (limV (b.f6.f0 + chgL v l b.f0 false)) (limV (b.f6.f1 + chgL v l b.f0 true))
def cutB (v : List Bd) (l : List Cn) (b : Bd) : Bool := (limV (b.f6.f0 + chgL v l b.f0 false) != b.f6.f0 + chgL v l b.f0 false) || (limV (b.f6.f1 + chgL v l b.f0 true) != b.f6.f1 + chgL v l b.f0 true)
def rnd (l : List Cn) (v : List Bd) : List Bd := v.map (stepB v l)
def cutR (l : List Cn) (v : List Bd) : Bool := v.any (cutB v l)
theorem rd_getD (xs : List Int) (i : Nat) : rd xs (i : Int) = xs.getD i 0 := by unfold rd; simp
theorem lim_w : wrap64 (-16777216) = -16777216 := by unfold wrap64; omega
theorem wf32 {x : Int} (h : -16777216 ≤ x ∧ x ≤ 16777216) : (Lit.int .i32 x).wf = true := by
  have hmin : IntKind.i32.min = -2147483648 := rfl
  have hmax : IntKind.i32.max = 2147483647 := rfl
  simp only [Lit.wf, Bool.and_eq_true, decide_eq_true_eq]
  omega
theorem vel_sum {v : List Bd} (hv : Vw 40 v) {l : List Cn} (hl : ∀ c ∈ l, J17 v c) (hn : l.length ≤ 1000) {i : Nat} (hi : i < v.length) (s : Bool) : wrap64 (wrap64 (if s then v[i].f6.f1 else v[i].f6.f0) + chgL v l v[i].f0 s) = (if s then v[i].f6.f1 else v[i].f6.f0) + chgL v l v[i].f0 s := by
  have hb := (hv.good _ (List.getElem_mem hi)).1
  have h1 := hb.vx
  have h2 := hb.vy
  have h3 := chgL_bd hv v[i].f0 s l hl
  have h4 : -16777216 ≤ (if s then v[i].f6.f1 else v[i].f6.f0) ∧ (if s then v[i].f6.f1 else v[i].f6.f0) ≤ 16777216 := by cases s; exact h1; exact h2
  generalize (if s then v[i].f6.f1 else v[i].f6.f0) = z at *
  generalize chgL v l v[i].f0 s = y at *
  unfold wrap64
  omega
theorem jRound_l0 {v : List Bd} (hv : Vw 40 v) {l : List Cn} (hl : ∀ c ∈ l, J17 v c) (hn : l.length ≤ 1000) (xs ys : List Int) (hx : xs.length = v.length) (hy : ys.length = v.length) (hm : ∀ t (h : t < v.length), xs.getD t 0 = chgL v l v[t].f0 false ∧ ys.getD t 0 = chgL v l v[t].f0 true) : ∀ (d k i : Nat) (acc : List Bd) (f : Bool), v.length - i = d → i ≤ v.length → d < k → acc.length + d ≤ 1000 →
    jacobi_Round.l0 k xs ys f acc v (v.length : Int) (i : Int) = some (acc ++ (v.drop i).map (stepB v l), f || (v.drop i).any (cutB v l)) := fun d => by
  have hvl := hv.len
  induction d with
  | zero =>
    intro k i acc f hd hi hk ha
    obtain ⟨k, rfl⟩ : ∃ j, k = j + 1 := ⟨k - 1, by omega⟩
    rw [jacobi_Round.l0, if_neg (by omega), List.drop_eq_nil_of_le (by omega)]
    simp
  | succ d ih =>
    intro k i acc f hd hi hk ha
    obtain ⟨k, rfl⟩ : ∃ j, k = j + 1 := ⟨k - 1, by omega⟩
    have hlt : i < v.length := by omega
    have e0 := vel_sum hv hl hn hlt false
    have e1 := vel_sum hv hl hn hlt true
    rw [if_neg (by decide)] at e0
    rw [if_pos rfl] at e1
    have w : ∀ x, wrap32 (limV x) = limV x := fun x => by have := limV_bd x; unfold wrap32; omega
    have next := fun (g : Bool) => ih k (i + 1) (acc ++ [stepB v l v[i]]) g (by omega) (by omega) (by omega) (by simp; omega)
    have hd1 : acc ++ (v.drop i).map (stepB v l) = acc ++ [stepB v l v[i]] ++ (v.drop (i + 1)).map (stepB v l) := by rw [List.drop_eq_getElem_cons hlt, List.map_cons, List.append_assoc]; rfl
    have hd2 : (v.drop i).any (cutB v l) = (cutB v l v[i] || (v.drop (i + 1)).any (cutB v l)) := by rw [List.drop_eq_getElem_cons hlt, List.any_cons]
    rw [jacobi_Round.l0, if_pos (by omega), if_pos (by omega), if_pos (by omega), if_pos (by omega), rdB hlt, rd_getD, rd_getD, (hm i hlt).1, (hm i hlt).2, e0, e1]
    unfold fx_Limit.f
    simp only [Option.bind_some]
    rw [if_pos (by omega), lim_w, step_ix hlt (by omega)]
    show (if f = true then (if acc.length < 3518437208883 then jacobi_Round.l0 k xs ys true (acc ++ [setV v[i] (wrap32 (limV (v[i].f6.f0 + chgL v l v[i].f0 false))) (wrap32 (limV (v[i].f6.f1 + chgL v l v[i].f0 true)))]) v (v.length : Int) ((i + 1 : Nat) : Int) else none)
      else (if (limV (v[i].f6.f0 + chgL v l v[i].f0 false) != v[i].f6.f0 + chgL v l v[i].f0 false) = true then (if acc.length < 3518437208883 then jacobi_Round.l0 k xs ys true (acc ++ [setV v[i] (wrap32 (limV (v[i].f6.f0 + chgL v l v[i].f0 false))) (wrap32 (limV (v[i].f6.f1 + chgL v l v[i].f0 true)))]) v (v.length : Int) ((i + 1 : Nat) : Int) else none)
      else (if acc.length < 3518437208883 then jacobi_Round.l0 k xs ys (limV (v[i].f6.f1 + chgL v l v[i].f0 true) != v[i].f6.f1 + chgL v l v[i].f0 true) (acc ++ [setV v[i] (wrap32 (limV (v[i].f6.f0 + chgL v l v[i].f0 false))) (wrap32 (limV (v[i].f6.f1 + chgL v l v[i].f0 true)))]) v (v.length : Int) ((i + 1 : Nat) : Int) else none))) = _
    rw [w, w, if_pos (show acc.length < 3518437208883 by omega), if_pos (show acc.length < 3518437208883 by omega), hd1, hd2]
    rw [show setV v[i] (limV (v[i].f6.f0 + chgL v l v[i].f0 false)) (limV (v[i].f6.f1 + chgL v l v[i].f0 true)) = stepB v l v[i] from rfl, next true, next _]
    unfold cutB
    cases f
    · rw [if_neg (by decide)]
      generalize (limV (v[i].f6.f0 + chgL v l v[i].f0 false) != v[i].f6.f0 + chgL v l v[i].f0 false) = p
      cases p <;> simp
    · rw [if_pos rfl]
      simp
theorem jRound_is {v : List Bd} (hv : Vw 40 v) {l : List Cn} (hl : ∀ c ∈ l, J17 v c) (hn : l.length ≤ 1000) {k : Nat} (hk : 41 ≤ k) : jacobi_Round.f k v l = some (rnd l v, cutR l v) := by
  have hvl := hv.len
  obtain ⟨xs, ys, e, hx, hy, hm⟩ := jSums_is hv l hl hn
  unfold jacobi_Round.f
  rw [e]
  simp only [Option.bind_some]
  have := jRound_l0 hv hl hn xs ys hx hy hm v.length k 0 [] false (by omega) (by omega) (by omega) (by simp; omega)
  rw [show jacobi_Round.l0 k xs ys false [] v (v.length : Int) 0 = _ from this]
  simp [rnd, cutR]
/-! ### what a round keeps -/
theorem ixOf_map (g : Bd → Bd) (hg : ∀ b, (g b).f0 = b.f0) : ∀ (v : List Bd) (key : Int) (n : Nat), ixOf (v.map g) key n = ixOf v key n
  | [], _, _ => rfl
  | b :: v, key, n => by
    rw [List.map_cons, ixOf, ixOf, hg, ixOf_map g hg v key (n + 1)]
theorem stepB_key (v : List Bd) (l : List Cn) (b : Bd) : (stepB v l b).f0 = b.f0 := rfl
theorem rnd_vw {v : List Bd} (hv : Vw 40 v) (l : List Cn) : Vw 40 (rnd l v) := by
  refine ⟨?_, fun x hx => ?_, by have := hv.len; unfold rnd; rw [List.length_map]; exact this⟩
  · have := hv.rise
    unfold rnd Rise
    rw [List.pairwise_map]
    exact this
  · obtain ⟨b, hb, rfl⟩ := List.mem_map.mp hx
    obtain ⟨h1, h2⟩ := hv.good b hb
    have l1 := limV_bd (b.f6.f0 + chgL v l b.f0 false)
    have l2 := limV_bd (b.f6.f1 + chgL v l b.f0 true)
    refine ⟨⟨h1.r, h1.ax, h1.ay, h1.m, h1.b, h1.px, h1.py, l1, l2⟩, ?_⟩
    obtain ⟨w0, w1, w2, w3, w4, w5, w6, w7, w8, w9⟩ := h2
    exact ⟨w0, w1, w2, w3, w4, w5, w6, w7, wf32 l1, wf32 l2⟩
theorem rnd_J {v : List Bd} {l : List Cn} {c : Cn} (hc : J17 v c) : J17 (rnd l v) c :=
  ⟨hc.lt, by unfold rnd; rw [ixOf_map _ (stepB_key v l)]; exact hc.lo, by unfold rnd; rw [ixOf_map _ (stepB_key v l)]; exact hc.hi, hc.n⟩
/-! ### all rounds -/
def solV (l : List Cn) : Nat → List Bd → Bool → List Bd × Bool
  | 0, v, f => (v, f)
  | n + 1, v, f => solV l n (rnd l v) (f || cutR l v)
theorem jSolve_l0 (l : List Cn) (hn : l.length ≤ 1000) : ∀ (n : Nat) (v : List Bd) (f : Bool) (k : Nat), n ≤ 4 → Vw 40 v → (∀ c ∈ l, J17 v c) → n + 41 ≤ k → jacobi_Solve.l0 k v l f ((4 - n : Nat) : Int) = some (solV l n v f)
  | 0, v, f, k, _, _, _, hk => by
    obtain ⟨k, rfl⟩ : ∃ j, k = j + 1 := ⟨k - 1, by omega⟩
    rw [jacobi_Solve.l0, if_neg (by omega)]
    rfl
  | n + 1, v, f, k, hn4, hv, hl, hk => by
    obtain ⟨k, rfl⟩ : ∃ j, k = j + 1 := ⟨k - 1, by omega⟩
    have ih := fun g => jSolve_l0 l hn n (rnd l v) g k (by omega) (rnd_vw hv l) (fun c hc => rnd_J (hl c hc)) (by omega)
    have e : wrap64 (((4 - (n + 1) : Nat) : Int) + 1) = ((4 - n : Nat) : Int) := by unfold wrap64; omega
    rw [jacobi_Solve.l0, if_pos (by omega), jRound_is hv hl hn (by omega)]
    simp only [Option.bind_some]
    rw [e]
    cases f
    · rw [if_neg (by decide), ih, solV, Bool.false_or]
    · rw [if_pos rfl, ih, solV, Bool.true_or]
theorem jSolve_is {v : List Bd} (hv : Vw 40 v) {l : List Cn} (hl : ∀ c ∈ l, J17 v c) (hn : l.length ≤ 1000) {k : Nat} (hk : 45 ≤ k) : jacobi_Solve.f k v l = some (solV l 4 v false) := by
  have := jSolve_l0 l hn 4 v false k (by omega) hv hl (by omega)
  exact this
/-- The contacts that the reference lets through. -/
theorem jRight_l0 (v : List Bd) (hv : v.length ≤ 40) (l : List Cn) (hl : l.length ≤ 100) : ∀ (d i : Nat), l.length - i = d → i ≤ l.length → ∃ b : Bool, (∀ k, 2 * d + 50 ≤ k → billiardref17_Right.l0 k v l (i : Int) = some b) ∧ (b = true → ∀ x ∈ l.drop i, J17 v x) := fun d => by
  induction d with
  | zero =>
    intro i hd hi
    refine ⟨true, fun k hk => ?_, fun _ x hx => by rw [List.drop_eq_nil_of_le (by omega)] at hx; simp at hx⟩
    obtain ⟨k, rfl⟩ : ∃ j, k = j + 1 := ⟨k - 1, by omega⟩
    rw [billiardref17_Right.l0, if_neg (by omega)]
  | succ d ih =>
    intro i hd hi
    have hlt : i < l.length := by omega
    have f0 : ∀ k, 50 ≤ k → billiardref06_Find.f k v l[i].f0.f0 = some (ixOf v l[i].f0.f0 0) := fun k hk => find_is v _ (by omega) (by omega)
    have f1 : ∀ k, 50 ≤ k → billiardref06_Find.f k v l[i].f0.f1 = some (ixOf v l[i].f0.f1 0) := fun k hk => find_is v _ (by omega) (by omega)
    by_cases c1 : l[i].f0.f0 ≥ l[i].f0.f1
    · refine ⟨false, fun k hk => ?_, fun h => by cases h⟩
      obtain ⟨k, rfl⟩ : ∃ j, k = j + 1 + 1 := ⟨k - 2, by omega⟩
      rw [billiardref17_Right.l0, if_pos (by omega), if_pos (by omega), rdN hlt, if_pos c1, billiardref17_Right.j1, if_pos rfl]
    by_cases c2 : ixOf v l[i].f0.f0 0 < 0
    · refine ⟨false, fun k hk => ?_, fun h => by cases h⟩
      obtain ⟨k, rfl⟩ : ∃ j, k = j + 1 + 1 := ⟨k - 2, by omega⟩
      rw [billiardref17_Right.l0, if_pos (by omega), if_pos (by omega), rdN hlt, if_neg c1, f0 _ (by omega)]
      simp only [Option.bind_some]
      rw [if_pos c2, billiardref17_Right.j1, if_pos rfl]
    have go : ∀ k, 2 * d + 51 ≤ k → billiardref17_Right.l0 (k + 1) v l (i : Int) = billiardref17_Right.j1 k v l (i : Int) (decide (ixOf v l[i].f0.f1 0 < 0)) l[i].f0.f0 l[i].f0.f1 l[i].f1.f0 l[i].f1.f1 l[i].f2 := fun k hk => by
      rw [billiardref17_Right.l0, if_pos (by omega), if_pos (by omega), rdN hlt, if_neg c1, f0 _ (by omega)]
      simp only [Option.bind_some]
      rw [if_neg c2, f1 _ (by omega)]
      rfl
    by_cases c3 : ixOf v l[i].f0.f1 0 < 0
    · refine ⟨false, fun k hk => ?_, fun h => by cases h⟩
      obtain ⟨k, rfl⟩ : ∃ j, k = j + 1 + 1 := ⟨k - 2, by omega⟩
      rw [go _ (by omega), decide_eq_true c3, billiardref17_Right.j1, if_pos rfl]
    rw [decide_eq_false c3] at go
    by_cases c4 : l[i].f1.f0 < (-65536)
    · refine ⟨false, fun k hk => ?_, fun h => by cases h⟩
      obtain ⟨k, rfl⟩ : ∃ j, k = j + 1 + 1 := ⟨k - 2, by omega⟩
      rw [go _ (by omega), billiardref17_Right.j1, if_neg (by decide), if_pos c4]
    by_cases c5 : l[i].f1.f0 > 65536
    · refine ⟨false, fun k hk => ?_, fun h => by cases h⟩
      obtain ⟨k, rfl⟩ : ∃ j, k = j + 1 + 1 := ⟨k - 2, by omega⟩
      rw [go _ (by omega), billiardref17_Right.j1, if_neg (by decide), if_neg c4, if_pos c5]
    by_cases c6 : l[i].f1.f1 < (-65536)
    · refine ⟨false, fun k hk => ?_, fun h => by cases h⟩
      obtain ⟨k, rfl⟩ : ∃ j, k = j + 1 + 1 := ⟨k - 2, by omega⟩
      rw [go _ (by omega), billiardref17_Right.j1, if_neg (by decide), if_neg c4, if_neg c5, if_pos c6]
    by_cases c7 : l[i].f1.f1 > 65536
    · refine ⟨false, fun k hk => ?_, fun h => by cases h⟩
      obtain ⟨k, rfl⟩ : ∃ j, k = j + 1 + 1 := ⟨k - 2, by omega⟩
      rw [go _ (by omega), billiardref17_Right.j1, if_neg (by decide), if_neg c4, if_neg c5, if_neg c6, if_pos c7]
    obtain ⟨b, hb, hg⟩ := ih (i + 1) (by omega) (by omega)
    refine ⟨b, fun k hk => ?_, fun h x hx => ?_⟩
    · obtain ⟨k, rfl⟩ : ∃ j, k = j + 1 + 1 := ⟨k - 2, by omega⟩
      rw [go _ (by omega), billiardref17_Right.j1, if_neg (by decide), if_neg c4, if_neg c5, if_neg c6, if_neg c7, step_ix hlt (by omega)]
      exact hb k (by omega)
    · rw [List.drop_eq_getElem_cons hlt] at hx
      rcases List.mem_cons.mp hx with rfl | hx
      · exact ⟨by omega, by omega, by omega, ⟨⟨by omega, by omega⟩, ⟨by omega, by omega⟩⟩⟩
      · exact hg h x hx
theorem jRight_is (v : List Bd) (hv : v.length ≤ 40) (l : List Cn) : ∃ b : Bool, (∀ k, 300 ≤ k → billiardref17_Right.f k v l = some b) ∧ (b = true → l.length ≤ 100 ∧ ∀ x ∈ l, J17 v x) := by
  by_cases h100 : (l.length : Int) > 100
  · refine ⟨false, fun k hk => ?_, fun h => by cases h⟩
    unfold billiardref17_Right.f
    rw [if_pos h100]
  obtain ⟨b, hb, hg⟩ := jRight_l0 v hv l (by omega) l.length 0 (by omega) (by omega)
  refine ⟨b, fun k hk => ?_, fun h => ⟨by omega, fun x hx => hg h x (by simpa using hx)⟩⟩
  unfold billiardref17_Right.f
  rw [if_neg h100]
  exact hb k (by omega)
theorem jSame_l0 (v : List Bd) (hv : v.length ≤ 1000) : ∀ (d k i : Nat), v.length - i = d → i ≤ v.length → d < k → billiardref06_Same.l0 k v v (i : Int) = some true := fun d => by
  induction d with
  | zero =>
    intro k i hd hi hk
    obtain ⟨k, rfl⟩ : ∃ j, k = j + 1 := ⟨k - 1, by omega⟩
    rw [billiardref06_Same.l0, if_neg (by omega)]
  | succ d ih =>
    intro k i hd hi hk
    obtain ⟨k, rfl⟩ : ∃ j, k = j + 1 := ⟨k - 1, by omega⟩
    have hlt : i < v.length := by omega
    rw [billiardref06_Same.l0, if_pos (by omega), if_pos (by omega), if_pos (by omega), if_neg (by simp), step_ix hlt (by omega)]
    exact ih k (i + 1) (by omega) (by omega) (by omega)
theorem jSame_is (v : List Bd) (hv : v.length ≤ 1000) {k : Nat} (hk : v.length < k) : billiardref06_Same.f k v v = some true := by
  unfold billiardref06_Same.f
  rw [if_pos rfl]
  exact jSame_l0 v hv v.length k 0 (by omega) (by omega) hk
/-- The order of the contacts does not matter. -/
theorem chgL_perm (v : List Bd) {a b : List Cn} (h : a.Perm b) (key : Int) (s : Bool) : chgL v a key s = chgL v b key s := by
  induction h with
  | nil => rfl
  | cons c _ ih => rw [chgL, chgL, ih]
  | swap c d l => rw [chgL, chgL, chgL, chgL]; omega
  | trans _ _ h1 h2 => exact h1.trans h2
theorem solV_perm {a b : List Cn} (h : a.Perm b) : ∀ (n : Nat) (v : List Bd) (f : Bool), solV a n v f = solV b n v f
  | 0, _, _ => rfl
  | n + 1, v, f => by
    have e1 : rnd a v = rnd b v := by
      unfold rnd
      apply List.map_congr_left
      intro x _
      unfold stepB
      rw [chgL_perm v h, chgL_perm v h]
    have e2 : cutR a v = cutR b v := by
      unfold cutR
      congr 1
      funext x
      unfold cutB
      rw [chgL_perm v h, chgL_perm v h]
    rw [solV, solV, e1, e2, solV_perm h n]
/-- Where nothing changes. -/
theorem solV_still {l : List Cn} {v : List Bd} (h : ∀ b ∈ v, stepB v l b = b ∧ cutB v l b = false) : ∀ n, solV l n v false = (v, false) := fun n => by
  have e1 : rnd l v = v := by
    unfold rnd
    rw [List.map_congr_left (fun b hb => (h b hb).1)]
    exact List.map_id v
  have e2 : cutR l v = false := by
    unfold cutR
    rw [List.any_eq_false]
    intro b hb
    rw [(h b hb).2]
    decide
  induction n with
  | zero => rfl
  | succ n ih => rw [solV, e1, e2]; exact ih
theorem step_still {v : List Bd} {l : List Cn} {b : Bd} (hb : VB b) (h0 : chgL v l b.f0 false = 0) (h1 : chgL v l b.f0 true = 0) : stepB v l b = b ∧ cutB v l b = false := by
  have e1 : limV (b.f6.f0 + 0) = b.f6.f0 := by rw [Int.add_zero]; exact limV_id hb.vx
  have e2 : limV (b.f6.f1 + 0) = b.f6.f1 := by rw [Int.add_zero]; exact limV_id hb.vy
  unfold stepB cutB
  rw [h0, h1, e1, e2]
  exact ⟨rfl, by simp⟩
theorem awake17 : ∀ k, 60 ≤ k → billiardlaw17_awake.f k = some true := fun k hk => at_rounds billiardlaw17_awake.mono hk (by decide +kernel)
end Go.Proofs.Ytcbdcgghccjdpaa.Q
