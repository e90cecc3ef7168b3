/- What the reference's check of a body tells. -/
import Derived.Test.YtabcnaceffpekaaQbilliardref05
import Derived.Test.YtabcnaceffpekaaMspec
import Derived.Test.YtabcnaceffpekaaQbilliardref11
import Derived.Test.YtabcnaceffpekaaMslice
import Derived.Test.YtabcnaceffpekaaQpoint
import Derived.Test.YtabcnaceffpekaaQbilliardref12
import Derived.Test.YtabcnaceffpekaaQroot
import Derived.Test.YtabcnaceffpekaaQbilliardref03
import Derived.IntWalk
import Derived.Test.YtabcnaceffpekaaQvec
import Derived.Test.YtabcnaceffpekaaQbilliardref04
import Derived.Test.YtabcnaceffpekaaQbox
import Derived.Test.YtabcnaceffpekaaQbilliardref08
import Derived.Test.YtabcnaceffpekaaQquery
import Derived.Test.YtabcnaceffpekaaQapi
import Derived.Test.YtabcnaceffpekaaQbilliardref24
import Derived.Test.YtabcnaceffpekaaQbilliardlaw24
namespace Go.Proofs.Ytabcnaceffpekaa.Q
open Go.RowKit Go.Proofs.YtabcnaceffpekaaW.PrintWords Go.Proofs.YtabcnaceffpekaaW.PrintLast Go.Proofs.YtabcnaceffpekaaW.PrintMore
set_option linter.unusedVariables false
theorem billiardref05_In.is (a b : Int) (hb : -2147483647 ≤ b ∧ b ≤ 2147483647) : billiardref05_In.f a b = some (decide (-b ≤ a ∧ a ≤ b)) := by
  unfold billiardref05_In.f
  rw [w32_id (n := -b) (by omega) (by omega)]
  by_cases h : -b ≤ a
  · rw [if_pos h]
    congr 1
    rw [decide_eq_decide]
    omega
  · rw [if_neg h, decide_eq_false (by omega)]
/-- A valid body: radius, axis, inverse mass, bounce, position, velocity. -/
structure Valid (key r ax ay m b px py vx vy : Int) : Prop where
  r : 4096 ≤ r ∧ r ≤ 4194304
  ax : -4194304 ≤ ax ∧ ax ≤ 4194304
  ay : -4194304 ≤ ay ∧ ay ≤ 4194304
  m : 0 ≤ m ∧ m ≤ 1048576
  b : 0 ≤ b ∧ b ≤ 65536
  px : -1073741824 ≤ px ∧ px ≤ 1073741824
  py : -1073741824 ≤ py ∧ py ≤ 1073741824
  vx : -16777216 ≤ vx ∧ vx ≤ 16777216
  vy : -16777216 ≤ vy ∧ vy ≤ 16777216
theorem Check_cases (k : Nat) (key r ax ay m b px py vx vy : Int) : (billiardref05_Check.f (k + 5) key r ax ay m b px py vx vy = some 0 ∧ Valid key r ax ay m b px py vx vy) ∨ (∃ e, e ≠ 0 ∧ billiardref05_Check.f (k + 5) key r ax ay m b px py vx vy = some e) := by
  have i1 := billiardref05_In.is ax 4194304 (by omega)
  have i2 := billiardref05_In.is ay 4194304 (by omega)
  have i3 := billiardref05_In.is px 1073741824 (by omega)
  have i4 := billiardref05_In.is py 1073741824 (by omega)
  have i5 := billiardref05_In.is vx 16777216 (by omega)
  have i6 := billiardref05_In.is vy 16777216 (by omega)
  have e : billiardref05_Check.f (k + 5) key r ax ay m b px py vx vy = billiardref05_Check.j0 (k + 5) (!decide (4096 ≤ r ∧ r ≤ 4194304)) key r ax ay m b px py vx vy := by
    unfold billiardref05_Check.f
    by_cases c : r < 4096
    · rw [if_pos c, decide_eq_false (by omega)]; rfl
    · rw [if_neg c]
      by_cases d : r > 4194304
      · rw [decide_eq_true d, decide_eq_false (by omega)]; rfl
      · rw [decide_eq_false d, decide_eq_true (by omega)]; rfl
  rw [e]
  by_cases c1 : 4096 ≤ r ∧ r ≤ 4194304
  rotate_left
  · rw [decide_eq_false c1]; exact Or.inr ⟨4, by decide, rfl⟩
  rw [decide_eq_true c1]
  have e2 : billiardref05_Check.j0 (k + 5) (!true) key r ax ay m b px py vx vy = billiardref05_Check.j1 (k + 4) (!decide ((-4194304 ≤ ax ∧ ax ≤ 4194304) ∧ (-4194304 ≤ ay ∧ ay ≤ 4194304))) key r ax ay m b px py vx vy := by
    simp only [billiardref05_Check.j0]
    rw [i1, i2]
    by_cases c : -4194304 ≤ ax ∧ ax ≤ 4194304
    · rw [decide_eq_true c]
      by_cases d : -4194304 ≤ ay ∧ ay ≤ 4194304
      · rw [decide_eq_true d, decide_eq_true ⟨c, d⟩]; rfl
      · rw [decide_eq_false d, show decide ((-4194304 ≤ ax ∧ ax ≤ 4194304) ∧ (-4194304 ≤ ay ∧ ay ≤ 4194304)) = false from decide_eq_false (fun h => d h.2)]; rfl
    · rw [decide_eq_false c, show decide ((-4194304 ≤ ax ∧ ax ≤ 4194304) ∧ (-4194304 ≤ ay ∧ ay ≤ 4194304)) = false from decide_eq_false (fun h => c h.1)]; rfl
  rw [e2]
  by_cases c2 : (-4194304 ≤ ax ∧ ax ≤ 4194304) ∧ (-4194304 ≤ ay ∧ ay ≤ 4194304)
  rotate_left
  · rw [decide_eq_false c2]; exact Or.inr ⟨5, by decide, rfl⟩
  rw [decide_eq_true c2]
  have e3 : billiardref05_Check.j1 (k + 4) (!true) key r ax ay m b px py vx vy = billiardref05_Check.j2 (k + 3) (!decide (0 ≤ m ∧ m ≤ 1048576)) key r ax ay m b px py vx vy := by
    simp only [billiardref05_Check.j1]
    rw [if_neg (by decide)]
    by_cases c : m < 0
    · rw [if_pos c, decide_eq_false (by omega)]; rfl
    · rw [if_neg c]
      by_cases d : m > 1048576
      · rw [decide_eq_true d, decide_eq_false (by omega)]; rfl
      · rw [decide_eq_false d, decide_eq_true (by omega)]; rfl
  rw [e3]
  by_cases c3 : 0 ≤ m ∧ m ≤ 1048576
  rotate_left
  · rw [decide_eq_false c3]; exact Or.inr ⟨6, by decide, rfl⟩
  rw [decide_eq_true c3]
  have e4 : billiardref05_Check.j2 (k + 3) (!true) key r ax ay m b px py vx vy = billiardref05_Check.j3 (k + 2) (!decide (0 ≤ b ∧ b ≤ 65536)) key r ax ay m b px py vx vy := by
    simp only [billiardref05_Check.j2]
    rw [if_neg (by decide)]
    by_cases c : b < 0
    · rw [if_pos c, decide_eq_false (by omega)]; rfl
    · rw [if_neg c]
      by_cases d : b > 65536
      · rw [decide_eq_true d, decide_eq_false (by omega)]; rfl
      · rw [decide_eq_false d, decide_eq_true (by omega)]; rfl
  rw [e4]
  by_cases c4 : 0 ≤ b ∧ b ≤ 65536
  rotate_left
  · rw [decide_eq_false c4]; exact Or.inr ⟨7, by decide, rfl⟩
  rw [decide_eq_true c4]
  have e5 : billiardref05_Check.j3 (k + 2) (!true) key r ax ay m b px py vx vy = billiardref05_Check.j4 (k + 1) (!decide ((-1073741824 ≤ px ∧ px ≤ 1073741824) ∧ (-1073741824 ≤ py ∧ py ≤ 1073741824))) key r ax ay m b px py vx vy := by
    simp only [billiardref05_Check.j3]
    rw [i3, i4]
    by_cases c : -1073741824 ≤ px ∧ px ≤ 1073741824
    · rw [decide_eq_true c]
      by_cases d : -1073741824 ≤ py ∧ py ≤ 1073741824
      · rw [decide_eq_true d, decide_eq_true ⟨c, d⟩]; rfl
      · rw [decide_eq_false d, show decide ((-1073741824 ≤ px ∧ px ≤ 1073741824) ∧ (-1073741824 ≤ py ∧ py ≤ 1073741824)) = false from decide_eq_false (fun h => d h.2)]; rfl
    · rw [decide_eq_false c, show decide ((-1073741824 ≤ px ∧ px ≤ 1073741824) ∧ (-1073741824 ≤ py ∧ py ≤ 1073741824)) = false from decide_eq_false (fun h => c h.1)]; rfl
  rw [e5]
  by_cases c5 : (-1073741824 ≤ px ∧ px ≤ 1073741824) ∧ (-1073741824 ≤ py ∧ py ≤ 1073741824)
  rotate_left
  · rw [decide_eq_false c5]; exact Or.inr ⟨8, by decide, rfl⟩
  rw [decide_eq_true c5]
  simp only [billiardref05_Check.j4]
  rw [i5, i6]
  by_cases c6 : -16777216 ≤ vx ∧ vx ≤ 16777216
  · rw [decide_eq_true c6]
    by_cases c7 : -16777216 ≤ vy ∧ vy ≤ 16777216
    · rw [decide_eq_true c7]
      exact Or.inl ⟨rfl, c1, c2.1, c2.2, c3, c4, c5.1, c5.2, c6, c7⟩
    · rw [decide_eq_false c7]; exact Or.inr ⟨9, by decide, rfl⟩
  · rw [decide_eq_false c6]; exact Or.inr ⟨9, by decide, rfl⟩
end Go.Proofs.Ytabcnaceffpekaa.Q

namespace Go.Proofs.Ytabcnaceffpekaa.Q
open Go.RowKit Go.Proofs.YtabcnaceffpekaaW.PrintWords Go.Proofs.YtabcnaceffpekaaW.PrintLast Go.Proofs.YtabcnaceffpekaaW.PrintMore
set_option linter.unusedVariables false
abbrev Bd := S32
theorem step_ix {i n : Nat} (h : i < n) (hn : n ≤ 1000000) : wrap64 ((i : Int) + 1) = ((i + 1 : Nat) : Int) := by unfold wrap64; omega
theorem rdB {v : List Bd} {i : Nat} (h : i < v.length) : rd_T32 v (i : Int) = v[i] := by
  unfold rd_T32
  simp [List.getD, h]
def VB (x : Bd) : Prop := Valid x.f0 x.f1 x.f2.f0 x.f2.f1 x.f3 x.f4 x.f5.f0 x.f5.f1 x.f6.f0 x.f6.f1
abbrev chk (k : Nat) (x : Bd) : Option Int := billiardref05_Check.f k x.f0 x.f1 x.f2.f0 x.f2.f1 x.f3 x.f4 x.f5.f0 x.f5.f1 x.f6.f0 x.f6.f1
theorem chk_up (x : Bd) (r : Int) (h : chk 5 x = some r) : ∀ k, chk (k + 5) x = some r
  | 0 => h
  | k + 1 => billiardref05_Check.mono _ _ _ _ _ _ _ _ _ _ (k + 5) r (chk_up x r h k)
/-- The error of a body. -/
def why (x : Bd) : Int := (chk 5 x).getD 0
theorem chk_is (x : Bd) {k : Nat} (hk : 5 ≤ k) : chk k x = some (why x) ∧ (why x = 0 → VB x) := by
  have h5 : chk 5 x = some (why x) := by
    rcases Check_cases 0 x.f0 x.f1 x.f2.f0 x.f2.f1 x.f3 x.f4 x.f5.f0 x.f5.f1 x.f6.f0 x.f6.f1 with ⟨h, _⟩ | ⟨e, _, h⟩ <;> (unfold why; rw [show chk 5 x = _ from h]; rfl)
  refine ⟨by have := chk_up x _ h5 (k - 5); rwa [Nat.sub_add_cancel hk] at this, fun h0 => ?_⟩
  rcases Check_cases 0 x.f0 x.f1 x.f2.f0 x.f2.f1 x.f3 x.f4 x.f5.f0 x.f5.f1 x.f6.f0 x.f6.f1 with ⟨_, h⟩ | ⟨e, he, h⟩
  · exact h
  · rw [show chk 5 x = _ from h] at h5
    simp only [Option.some.injEq] at h5
    exact absurd (h5.trans h0) he
/-- The index of a key, or -1. -/
def ixOf : List Bd → Int → Nat → Int
  | [], _, _ => -1
  | b :: l, key, n => if b.f0 = key then (n : Int) else ixOf l key (n + 1)
theorem find_l0 (v : List Bd) (key : Int) (hv : v.length ≤ 1000000) : ∀ (d k i : Nat), v.length - i = d → i ≤ v.length → d < k → billiardref06_Find.l0 k v key (i : Int) = some (ixOf (v.drop i) key i) := fun d => by
  induction d with
  | zero =>
    intro k i hd hi hk
    obtain ⟨k, rfl⟩ : ∃ j, k = j + 1 := ⟨k - 1, by omega⟩
    rw [billiardref06_Find.l0, if_neg (by omega), List.drop_eq_nil_of_le (by omega)]
    rfl
  | succ d ih =>
    intro k i hd hi hk
    obtain ⟨k, rfl⟩ : ∃ j, k = j + 1 := ⟨k - 1, by omega⟩
    have hlt : i < v.length := by omega
    rw [billiardref06_Find.l0, if_pos (by omega), if_pos (by omega), rdB hlt, List.drop_eq_getElem_cons hlt, ixOf]
    by_cases c : v[i].f0 = key
    · rw [if_pos c, if_pos c]
    · rw [if_neg c, if_neg c, step_ix hlt hv]
      exact ih k (i + 1) (by omega) (by omega) (by omega)
theorem find_is (v : List Bd) (key : Int) (hv : v.length ≤ 1000000) {k : Nat} (hk : v.length < k) : billiardref06_Find.f k v key = some (ixOf v key 0) := by
  have := find_l0 v key hv v.length k 0 (by omega) (by omega) (by omega)
  exact this
theorem ixOf_none : ∀ (v : List Bd) (key : Int) (n : Nat), ixOf v key n < 0 → ∀ x ∈ v, x.f0 ≠ key
  | [], _, _, _, x, hx => by simp at hx
  | b :: l, key, n, h, x, hx => by
    unfold ixOf at h
    split at h
    · omega
    · rename_i hb
      rcases List.mem_cons.mp hx with rfl | hx
      · exact hb
      · exact ixOf_none l key (n + 1) h x hx
theorem ixOf_some : ∀ (v : List Bd) (key : Int) (n : Nat), 0 ≤ ixOf v key n → ∃ i, ∃ h : i < v.length, ixOf v key n = ((n + i : Nat) : Int) ∧ v[i].f0 = key
  | [], _, _, h => by simp [ixOf] at h
  | b :: l, key, n, h => by
    unfold ixOf at h ⊢
    split at h
    · rename_i hb
      exact ⟨0, by simp, by simp [hb], hb⟩
    · rename_i hb
      obtain ⟨i, hi, e, hk⟩ := ixOf_some l key (n + 1) h
      exact ⟨i + 1, by simpa using hi, by rw [if_neg hb, e]; omega, by simpa using hk⟩
/-- The keys rise. -/
def Rise (v : List Bd) : Prop := v.Pairwise (fun x y => x.f0 < y.f0)
/-- A body put among others. -/
def ins (b : Bd) : List Bd → List Bd
  | [] => [b]
  | x :: l => if x.f0 ≥ b.f0 then b :: x :: l else x :: ins b l
theorem ins_len (b : Bd) : ∀ l, (ins b l).length = l.length + 1
  | [] => rfl
  | x :: l => by
    unfold ins
    split
    · rfl
    · simp [ins_len b l]
theorem ins_mem (b : Bd) : ∀ l y, y ∈ ins b l → y = b ∨ y ∈ l
  | [], y, h => by simpa [ins] using h
  | x :: l, y, h => by
    unfold ins at h
    split at h
    · simpa using h
    · rcases List.mem_cons.mp h with rfl | h
      · exact Or.inr (by simp)
      · rcases ins_mem b l y h with h | h
        · exact Or.inl h
        · exact Or.inr (List.mem_cons_of_mem _ h)
theorem ins_rise (b : Bd) : ∀ l, Rise l → (∀ x ∈ l, x.f0 ≠ b.f0) → Rise (ins b l)
  | [], _, _ => by simp [ins, Rise]
  | x :: l, hr, hn => by
    have hx := hn x (by simp)
    obtain ⟨h1, h2⟩ := List.pairwise_cons.mp hr
    unfold ins
    split
    · refine List.pairwise_cons.mpr ⟨fun y hy => ?_, hr⟩
      rcases List.mem_cons.mp hy with rfl | hy
      · omega
      · have := h1 y hy
        omega
    · refine List.pairwise_cons.mpr ⟨fun y hy => ?_, ins_rise b l h2 (fun y hy => hn y (List.mem_cons_of_mem _ hy))⟩
      rcases ins_mem b l y hy with rfl | hy
      · omega
      · exact h1 y hy
abbrev putL (k : Nat) (v acc : List Bd) (d : Bool) (i : Int) (b : Bd) := billiardref06_Put.l0 k v acc d i b.f0 b.f1 b.f2.f0 b.f2.f1 b.f3 b.f4 b.f5.f0 b.f5.f1 b.f6.f0 b.f6.f1
theorem put_rest (v : List Bd) (b : Bd) (hv : v.length ≤ 1000000) (hn : ∀ x ∈ v, x.f0 ≠ b.f0) : ∀ (d k i : Nat) (acc : List Bd), v.length - i = d → i ≤ v.length → 2 * d < k → acc.length + d ≤ 2000000 → putL k v acc true (i : Int) b = some (acc ++ v.drop i) := fun d => by
  induction d with
  | zero =>
    intro k i acc hd hi hk ha
    obtain ⟨k, rfl⟩ : ∃ j, k = j + 1 := ⟨k - 1, by omega⟩
    rw [putL, billiardref06_Put.l0, if_neg (by omega), List.drop_eq_nil_of_le (by omega), if_pos rfl, List.append_nil]
  | succ d ih =>
    intro k i acc hd hi hk ha
    obtain ⟨k, rfl⟩ : ∃ j, k = j + 1 + 1 := ⟨k - 2, by omega⟩
    have hlt : i < v.length := by omega
    rw [putL, billiardref06_Put.l0, if_pos (by omega), if_pos rfl, billiardref06_Put.j1, if_neg (by decide), if_pos (by omega), if_pos (by omega), rdB hlt, if_neg (hn _ (List.getElem_mem hlt)), if_pos (by omega), step_ix hlt hv]
    have := ih k (i + 1) (acc ++ [v[i]]) (by omega) (by omega) (by omega) (by simp; omega)
    rw [List.drop_eq_getElem_cons hlt, show acc ++ v[i] :: v.drop (i + 1) = acc ++ [v[i]] ++ v.drop (i + 1) by simp]
    exact this
theorem put_l0 (v : List Bd) (b : Bd) (hv : v.length ≤ 1000000) (hn : ∀ x ∈ v, x.f0 ≠ b.f0) : ∀ (d k i : Nat) (acc : List Bd), v.length - i = d → i ≤ v.length → 2 * d < k → acc.length + d ≤ 1000000 → putL k v acc false (i : Int) b = some (acc ++ ins b (v.drop i)) := fun d => by
  induction d with
  | zero =>
    intro k i acc hd hi hk ha
    obtain ⟨k, rfl⟩ : ∃ j, k = j + 1 := ⟨k - 1, by omega⟩
    rw [putL, billiardref06_Put.l0, if_neg (by omega), List.drop_eq_nil_of_le (by omega), if_neg (by decide), if_pos (by omega)]
    rfl
  | succ d ih =>
    intro k i acc hd hi hk ha
    obtain ⟨k, rfl⟩ : ∃ j, k = j + 1 + 1 := ⟨k - 2, by omega⟩
    have hlt : i < v.length := by omega
    rw [putL, billiardref06_Put.l0, if_pos (by omega), if_neg (by decide), if_pos (by omega), rdB hlt, List.drop_eq_getElem_cons hlt, ins, billiardref06_Put.j1]
    by_cases c : v[i].f0 ≥ b.f0
    · rw [decide_eq_true c, if_pos rfl, if_pos (by omega), if_pos c]
      simp only [Option.bind_some]
      rw [if_pos (by omega), if_pos (by omega), rdB hlt, if_neg (hn _ (List.getElem_mem hlt)), if_pos (by simp; omega), step_ix hlt hv]
      have := put_rest v b hv hn d k (i + 1) (acc ++ [b] ++ [v[i]]) (by omega) (by omega) (by omega) (by simp; omega)
      rw [show acc ++ b :: v[i] :: v.drop (i + 1) = acc ++ [b] ++ [v[i]] ++ v.drop (i + 1) by simp]
      exact this
    · rw [decide_eq_false c, if_neg (by decide), if_neg c, if_pos (by omega), if_pos (by omega), rdB hlt, if_neg (hn _ (List.getElem_mem hlt)), if_pos (by omega), step_ix hlt hv]
      have := ih k (i + 1) (acc ++ [v[i]]) (by omega) (by omega) (by omega) (by simp; omega)
      rw [show acc ++ v[i] :: ins b (v.drop (i + 1)) = acc ++ [v[i]] ++ ins b (v.drop (i + 1)) by simp]
      exact this
/-- What stands in a view. -/
structure Vw (n : Nat) (v : List Bd) : Prop where
  rise : Rise v
  good : ∀ x ∈ v, VB x ∧ Flat.WFB x
  len : v.length ≤ n
theorem add_is (b : Bd) (hb : Flat.WFB b) (n : Nat) (hn : n ≤ 100) (v : List Bd) (hv : Vw n v) : ∃ v' e, Vw (n + 1) v' ∧ ∀ k, 300 ≤ k → billiardref06_Add.f k v b.f0 b.f1 b.f2.f0 b.f2.f1 b.f3 b.f4 b.f5.f0 b.f5.f1 b.f6.f0 b.f6.f1 = some (v', e) := by
  have hl := hv.len
  by_cases h0 : why b = 0
  rotate_left
  · refine ⟨v, why b, ⟨hv.rise, hv.good, by omega⟩, fun k hk => ?_⟩
    unfold billiardref06_Add.f
    rw [show billiardref05_Check.f k b.f0 b.f1 b.f2.f0 b.f2.f1 b.f3 b.f4 b.f5.f0 b.f5.f1 b.f6.f0 b.f6.f1 = _ from (chk_is b (k := k) (by omega)).1]
    simp only [Option.bind_some]
    rw [if_neg h0]
  by_cases hf : ixOf v b.f0 0 ≥ 0
  · refine ⟨v, 10, ⟨hv.rise, hv.good, by omega⟩, fun k hk => ?_⟩
    unfold billiardref06_Add.f
    rw [show billiardref05_Check.f k b.f0 b.f1 b.f2.f0 b.f2.f1 b.f3 b.f4 b.f5.f0 b.f5.f1 b.f6.f0 b.f6.f1 = _ from (chk_is b (k := k) (by omega)).1]
    simp only [Option.bind_some]
    rw [if_pos h0, find_is v b.f0 (by omega) (by omega)]
    simp only [Option.bind_some]
    rw [if_pos hf]
  · have hnk := ixOf_none v b.f0 0 (by omega)
    refine ⟨ins b v, 0, ⟨ins_rise b v hv.rise hnk, fun x hx => ?_, by rw [ins_len]; omega⟩, fun k hk => ?_⟩
    · rcases ins_mem b v x hx with rfl | hx
      · exact ⟨(chk_is x (Nat.le_refl 5)).2 h0, hb⟩
      · exact hv.good x hx
    · unfold billiardref06_Add.f
      rw [show billiardref05_Check.f k b.f0 b.f1 b.f2.f0 b.f2.f1 b.f3 b.f4 b.f5.f0 b.f5.f1 b.f6.f0 b.f6.f1 = _ from (chk_is b (k := k) (by omega)).1]
      simp only [Option.bind_some]
      rw [if_pos h0, find_is v b.f0 (by omega) (by omega)]
      simp only [Option.bind_some]
      rw [if_neg hf, if_neg (by omega)]
      have := put_l0 v b (by omega) hnk v.length k 0 [] (by omega) (by omega) (by omega) (by simp; omega)
      unfold billiardref06_Put.f
      rw [show billiardref06_Put.l0 k v [] false 0 b.f0 b.f1 b.f2.f0 b.f2.f1 b.f3 b.f4 b.f5.f0 b.f5.f1 b.f6.f0 b.f6.f1 = _ from this]
      rfl
theorem all_l0 (l : List Bd) (hw : ∀ x ∈ l, Flat.WFB x) (hl : l.length ≤ 40) : ∀ (d i : Nat) (v : List Bd), l.length - i = d → i ≤ l.length → Vw i v → ∃ v', Vw l.length v' ∧ ∀ k, 301 + d ≤ k → billiardref06_All.l0 k l v (i : Int) = some v' := fun d => by
  induction d with
  | zero =>
    intro i v hd hi hv
    refine ⟨v, ⟨hv.rise, hv.good, by have := hv.len; omega⟩, fun k hk => ?_⟩
    obtain ⟨k, rfl⟩ : ∃ j, k = j + 1 := ⟨k - 1, by omega⟩
    rw [billiardref06_All.l0, if_neg (by omega)]
  | succ d ih =>
    intro i v hd hi hv
    have hlt : i < l.length := by omega
    obtain ⟨v1, e, hv1, ha⟩ := add_is l[i] (hw _ (List.getElem_mem hlt)) i (by omega) v hv
    obtain ⟨v2, hv2, hb⟩ := ih (i + 1) v1 (by omega) (by omega) hv1
    refine ⟨v2, hv2, fun k hk => ?_⟩
    obtain ⟨k, rfl⟩ : ∃ j, k = j + 1 := ⟨k - 1, by omega⟩
    rw [billiardref06_All.l0, if_pos (by omega), if_pos (by omega), rdB hlt, ha k (by omega)]
    simp only [Option.bind_some]
    rw [step_ix hlt (by omega)]
    exact hb k (by omega)
theorem each_l0 (l : List Bd) (hl : l.length ≤ 40) : ∀ (d i : Nat), l.length - i = d → i ≤ l.length → ∃ e, ∀ k, 7 + d ≤ k → billiardref07_each.l0 k l (i : Int) = some e := fun d => by
  induction d with
  | zero =>
    intro i hd hi
    refine ⟨0, fun k hk => ?_⟩
    obtain ⟨k, rfl⟩ : ∃ j, k = j + 1 := ⟨k - 1, by omega⟩
    rw [billiardref07_each.l0, if_neg (by omega)]
  | succ d ih =>
    intro i hd hi
    have hlt : i < l.length := by omega
    obtain ⟨e, he⟩ := ih (i + 1) (by omega) (by omega)
    by_cases h0 : why l[i] = 0
    · refine ⟨e, fun k hk => ?_⟩
      obtain ⟨k, rfl⟩ : ∃ j, k = j + 1 := ⟨k - 1, by omega⟩
      rw [billiardref07_each.l0, if_pos (by omega), if_pos (by omega), rdB hlt, show billiardref05_Check.f k l[i].f0 l[i].f1 l[i].f2.f0 l[i].f2.f1 l[i].f3 l[i].f4 l[i].f5.f0 l[i].f5.f1 l[i].f6.f0 l[i].f6.f1 = _ from (chk_is l[i] (k := k) (by omega)).1]
      simp only [Option.bind_some]
      rw [if_pos h0, step_ix hlt (by omega)]
      exact he k (by omega)
    · refine ⟨why l[i], fun k hk => ?_⟩
      obtain ⟨k, rfl⟩ : ∃ j, k = j + 1 := ⟨k - 1, by omega⟩
      rw [billiardref07_each.l0, if_pos (by omega), if_pos (by omega), rdB hlt, show billiardref05_Check.f k l[i].f0 l[i].f1 l[i].f2.f0 l[i].f2.f1 l[i].f3 l[i].f4 l[i].f5.f0 l[i].f5.f1 l[i].f6.f0 l[i].f6.f1 = _ from (chk_is l[i] (k := k) (by omega)).1]
      simp only [Option.bind_some]
      rw [if_neg h0]
theorem view_is (l : List Bd) (hw : ∀ x ∈ l, Flat.WFB x) : ∃ v ok, (∀ k, 400 ≤ k → billiardref11_View.f k l = some (v, ok)) ∧ Vw 40 v := by
  have hnil : Vw 40 [] := ⟨List.Pairwise.nil, fun x hx => by simp at hx, by simp⟩
  by_cases h40 : (l.length : Int) > 40
  · exact ⟨[], false, fun k hk => by unfold billiardref11_View.f; rw [if_pos h40], hnil⟩
  have hl : l.length ≤ 40 := by omega
  obtain ⟨e, he⟩ := each_l0 l hl l.length 0 (by omega) (by omega)
  obtain ⟨v, hv, ha⟩ := all_l0 l hw hl l.length 0 [] (by omega) (by omega) ⟨List.Pairwise.nil, fun x hx => by simp at hx, by simp⟩
  have hv40 : Vw 40 v := ⟨hv.rise, hv.good, by have := hv.len; omega⟩
  have hs : ∀ k, 400 ≤ k → billiardref07_Sort.f k l = some (if e = 0 then (if (v.length : Int) < (l.length : Int) then ([], 10) else (v, 0)) else ([], e)) := fun k hk => by
    unfold billiardref07_Sort.f billiardref07_each.f
    rw [if_neg (by omega), show billiardref07_each.l0 k l 0 = _ from he k (by omega)]
    simp only [Option.bind_some]
    unfold billiardref06_All.f
    rw [show billiardref06_All.l0 k l [] 0 = _ from ha k (by omega)]
    simp only [Option.bind_some]
    split
    · split <;> rfl
    · rfl
  have hV : ∀ k, 400 ≤ k → billiardref11_View.f k l = some ((if e = 0 then (if (v.length : Int) < (l.length : Int) then (([] : List Bd), (10 : Int)) else (v, 0)) else ([], e)).1, ((if e = 0 then (if (v.length : Int) < (l.length : Int) then (([] : List Bd), (10 : Int)) else (v, 0)) else ([], e)).2 == 0)) := fun k hk => by
    unfold billiardref11_View.f
    rw [if_neg h40, hs k hk]
    rfl
  refine ⟨_, _, hV, ?_⟩
  split
  · split
    · exact hnil
    · exact hv40
  · exact hnil
/-- Where a key of a view is found by halving. -/
theorem rise_lt {v : List Bd} (h : Rise v) {i j : Nat} (hi : i < v.length) (hj : j < v.length) (hij : i < j) : v[i].f0 < v[j].f0 := List.pairwise_iff_getElem.mp h i j hi hj hij
theorem rise_inj {v : List Bd} (h : Rise v) {i j : Nat} (hi : i < v.length) (hj : j < v.length) (e : v[i].f0 = v[j].f0) : i = j := by
  rcases Nat.lt_trichotomy i j with c | c | c
  · have := rise_lt h hi hj c; omega
  · exact c
  · have := rise_lt h hj hi c; omega
theorem ixOf_at {v : List Bd} (h : Rise v) {key : Int} {i : Nat} (hi : i < v.length) (hk : v[i].f0 = key) : ixOf v key 0 = (i : Int) := by
  by_cases c : 0 ≤ ixOf v key 0
  · obtain ⟨j, hj, e, ej⟩ := ixOf_some v key 0 c
    rw [e, rise_inj h hi hj (hk.trans ej.symm)]
    omega
  · exact absurd hk (ixOf_none v key 0 (by omega) _ (List.getElem_mem hi))
end Go.Proofs.Ytabcnaceffpekaa.Q

namespace Go.Proofs.Ytabcnaceffpekaa.Q
open Go.RowKit Go.Proofs.YtabcnaceffpekaaW.PrintWords Go.Proofs.YtabcnaceffpekaaW.PrintLast Go.Proofs.YtabcnaceffpekaaW.PrintMore
set_option linter.unusedVariables false
def InB (a : Int) : Prop := -1082130432 ≤ a ∧ a ≤ 1082130432
def RightP (p0 p1 q0 q1 c0 c1 : Int) : Prop := InB p0 ∧ InB p1 ∧ InB q0 ∧ InB q1 ∧ InB c0 ∧ InB c1 ∧ (-16777216 ≤ q0 - p0 ∧ q0 - p0 ≤ 16777216) ∧ (-16777216 ≤ q1 - p1 ∧ q1 - p1 ≤ 16777216)
theorem In_cases (a0 a1 : Int) : (billiardref12_In.f a0 a1 = some true ∧ InB a0 ∧ InB a1) ∨ billiardref12_In.f a0 a1 = some false := by
  unfold billiardref12_In.f InB
  by_cases h1 : a0 ≥ -1082130432
  · rw [if_pos h1]
    by_cases h2 : a0 ≤ 1082130432
    · rw [if_pos h2]
      by_cases h3 : a1 ≥ -1082130432
      · rw [if_pos h3]
        by_cases h4 : a1 ≤ 1082130432
        · exact Or.inl ⟨by rw [decide_eq_true h4], ⟨h1, h2⟩, ⟨h3, h4⟩⟩
        · exact Or.inr (by rw [decide_eq_false h4])
      · exact Or.inr (by rw [if_neg h3])
    · exact Or.inr (by rw [if_neg h2])
  · exact Or.inr (by rw [if_neg h1])
theorem wdiff {a b : Int} (ha : InB a) (hb : InB b) : wrap64 (wrap64 a - wrap64 b) = a - b := by
  unfold InB at *
  rw [w64_id (n := a) (by omega) (by omega), w64_id (n := b) (by omega) (by omega), w64_id (by omega) (by omega)]
theorem mul_bd {x y A B : Int} (hx : -A ≤ x ∧ x ≤ A) (hy : -B ≤ y ∧ y ≤ B) : -(A * B) ≤ x * y ∧ x * y ≤ A * B := by
  have hA : mg x ≤ A := by unfold mg; split <;> omega
  have hB : mg y ≤ B := by unfold mg; split <;> omega
  have h0 : 0 ≤ mg x := by unfold mg; split <;> omega
  have h1 : 0 ≤ mg y := by unfold mg; split <;> omega
  have hm := Int.mul_le_mul hA hB h1 (by omega)
  have e : x * y = mg x * mg y ∨ x * y = -(mg x * mg y) := by
    by_cases ca : x < 0 <;> by_cases cb : y < 0 <;> simp [mg, ca, cb, Int.neg_mul, Int.mul_neg]
  have hn := Int.mul_nonneg h0 h1
  omega
def dS (dx dy : Int) : Int := dx * dx + dy * dy
def parN (dx dy cx cy : Int) : Int := mx 0 (mn (cx * dx + cy * dy) (dS dx dy))
theorem dS_nn (dx dy : Int) : 0 ≤ dS dx dy := by
  have h : ∀ x : Int, 0 ≤ x * x := fun x => by
    rcases Int.le_total 0 x with h | h
    · exact Int.mul_nonneg h h
    · rw [← Int.neg_mul_neg]; exact Int.mul_nonneg (by omega) (by omega)
  have := h dx
  have := h dy
  unfold dS
  omega
theorem parN_bd (dx dy cx cy : Int) : 0 ≤ parN dx dy cx cy ∧ parN dx dy cx cy ≤ dS dx dy := by
  have := dS_nn dx dy
  unfold parN mx mn
  omega
theorem point_Param.is {p0 p1 q0 q1 c0 c1 : Int} (h : RightP p0 p1 q0 q1 c0 c1) : point_Param.f p0 p1 q0 q1 c0 c1 = some (parN (q0 - p0) (q1 - p1) (c0 - p0) (c1 - p1), dS (q0 - p0) (q1 - p1)) ∧ dS (q0 - p0) (q1 - p1) ≤ 562949953421312 := by
  obtain ⟨a1, a2, b1, b2, d1, d2, hx, hy⟩ := h
  have e1 := mul_bd (A := 16777216) (B := 16777216) hx hx
  have e2 := mul_bd (A := 16777216) (B := 16777216) hy hy
  have e3 := mul_bd (A := 2164260864) (B := 16777216) (x := c0 - p0) (by unfold InB at *; omega) hx
  have e4 := mul_bd (A := 2164260864) (B := 16777216) (x := c1 - p1) (by unfold InB at *; omega) hy
  unfold point_Param.f vec_Diff.f
  simp only [Option.bind_some]
  rw [wdiff b1 a1, wdiff b2 a2, wdiff d1 a1, wdiff d2 a2]
  rw [w64_id (n := (c0 - p0) * (q0 - p0)) (by omega) (by omega), w64_id (n := (c1 - p1) * (q1 - p1)) (by omega) (by omega), w64_id (n := (q0 - p0) * (q0 - p0)) (by omega) (by omega), w64_id (n := (q1 - p1) * (q1 - p1)) (by omega) (by omega), w64_id (n := (c0 - p0) * (q0 - p0) + (c1 - p1) * (q1 - p1)) (by omega) (by omega), w64_id (n := (q0 - p0) * (q0 - p0) + (q1 - p1) * (q1 - p1)) (by omega) (by omega)]
  exact ⟨rfl, by unfold dS; omega⟩
theorem part_bd {x n d : Int} (hd : 0 < d) (h0 : 0 ≤ n) (h1 : n ≤ d) : (0 ≤ x → 0 ≤ x * n / d ∧ x * n / d ≤ x) ∧ (x ≤ 0 → x ≤ x * n / d ∧ x * n / d ≤ 0) := by
  constructor
  · intro hx
    refine ⟨Int.ediv_nonneg (Int.mul_nonneg hx h0) (by omega), ?_⟩
    exact Int.ediv_le_of_le_mul hd (Int.mul_le_mul_of_nonneg_left h1 hx)
  · intro hx
    refine ⟨Int.le_ediv_of_mul_le hd (Int.mul_le_mul_of_nonpos_left hx h1), ?_⟩
    have : x * n ≤ 0 := Int.mul_nonpos_of_nonpos_of_nonneg hx h0
    exact Int.ediv_le_of_le_mul hd (by omega)
/-- The coordinate of the nearest point. -/
def ptS (p x n d : Int) : Int := p + x * n / d
theorem point_Nearest.is {p0 p1 q0 q1 c0 c1 : Int} (h : RightP p0 p1 q0 q1 c0 c1) :
    point_Nearest.f p0 p1 q0 q1 c0 c1 = some (ptS p0 (q0 - p0) (parN (q0 - p0) (q1 - p1) (c0 - p0) (c1 - p1)) (dS (q0 - p0) (q1 - p1)), ptS p1 (q1 - p1) (parN (q0 - p0) (q1 - p1) (c0 - p0) (c1 - p1)) (dS (q0 - p0) (q1 - p1))) := by
  obtain ⟨hp, hd⟩ := point_Param.is h
  have hn := parN_bd (q0 - p0) (q1 - p1) (c0 - p0) (c1 - p1)
  have hd0 := dS_nn (q0 - p0) (q1 - p1)
  unfold point_Nearest.f
  rw [hp]
  obtain ⟨a1, a2, b1, b2, d1, d2, hx, hy⟩ := h
  unfold InB at *
  generalize parN (q0 - p0) (q1 - p1) (c0 - p0) (c1 - p1) = n at *
  generalize dS (q0 - p0) (q1 - p1) = d at *
  simp only [Option.bind_some]
  rw [if_pos ⟨i32B_iff.mpr (by omega), i32B_iff.mpr (by omega), i32B_iff.mpr (by omega), i32B_iff.mpr (by omega)⟩]
  by_cases c : d = 0
  · subst c
    rw [if_pos rfl]
    simp [ptS]
  · rw [if_neg c, if_pos ⟨i64B_iff.mpr (by omega), i64B_iff.mpr (by omega)⟩]
    have key : ∀ f x : Int, (-1082130432 ≤ f ∧ f ≤ 1082130432) → (-16777216 ≤ x ∧ x ≤ 16777216) → partS f x n d = ptS f x n d := by
      intro f x hf hx
      obtain ⟨k1, k2⟩ := part_bd (x := x) (show 0 < d by omega) hn.1 hn.2
      have hb : -16777216 ≤ x * n / d ∧ x * n / d ≤ 16777216 := by
        rcases Int.le_total 0 x with g | g
        · have := k1 g; omega
        · have := k2 g; omega
      have e : mulDivS x n d = (x * n / d, 0) := by
        unfold mulDivS fl
        rw [if_neg c, if_pos (show 0 < d by omega), if_pos (i64B_iff.mpr (by omega))]
      unfold partS ptS
      rw [e]
      rw [w32_id (n := x * n / d) (by omega) (by omega), w32_id (by omega) (by omega)]
    rw [key p0 _ a1 hx, key p1 _ a2 hy]
theorem dS_zero {dx dy : Int} (h : dS dx dy = 0) : dx = 0 ∧ dy = 0 := by
  have hh : ∀ x : Int, 0 ≤ x * x := fun x => by
    rcases Int.le_total 0 x with h | h
    · exact Int.mul_nonneg h h
    · rw [← Int.neg_mul_neg]; exact Int.mul_nonneg (by omega) (by omega)
  have h1 := hh dx
  have h2 := hh dy
  unfold dS at h
  constructor
  · have : dx * dx = 0 := by omega
    rcases Int.mul_eq_zero.mp this with h | h <;> exact h
  · have : dy * dy = 0 := by omega
    rcases Int.mul_eq_zero.mp this with h | h <;> exact h
theorem ptS_zero (p x d : Int) : ptS p x 0 d = p := by simp [ptS]
theorem ptS_full {p q d : Int} (h : d = 0 → q - p = 0) : ptS p (q - p) d d = q := by
  unfold ptS
  by_cases c : d = 0
  · subst c
    have := h rfl
    simp
    omega
  · rw [Int.mul_ediv_cancel _ c]; omega
theorem ptS_turned {p q n d : Int} (h : d = 0 → q - p = 0) : ptS q (p - q) (d - n) d = ptS p (q - p) n d := by
  unfold ptS
  by_cases c : d = 0
  · subst c
    have := h rfl
    simp
    omega
  · have e : (p - q) * (d - n) = (q - p) * n + (p - q) * d := by grind
    rw [e, Int.add_mul_ediv_right _ _ c]
    omega
theorem dS_turned (p0 p1 q0 q1 : Int) : dS (p0 - q0) (p1 - q1) = dS (q0 - p0) (q1 - p1) := by unfold dS; grind
theorem parN_turned (p0 p1 q0 q1 c0 c1 : Int) : parN (p0 - q0) (p1 - q1) (c0 - q0) (c1 - q1) = dS (q0 - p0) (q1 - p1) - parN (q0 - p0) (q1 - p1) (c0 - p0) (c1 - p1) := by
  have e : (c0 - q0) * (p0 - q0) + (c1 - q1) * (p1 - q1) = dS (q0 - p0) (q1 - p1) - ((c0 - p0) * (q0 - p0) + (c1 - p1) * (q1 - p1)) := by unfold dS; grind
  have := dS_nn (q0 - p0) (q1 - p1)
  unfold parN
  rw [e, dS_turned p0 p1 q0 q1]
  generalize (c0 - p0) * (q0 - p0) + (c1 - p1) * (q1 - p1) = t
  generalize dS (q0 - p0) (q1 - p1) = d at *
  unfold mx mn
  omega
theorem RightP.turned {p0 p1 q0 q1 c0 c1 : Int} (h : RightP p0 p1 q0 q1 c0 c1) : RightP q0 q1 p0 p1 c0 c1 := by
  obtain ⟨a1, a2, b1, b2, d1, d2, hx, hy⟩ := h
  exact ⟨b1, b2, a1, a2, d1, d2, by omega, by omega⟩
theorem RightP.at {p0 p1 q0 q1 c0 c1 : Int} (h : RightP p0 p1 q0 q1 c0 c1) : RightP p0 p1 q0 q1 p0 p1 ∧ RightP p0 p1 q0 q1 q0 q1 := by
  obtain ⟨a1, a2, b1, b2, d1, d2, hx, hy⟩ := h
  exact ⟨⟨a1, a2, b1, b2, a1, a2, hx, hy⟩, ⟨a1, a2, b1, b2, b1, b2, hx, hy⟩⟩
theorem parN_first (dx dy : Int) : parN dx dy 0 0 = 0 := by
  have := dS_nn dx dy
  unfold parN mx mn
  rw [Int.zero_mul, Int.zero_mul]
  omega
theorem parN_last (dx dy : Int) : parN dx dy dx dy = dS dx dy := by
  have := dS_nn dx dy
  have e : dx * dx + dy * dy = dS dx dy := rfl
  unfold parN mx mn
  rw [e]
  omega
theorem nearest_first {p0 p1 q0 q1 c0 c1 : Int} (h : RightP p0 p1 q0 q1 c0 c1) : point_Nearest.f p0 p1 q0 q1 p0 p1 = some (p0, p1) := by
  rw [point_Nearest.is h.at.1, Int.sub_self, Int.sub_self, parN_first, ptS_zero, ptS_zero]
theorem nearest_last {p0 p1 q0 q1 c0 c1 : Int} (h : RightP p0 p1 q0 q1 c0 c1) : point_Nearest.f p0 p1 q0 q1 q0 q1 = some (q0, q1) := by
  rw [point_Nearest.is h.at.2, parN_last, ptS_full (fun e => (dS_zero e).1), ptS_full (fun e => (dS_zero e).2)]
theorem ptS_box {p q n d : Int} (hn : 0 ≤ n ∧ n ≤ d) : (p ≤ q → p ≤ ptS p (q - p) n d ∧ ptS p (q - p) n d ≤ q) ∧ (q ≤ p → q ≤ ptS p (q - p) n d ∧ ptS p (q - p) n d ≤ p) := by
  unfold ptS
  by_cases c : d = 0
  · subst c
    simp
  · obtain ⟨k1, k2⟩ := part_bd (x := q - p) (show 0 < d by omega) hn.1 hn.2
    constructor
    · intro h
      have := k1 (by omega)
      omega
    · intro h
      have := k2 (by omega)
      omega
end Go.Proofs.Ytabcnaceffpekaa.Q

namespace Go.Proofs.Ytabcnaceffpekaa.Q
open Go.RowKit Go.Proofs.YtabcnaceffpekaaW.PrintWords Go.Proofs.YtabcnaceffpekaaW.PrintLast Go.Proofs.YtabcnaceffpekaaW.PrintMore
set_option linter.unusedVariables false

/-- r is the integer square root of n. -/
def IsRt (n r : Int) : Prop := 0 ≤ r ∧ r ≤ 4294967295 ∧ r * r ≤ n ∧ n < (r + 1) * (r + 1)

theorem IsRt.le {n m r s : Int} (h : IsRt n r) (g : IsRt m s) (hnm : n ≤ m) : r ≤ s := by
  obtain ⟨h0, _, h1, h2⟩ := h
  obtain ⟨g0, _, g1, g2⟩ := g
  by_cases c : r ≤ s
  · exact c
  · have := sq_mono (a := s + 1) (b := r) (by omega) (by omega)
    omega

theorem IsRt.uniq {n r s : Int} (h : IsRt n r) (g : IsRt n s) : r = s := by
  have a := h.le g (Int.le_refl _)
  have b := g.le h (Int.le_refl _)
  omega

theorem root_pow : ∀ d : Fin 33, (1 : Int) ≤ 2 ^ d.val ∧ (2 : Int) ^ d.val ≤ 4294967296 := by decide +kernel
theorem root_bit : ∀ d : Fin 32, shr .u64 4611686018427387904 (wrap64 (2 * (31 - (d.val : Int)))) = 2 ^ d.val * 2 ^ d.val := by decide +kernel

theorem root_loop (n : Int) (hn0 : 0 ≤ n) (hn : n ≤ 18446744073709551615) (d : Nat) : ∀ (k : Nat) (R : Int), d ≤ 32 → d < k → 0 ≤ R → R * R ≤ n → n < (R + 2 ^ d) * (R + 2 ^ d) → R + 2 ^ d ≤ 4294967296 →
    ∃ r, root_Isqrt.l0 k (n - R * R) (R * 2 ^ d) (32 - (d : Int)) = some r ∧ IsRt n r := by
  induction d with
  | zero =>
    intro k R _ hk h0 h1 h2 h3
    obtain ⟨k, rfl⟩ : ∃ m, k = m + 1 := ⟨k - 1, by omega⟩
    refine ⟨R, ?_, h0, by simp at h3; omega, h1, by simpa using h2⟩
    simp only [root_Isqrt.l0]
    rw [if_neg (by simp)]
    simp
  | succ d ih =>
    intro k R hd hk h0 h1 h2 h3
    obtain ⟨k, rfl⟩ : ∃ m, k = m + 1 := ⟨k - 1, by omega⟩
    have hb := root_bit ⟨d, by omega⟩
    have hp := root_pow ⟨d, by omega⟩
    simp only [] at hb hp
    have e31 : (32 : Int) - ((d + 1 : Nat) : Int) = 31 - (d : Int) := by omega
    have w31 : wrap64 (2 * (31 - (d : Int))) = 2 * (31 - (d : Int)) := by unfold wrap64; omega
    have wi : wrap64 (31 - (d : Int) + 1) = 32 - (d : Int) := by unfold wrap64; omega
    rw [e31]
    simp only [root_Isqrt.l0]
    rw [hb, wi, w31]
    rw [Int.pow_succ] at h2 h3 ⊢
    generalize (2 : Int) ^ d = p at *
    obtain ⟨p1, p2⟩ := hp
    -- the sizes
    have s1 : R * (p * 2) = 2 * (R * p) := by rw [← Int.mul_assoc, Int.mul_comm]
    have s0 : 0 ≤ R * p := Int.mul_nonneg h0 (by omega)
    have s2 : (R + p) * (R + p) = R * R + 2 * (R * p) + p * p := by
      rw [Int.add_mul, Int.mul_add, Int.mul_add, Int.mul_comm p R]; omega
    have s3 : 0 ≤ p * p := Int.mul_nonneg (by omega) (by omega)
    have s4 : R * R + 2 * (R * p) + p * p < 18446744073709551616 := by
      have := sq_mono (a := R + p) (b := 4294967295) (by omega) (by omega)
      omega
    have s5 : 0 ≤ R * R := Int.mul_nonneg h0 h0
    have w1 : IntKind.u64.wrap (2 * (R * p) + p * p) = 2 * (R * p) + p * p := IntWalk.u64_in _ ⟨by omega, by omega⟩
    have hdiv : 2 * (R * p) / 2 = R * p := by omega
    rw [s1]
    rw [if_pos (by omega), if_pos (by omega), w1, hdiv]
    by_cases c : (R + p) * (R + p) ≤ n
    · rw [if_pos (by omega)]
      have w2 : IntKind.u64.wrap (n - R * R - (2 * (R * p) + p * p)) = n - (R + p) * (R + p) := by
        rw [IntWalk.u64_in _ ⟨by omega, by omega⟩]; omega
      have w3 : IntKind.u64.wrap (R * p + p * p) = (R + p) * p := by
        rw [IntWalk.u64_in _ ⟨by omega, by omega⟩, Int.add_mul]
      rw [w2, w3]
      exact ih k (R + p) (by omega) (by omega) (by omega) c (by rw [show R + p + p = R + p * 2 by omega]; exact h2) (by omega)
    · rw [if_neg (by omega)]
      exact ih k R (by omega) (by omega) h0 h1 (by omega) (by omega)

/-- root.Isqrt answers the integer square root. -/
theorem root_Isqrt.tells (n : Int) (hn0 : 0 ≤ n) (hn : n ≤ 18446744073709551615) (k : Nat) (hk : 33 ≤ k) : ∃ r, root_Isqrt.f k n = some r ∧ IsRt n r := by
  have := root_loop n hn0 hn 32 k 0 (by omega) (by omega) (by omega) (by omega) (by omega) (by decide)
  simpa [root_Isqrt.f] using this

theorem root_Isqrt.is {n r : Int} (hr : IsRt n r) (hn0 : 0 ≤ n) (hn : n ≤ 18446744073709551615) (k : Nat) (hk : 33 ≤ k) : root_Isqrt.f k n = some r := by
  obtain ⟨s, h, hs⟩ := root_Isqrt.tells n hn0 hn k hk
  rw [h, hs.uniq hr]

/-- there is an integer square root -/
theorem isRt_nat : ∀ n : Nat, ∃ r : Nat, r * r ≤ n ∧ n < (r + 1) * (r + 1)
  | 0 => ⟨0, by decide, by decide⟩
  | n + 1 => by
    obtain ⟨r, h1, h2⟩ := isRt_nat n
    by_cases c : n + 1 < (r + 1) * (r + 1)
    · exact ⟨r, by omega, c⟩
    · have e : (r + 1 + 1) * (r + 1 + 1) = (r + 1) * (r + 1) + 2 * r + 3 := by grind
      exact ⟨r + 1, by omega, by omega⟩
theorem isRt_ex (n : Int) (hn0 : 0 ≤ n) (hn : n ≤ 18446744073709551615) : ∃ r, IsRt n r := by
  obtain ⟨r, h1, h2⟩ := isRt_nat n.toNat
  have g1 : ((r * r : Nat) : Int) ≤ n := by omega
  have g2 : n < (((r + 1) * (r + 1) : Nat) : Int) := by omega
  rw [Int.natCast_mul] at g1 g2
  refine ⟨r, by omega, ?_, g1, by simpa using g2⟩
  by_cases c : (r : Int) ≤ 4294967295
  · exact c
  · have := sq_mono (a := 4294967296) (b := (r : Int)) (by omega) (by omega)
    omega

theorem refroot_loop (n : Int) (hn0 : 0 ≤ n) (hn : n ≤ 18446744073709551615) (d : Nat) : ∀ (k : Nat) (lo hi : Int), d < k → 0 ≤ lo → lo ≤ hi → hi ≤ 4294967295 → hi - lo < 2 ^ d → lo * lo ≤ n → n < (hi + 1) * (hi + 1) →
    ∃ r, billiardref03_Isqrt.l0 k n lo hi = some r ∧ IsRt n r := by
  induction d with
  | zero =>
    intro k lo hi hk h0 h1 h2 h3 h4 h5
    obtain ⟨k, rfl⟩ : ∃ m, k = m + 1 := ⟨k - 1, by omega⟩
    have e : hi = lo := by simp at h3; omega
    subst e
    refine ⟨hi, ?_, h0, h2, h4, h5⟩
    simp only [billiardref03_Isqrt.l0]
    rw [if_neg (by omega)]
  | succ d ih =>
    intro k lo hi hk h0 h1 h2 h3 h4 h5
    obtain ⟨k, rfl⟩ : ∃ m, k = m + 1 := ⟨k - 1, by omega⟩
    by_cases c : lo < hi
    · have w0 : IntKind.u64.wrap ((IntKind.u64.wrap (IntKind.u64.wrap (lo + hi) + 1)).tdiv 2) = (lo + hi + 1) / 2 := by
        rw [IntWalk.u64_in (lo + hi) ⟨by omega, by omega⟩, IntWalk.u64_in (lo + hi + 1) ⟨by omega, by omega⟩, IntWalk.u64_quo _ _ ⟨by omega, by omega, by omega⟩]
      obtain ⟨m, hm⟩ : ∃ m, m = (lo + hi + 1) / 2 := ⟨_, rfl⟩
      have m1 : lo < m := by omega
      have m2 : m ≤ hi := by omega
      have s0 := sq_mono (a := m) (b := 4294967295) (by omega) (by omega)
      have s1 : 0 ≤ m * m := Int.mul_nonneg (by omega) (by omega)
      have w1 : IntKind.u64.wrap (m * m) = m * m := IntWalk.u64_in _ ⟨by omega, by omega⟩
      have w2 : IntKind.u64.wrap (m - 1) = m - 1 := IntWalk.u64_in _ ⟨by omega, by omega⟩
      rw [Int.pow_succ] at h3
      generalize (2 : Int) ^ d = p at *
      simp only [billiardref03_Isqrt.l0]
      rw [if_pos c, w0, ← hm, w1, w2]
      by_cases c2 : m * m ≤ n
      · rw [if_pos c2]
        exact ih k m hi (by omega) (by omega) (by omega) (by omega) (by omega) c2 h5
      · rw [if_neg c2]
        exact ih k lo (m - 1) (by omega) (by omega) (by omega) (by omega) (by omega) h4 (by rw [show m - 1 + 1 = m by omega]; omega)
    · have e : hi = lo := by omega
      subst e
      refine ⟨hi, ?_, h0, h2, h4, h5⟩
      simp only [billiardref03_Isqrt.l0]
      rw [if_neg (by omega)]

theorem billiardref03_Isqrt.is {n r : Int} (hr : IsRt n r) (hn0 : 0 ≤ n) (hn : n ≤ 18446744073709551615) (k : Nat) (hk : 33 ≤ k) : billiardref03_Isqrt.f k n = some r := by
  obtain ⟨s, h, hs⟩ := refroot_loop n hn0 hn 32 k 0 4294967295 (by omega) (by omega) (by omega) (by omega) (by decide) (by omega) (by omega)
  rw [billiardref03_Isqrt.f, h, hs.uniq hr]

/-- The least integer whose square is at least n. -/
def rtCeil (n r : Int) : Int := if r * r < n then r + 1 else r

theorem IsRt.sq_u64 {n r : Int} (hr : IsRt n r) : IntKind.u64.wrap (r * r) = r * r := by
  obtain ⟨h0, h1, _, _⟩ := hr
  have := sq_mono (a := r) (b := 4294967295) h0 h1
  exact IntWalk.u64_in _ ⟨Int.mul_nonneg h0 h0, by omega⟩

end Go.Proofs.Ytabcnaceffpekaa.Q

namespace Go.Proofs.Ytabcnaceffpekaa.Q
open Go.RowKit Go.Proofs.YtabcnaceffpekaaW.PrintWords Go.Proofs.YtabcnaceffpekaaW.PrintLast Go.Proofs.YtabcnaceffpekaaW.PrintMore
set_option linter.unusedVariables false

theorem vec_square.is {d : Int} (h0 : -4294967295 ≤ d) (h1 : d ≤ 4294967295) : vec_square.f d = some (d * d) := by
  unfold vec_square.f
  have hs := sq_le h0 h1
  have h := sq_nn d
  by_cases c : d < 0
  · rw [if_pos c, w64_id (n := -d) (by omega) (by omega), u64_id (n := -d) (by omega) (by omega), Int.neg_mul_neg, u64_id h (by omega)]
  · rw [if_neg c, u64_id (n := d) (by omega) (by omega), u64_id h (by omega)]
theorem sq_small {d m : Int} (hm : 0 ≤ m) (h : d * d ≤ m) : m ≤ 18446744073709551615 → -4294967295 ≤ d ∧ d ≤ 4294967295 := by
  intro hm2
  have := sq_lt_cancel (a := d) (b := 4294967296) (by omega) (by omega)
  omega

theorem vec_LengthSq.is {x y : Int} (h : x * x + y * y ≤ 18446744073709551615) : vec_LengthSq.f x y = some (x * x + y * y) := by
  have hx := sq_nn x
  have hy := sq_nn y
  have bx := sq_small (d := x) (by omega) (by omega) h
  have by_ := sq_small (d := y) (by omega) (by omega) h
  unfold vec_LengthSq.f
  rw [vec_square.is bx.1 bx.2, vec_square.is by_.1 by_.2]
  simp only [Option.bind_some]
  rw [u64_id (by omega) h]
theorem vec_Length.is {x y n : Int} (hn : IsRt (x * x + y * y) n) (h : x * x + y * y ≤ 18446744073709551615) (k : Nat) (hk : 33 ≤ k) : vec_Length.f k x y = some n := by
  have hx := sq_nn x
  have hy := sq_nn y
  unfold vec_Length.f
  rw [vec_LengthSq.is h]
  simp only [Option.bind_some]
  rw [root_Isqrt.is hn (by omega) h k hk]
  simp only [Option.bind_some]
  obtain ⟨g0, g1, _, _⟩ := hn
  rw [w64_id (by omega) (by omega)]
/-- The root is at least each component. -/
theorem IsRt.comp {x y n : Int} (hn : IsRt (x * x + y * y) n) : (-n ≤ x ∧ x ≤ n) ∧ (-n ≤ y ∧ y ≤ n) := by
  have hx := sq_nn x
  have hy := sq_nn y
  obtain ⟨g0, g1, g2, g3⟩ := hn
  have a := sq_lt_cancel (a := x) (b := n + 1) (by omega) (by omega)
  have b := sq_lt_cancel (a := y) (b := n + 1) (by omega) (by omega)
  omega

theorem unit_part {d n : Int} (hn : 0 < n) (h0 : -n ≤ d) (h1 : d ≤ n) : -65536 ≤ d * 65536 / n ∧ d * 65536 / n ≤ 65536 := by
  constructor
  · refine (Int.le_ediv_iff_mul_le hn).mpr ?_
    omega
  · exact Int.ediv_le_of_le_mul hn (by omega)

/-- The unit vector. -/
def unitS (n x y : Int) : Int × Int := if n = 0 then (65536, 0) else (x * 65536 / n, y * 65536 / n)
theorem vec_Diff.is {a b c d : Int} (ha : -2147483648 ≤ a ∧ a ≤ 2147483647) (hb : -2147483648 ≤ b ∧ b ≤ 2147483647) (hc : -2147483648 ≤ c ∧ c ≤ 2147483647) (hd : -2147483648 ≤ d ∧ d ≤ 2147483647) :
    vec_Diff.f a b c d = some (c - a, d - b) := by
  unfold vec_Diff.f
  rw [w64_id (n := a) (by omega) (by omega), w64_id (n := b) (by omega) (by omega), w64_id (n := c) (by omega) (by omega), w64_id (n := d) (by omega) (by omega), w64_id (by omega) (by omega), w64_id (by omega) (by omega)]
end Go.Proofs.Ytabcnaceffpekaa.Q

namespace Go.Proofs.Ytabcnaceffpekaa.Q
open Go.RowKit Go.Proofs.YtabcnaceffpekaaW.PrintWords Go.Proofs.YtabcnaceffpekaaW.PrintLast Go.Proofs.YtabcnaceffpekaaW.PrintMore
set_option linter.unusedVariables false
theorem ref_square {p0 p1 q0 q1 c0 c1 : Int} (h : RightP p0 p1 q0 q1 c0 c1) : billiardref12_Square.f p0 p1 q0 q1 = some (dS (q0 - p0) (q1 - p1)) := by
  obtain ⟨a1, a2, b1, b2, d1, d2, hx, hy⟩ := h
  have e1 := mul_bd (A := 16777216) (B := 16777216) hx hx
  have e2 := mul_bd (A := 16777216) (B := 16777216) hy hy
  unfold billiardref12_Square.f
  rw [wdiff b1 a1, wdiff b2 a2, w64_id (n := (q0 - p0) * (q0 - p0)) (by omega) (by omega), w64_id (n := (q1 - p1) * (q1 - p1)) (by omega) (by omega), w64_id (n := (q0 - p0) * (q0 - p0) + (q1 - p1) * (q1 - p1)) (by omega) (by omega)]
  rfl
theorem ref_limit {n d : Int} (h : 0 ≤ d) : billiardref12_Limit.f n 0 d = some (mx 0 (mn n d)) := by
  unfold billiardref12_Limit.f
  by_cases c : n < 0
  · rw [if_pos c]
    congr 1
    unfold mx mn
    omega
  · rw [if_neg c]
    by_cases e : n > d
    · rw [if_pos e]
      congr 1
      unfold mx mn
      omega
    · rw [if_neg e]
      congr 1
      unfold mx mn
      omega
theorem ref_param {p0 p1 q0 q1 c0 c1 : Int} (h : RightP p0 p1 q0 q1 c0 c1) : billiardref12_Param.f p0 p1 q0 q1 c0 c1 = some (parN (q0 - p0) (q1 - p1) (c0 - p0) (c1 - p1)) := by
  unfold billiardref12_Param.f
  rw [ref_square h]
  obtain ⟨a1, a2, b1, b2, d1, d2, hx, hy⟩ := h
  have e3 := mul_bd (A := 2164260864) (B := 16777216) (x := c0 - p0) (by unfold InB at *; omega) hx
  have e4 := mul_bd (A := 2164260864) (B := 16777216) (x := c1 - p1) (by unfold InB at *; omega) hy
  simp only [Option.bind_some]
  rw [wdiff b1 a1, wdiff b2 a2, wdiff d1 a1, wdiff d2 a2, w64_id (n := (c0 - p0) * (q0 - p0)) (by omega) (by omega), w64_id (n := (c1 - p1) * (q1 - p1)) (by omega) (by omega), w64_id (n := (c0 - p0) * (q0 - p0) + (c1 - p1) * (q1 - p1)) (by omega) (by omega), ref_limit (dS_nn _ _)]
  rfl
theorem ref_nearest {p0 p1 q0 q1 c0 c1 : Int} (h : RightP p0 p1 q0 q1 c0 c1) : billiardref12_Nearest.f p0 p1 q0 q1 c0 c1 = point_Nearest.f p0 p1 q0 q1 c0 c1 := by
  have hb := parN_bd (q0 - p0) (q1 - p1) (c0 - p0) (c1 - p1)
  obtain ⟨hp, hd⟩ := point_Param.is h
  unfold billiardref12_Nearest.f point_Nearest.f
  rw [ref_square h, ref_param h, hp]
  obtain ⟨a1, a2, b1, b2, d1, d2, hx, hy⟩ := h
  simp only [Option.bind_some]
  rw [wdiff b1 a1, wdiff b2 a2]
  generalize parN (q0 - p0) (q1 - p1) (c0 - p0) (c1 - p1) = n at *
  generalize dS (q0 - p0) (q1 - p1) = d at *
  unfold InB at *
  have hi : i32B p0 = true ∧ i32B p1 = true ∧ i32B q0 = true ∧ i32B q1 = true := ⟨i32B_iff.mpr (by omega), i32B_iff.mpr (by omega), i32B_iff.mpr (by omega), i32B_iff.mpr (by omega)⟩
  have hj : i64B n = true ∧ i64B d = true := ⟨i64B_iff.mpr (by omega), i64B_iff.mpr (by omega)⟩
  have h1 : i64B (q0 - p0) = true ∧ i64B n = true ∧ i64B d = true := ⟨i64B_iff.mpr (by omega), hj⟩
  have h2 : i64B (q1 - p1) = true ∧ i64B n = true ∧ i64B d = true := ⟨i64B_iff.mpr (by omega), hj⟩
  rw [if_pos hi]
  by_cases c : d = 0
  · rw [if_pos c, if_pos c]
  · rw [if_neg c, if_neg c, if_pos hj]
    unfold billiardref01_MulDiv.f
    rw [if_pos h1, if_pos h2]
    rfl
theorem near_in {p0 p1 q0 q1 c0 c1 : Int} (h : RightP p0 p1 q0 q1 c0 c1) : ∃ u v, point_Nearest.f p0 p1 q0 q1 c0 c1 = some (u, v) ∧ InB u ∧ InB v := by
  have hn := parN_bd (q0 - p0) (q1 - p1) (c0 - p0) (c1 - p1)
  refine ⟨_, _, point_Nearest.is h, ?_, ?_⟩
  · have k1 := ptS_box (p := p0) (q := q0) hn
    unfold RightP InB at *
    rcases Int.le_total p0 q0 with g | g
    · have := k1.1 g; omega
    · have := k1.2 g; omega
  · have k1 := ptS_box (p := p1) (q := q1) hn
    unfold RightP InB at *
    rcases Int.le_total p1 q1 with g | g
    · have := k1.1 g; omega
    · have := k1.2 g; omega
theorem sq_far {x : Int} (hx : -2164260864 ≤ x ∧ x ≤ 2164260864) : 0 ≤ x * x ∧ x * x ≤ 4684025087442026496 := by
  have := mul_bd (A := 2164260864) (B := 2164260864) hx hx
  have := sq_nn x
  omega
theorem billiardref04_LengthSq.is {x y : Int} (hx : -2164260864 ≤ x ∧ x ≤ 2164260864) (hy : -2164260864 ≤ y ∧ y ≤ 2164260864) : billiardref04_LengthSq.f x y = some (dS x y) := by
  have h1 := sq_far hx
  have h2 := sq_far hy
  unfold dS
  unfold billiardref04_LengthSq.f
  have w1 : wrap64 (-x) = -x := w64_id (by omega) (by omega)
  have w2 : wrap64 (-y) = -y := w64_id (by omega) (by omega)
  have s1 : IntKind.u64.wrap (x * x) = x * x := u64_id (by omega) (by omega)
  have s2 : IntKind.u64.wrap (y * y) = y * y := u64_id (by omega) (by omega)
  have s3 : IntKind.u64.wrap (x * x + y * y) = x * x + y * y := u64_id (by omega) (by omega)
  by_cases cx : x < 0
  · have u1 : IntKind.u64.wrap (-x) = -x := u64_id (by omega) (by omega)
    by_cases cy : y < 0
    · have u2 : IntKind.u64.wrap (-y) = -y := u64_id (by omega) (by omega)
      rw [if_pos cx, if_pos cy, w1, w2, u1, u2, Int.neg_mul_neg, Int.neg_mul_neg, s1, s2, s3]
    · have u2 : IntKind.u64.wrap y = y := u64_id (by omega) (by omega)
      rw [if_pos cx, if_neg cy, w1, u1, u2, Int.neg_mul_neg, s1, s2, s3]
  · have u1 : IntKind.u64.wrap x = x := u64_id (by omega) (by omega)
    by_cases cy : y < 0
    · have u2 : IntKind.u64.wrap (-y) = -y := u64_id (by omega) (by omega)
      rw [if_neg cx, if_pos cy, w2, u1, u2, Int.neg_mul_neg, s1, s2, s3]
    · have u2 : IntKind.u64.wrap y = y := u64_id (by omega) (by omega)
      rw [if_neg cx, if_neg cy, u1, u2, s1, s2, s3]
theorem vec_LengthSq.far {x y : Int} (hx : -2164260864 ≤ x ∧ x ≤ 2164260864) (hy : -2164260864 ≤ y ∧ y ≤ 2164260864) : vec_LengthSq.f x y = some (dS x y) := by
  have h1 := sq_far hx
  have h2 := sq_far hy
  unfold dS
  exact vec_LengthSq.is (by omega)
/-- The coordinates of the nearest point. -/
def nX (p0 p1 q0 q1 c0 c1 : Int) : Int := ptS p0 (q0 - p0) (parN (q0 - p0) (q1 - p1) (c0 - p0) (c1 - p1)) (dS (q0 - p0) (q1 - p1))
def nY (p0 p1 q0 q1 c0 c1 : Int) : Int := ptS p1 (q1 - p1) (parN (q0 - p0) (q1 - p1) (c0 - p0) (c1 - p1)) (dS (q0 - p0) (q1 - p1))
theorem Nearest_n {p0 p1 q0 q1 c0 c1 : Int} (h : RightP p0 p1 q0 q1 c0 c1) : point_Nearest.f p0 p1 q0 q1 c0 c1 = some (nX p0 p1 q0 q1 c0 c1, nY p0 p1 q0 q1 c0 c1) := point_Nearest.is h
theorem n_in {p0 p1 q0 q1 c0 c1 : Int} (h : RightP p0 p1 q0 q1 c0 c1) : InB (nX p0 p1 q0 q1 c0 c1) ∧ InB (nY p0 p1 q0 q1 c0 c1) := by
  obtain ⟨u, v, e, hu, hv⟩ := near_in h
  rw [Nearest_n h] at e
  simp only [Option.some.injEq, Prod.mk.injEq] at e
  rw [e.1, e.2]
  exact ⟨hu, hv⟩
theorem in_diff {a b : Int} (ha : InB a) (hb : InB b) : -2164260864 ≤ a - b ∧ a - b ≤ 2164260864 := by unfold InB at *; omega
theorem dS_neg (a b c d : Int) : dS (a - b) (c - d) = dS (b - a) (d - c) := by unfold dS; grind
theorem dS_bd {x y : Int} (hx : -2164260864 ≤ x ∧ x ≤ 2164260864) (hy : -2164260864 ≤ y ∧ y ≤ 2164260864) : 0 ≤ dS x y ∧ dS x y ≤ 9368050174884052992 := by
  have h1 := sq_far hx
  have h2 := sq_far hy
  unfold dS
  omega
theorem ref12_DistSq.is {p0 p1 q0 q1 c0 c1 : Int} (h : RightP p0 p1 q0 q1 c0 c1) : billiardref12_DistSq.f p0 p1 q0 q1 c0 c1 = some (dS (nX p0 p1 q0 q1 c0 c1 - c0) (nY p0 p1 q0 q1 c0 c1 - c1)) := by
  obtain ⟨i1, i2⟩ := n_in h
  unfold billiardref12_DistSq.f
  rw [ref_nearest h, Nearest_n h]
  obtain ⟨a1, a2, b1, b2, d1, d2, hx, hy⟩ := h
  simp only [Option.bind_some]
  rw [wdiff i1 d1, wdiff i2 d2, billiardref04_LengthSq.is (in_diff i1 d1) (in_diff i2 d2)]
  rfl
end Go.Proofs.Ytabcnaceffpekaa.Q

namespace Go.Proofs.Ytabcnaceffpekaa.Q
open Go.RowKit Go.Proofs.YtabcnaceffpekaaW.PrintWords Go.Proofs.YtabcnaceffpekaaW.PrintLast Go.Proofs.YtabcnaceffpekaaW.PrintMore
set_option linter.unusedVariables false
theorem box_mx (a b : Int) : mx a b = if a < b then b else a := by unfold mx; omega
theorem box_mn (a b : Int) : mn a b = if a < b then a else b := by unfold mn; omega
theorem mx_comm (a b : Int) : mx a b = mx b a := by unfold mx; omega
theorem mn_comm (a b : Int) : mn a b = mn b a := by unfold mn; omega
/-- A box has no point. -/
def emptyB (a b c d : Int) : Bool := decide (a > c ∨ b > d)
theorem emptyB_iff {a b c d : Int} : emptyB a b c d = true ↔ (a > c ∨ b > d) := by simp [emptyB]
theorem emptyB_no {a b c d : Int} : emptyB a b c d = false ↔ (a ≤ c ∧ b ≤ d) := by
  simp [emptyB]
def meetB (a b c d e f g h : Int) : Int × Int × Int × Int := if emptyB (mx a e) (mx b f) (mn c g) (mn d h) = true then (1, 0, 0, 0) else (mx a e, mx b f, mn c g, mn d h)
theorem meetB_comm (a b c d e f g h : Int) : meetB a b c d e f g h = meetB e f g h a b c d := by
  unfold meetB
  rw [mx_comm a e, mx_comm b f, mn_comm c g, mn_comm d h]
def overB (a b c d e f g h : Int) : Bool := !emptyB (mx a e) (mx b f) (mn c g) (mn d h)
theorem overB_comm (a b c d e f g h : Int) : overB a b c d e f g h = overB e f g h a b c d := by
  unfold overB
  rw [mx_comm a e, mx_comm b f, mn_comm c g, mn_comm d h]
theorem overB_iff {a b c d e f g h : Int} : overB a b c d e f g h = true ↔ (a ≤ c ∧ b ≤ d ∧ e ≤ g ∧ f ≤ h ∧ a ≤ g ∧ e ≤ c ∧ b ≤ h ∧ f ≤ d) := by
  unfold overB
  rw [Bool.not_eq_true', emptyB_no]
  simp only [box_mx, box_mn]
  split <;> split <;> split <;> split <;> omega
theorem meetB_empty (a b c d e f g h : Int) : emptyB (meetB a b c d e f g h).1 (meetB a b c d e f g h).2.1 (meetB a b c d e f g h).2.2.1 (meetB a b c d e f g h).2.2.2 = !overB a b c d e f g h := by
  unfold meetB overB
  by_cases k : emptyB (mx a e) (mx b f) (mn c g) (mn d h) = true
  · rw [if_pos k, k]; rfl
  · rw [if_neg k, Bool.not_not]
def inB (a b c d p q : Int) : Bool := decide ((a ≤ p ∧ p ≤ c) ∧ b ≤ q ∧ q ≤ d)
theorem inB_iff {a b c d p q : Int} : inB a b c d p q = true ↔ ((a ≤ p ∧ p ≤ c) ∧ b ≤ q ∧ q ≤ d) := by simp [inB]
theorem box_between.is (a x b : Int) : box_between_int32.f a x b = some (decide (a ≤ x ∧ x ≤ b)) := by
  unfold box_between_int32.f
  by_cases h : a ≤ x
  · rw [if_pos h]; congr 1; rw [decide_eq_decide]; omega
  · rw [if_neg h, decide_eq_false (by omega)]
theorem box_Contains.is (a b c d p q : Int) : box_Contains.f a b c d p q = some (inB a b c d p q) := by
  unfold box_Contains.f inB
  rw [box_between.is, box_between.is, Option.bind_some, Option.bind_some]
  by_cases h : a ≤ p ∧ p ≤ c
  · rw [decide_eq_true h, if_pos rfl]; congr 1; rw [decide_eq_decide]; omega
  · rw [decide_eq_false h, if_neg (by decide), decide_eq_false (by omega)]
theorem billiardref08_Contains.is (a b c d p q : Int) : billiardref08_Contains.f a b c d p q = some (inB a b c d p q) := by
  unfold billiardref08_Contains.f inB
  by_cases h1 : p ≥ a
  · rw [if_pos h1]
    by_cases h2 : p ≤ c
    · rw [if_pos h2]
      by_cases h3 : q ≥ b
      · rw [if_pos h3]; congr 1; rw [decide_eq_decide]; omega
      · rw [if_neg h3, decide_eq_false (by omega)]
    · rw [if_neg h2, decide_eq_false (by omega)]
  · rw [if_neg h1, decide_eq_false (by omega)]
/-- The half edges of a valid body's box. -/
def absI (a : Int) : Int := if a < 0 then -a else a
theorem body_abs.is {a : Int} (h : -2147483647 ≤ a ∧ a ≤ 2147483647) : body_abs.f a = some (absI a) := by
  unfold body_abs.f absI
  rw [w32_id (by omega) (by omega), box_mx]
  congr 1
  split <;> split <;> omega
def ofB (r ax ay px py : Int) : Int × Int × Int × Int := (px - (absI ax + r), py - (absI ay + r), px + (absI ax + r), py + (absI ay + r))
theorem box_Of.is {key r ax ay m b px py vx vy : Int} (hr : 0 ≤ r ∧ r ≤ 4194304) (hx : -4194304 ≤ ax ∧ ax ≤ 4194304) (hy : -4194304 ≤ ay ∧ ay ≤ 4194304) (hp : -1073741824 ≤ px ∧ px ≤ 1073741824) (hq : -1073741824 ≤ py ∧ py ≤ 1073741824) :
    box_Of.f key r ax ay m b px py vx vy = some (ofB r ax ay px py) := by
  have ex : 0 ≤ absI ax ∧ absI ax ≤ 4194304 := by unfold absI; split <;> omega
  have ey : 0 ≤ absI ay ∧ absI ay ≤ 4194304 := by unfold absI; split <;> omega
  unfold box_Of.f body_Extent.f
  rw [body_abs.is (by omega), body_abs.is (by omega)]
  simp only [Option.bind_some]
  rw [w32_id (n := absI ax + r) (by omega) (by omega), w32_id (n := absI ay + r) (by omega) (by omega), w32_id (by omega) (by omega), w32_id (by omega) (by omega), w32_id (by omega) (by omega), w32_id (by omega) (by omega)]
  rfl
theorem billiardref08_Of.is {key r ax ay m b px py vx vy : Int} (hr : 0 ≤ r ∧ r ≤ 4194304) (hx : -4194304 ≤ ax ∧ ax ≤ 4194304) (hy : -4194304 ≤ ay ∧ ay ≤ 4194304) (hp : -1073741824 ≤ px ∧ px ≤ 1073741824) (hq : -1073741824 ≤ py ∧ py ≤ 1073741824) :
    billiardref08_Of.f key r ax ay m b px py vx vy = some (ofB r ax ay px py) := by
  have ex : 0 ≤ absI ax ∧ absI ax ≤ 4194304 := by unfold absI; split <;> omega
  have ey : 0 ≤ absI ay ∧ absI ay ≤ 4194304 := by unfold absI; split <;> omega
  have ab : ∀ n : Int, -4194304 ≤ n ∧ n ≤ 4194304 → billiardref05_Abs.f n = some (absI n) := fun n hn => by
    unfold billiardref05_Abs.f absI
    by_cases c : n < 0
    · rw [if_pos c, if_pos c, w32_id (by omega) (by omega)]
    · rw [if_neg c, if_neg c]
  unfold billiardref08_Of.f
  rw [ab ax hx, ab ay hy]
  simp only [Option.bind_some]
  rw [w32_id (n := absI ax + r) (by omega) (by omega), w32_id (n := absI ay + r) (by omega) (by omega), w32_id (by omega) (by omega), w32_id (by omega) (by omega), w32_id (by omega) (by omega), w32_id (by omega) (by omega)]
  rfl
end Go.Proofs.Ytabcnaceffpekaa.Q

namespace Go.Proofs.Ytabcnaceffpekaa.Q
open Go.RowKit Go.Proofs.YtabcnaceffpekaaW.PrintWords Go.Proofs.YtabcnaceffpekaaW.PrintLast Go.Proofs.YtabcnaceffpekaaW.PrintMore
set_option linter.unusedVariables false
theorem Valid.ends {k0 r0 ax0 ay0 m0 b0 px0 py0 vx0 vy0 : Int} (h : Valid k0 r0 ax0 ay0 m0 b0 px0 py0 vx0 vy0) : (wrap32 (px0 - ax0) = px0 - ax0 ∧ wrap32 (py0 - ay0) = py0 - ay0 ∧ wrap32 (px0 + ax0) = px0 + ax0 ∧ wrap32 (py0 + ay0) = py0 + ay0) ∧ InB (px0 - ax0) ∧ InB (py0 - ay0) ∧ InB (px0 + ax0) ∧ InB (py0 + ay0) ∧ (-16777216 ≤ px0 + ax0 - (px0 - ax0) ∧ px0 + ax0 - (px0 - ax0) ≤ 16777216) ∧ (-16777216 ≤ py0 + ay0 - (py0 - ay0) ∧ py0 + ay0 - (py0 - ay0) ≤ 16777216) := by
  obtain ⟨_, a1, a2, _, _, p1, p2, _, _⟩ := h
  unfold InB
  exact ⟨⟨w32_id (by omega) (by omega), w32_id (by omega) (by omega), w32_id (by omega) (by omega), w32_id (by omega) (by omega)⟩, by omega, by omega, by omega, by omega, by omega, by omega⟩
theorem Valid.rightP {k0 r0 ax0 ay0 m0 b0 px0 py0 vx0 vy0 c0 c1 : Int} (h : Valid k0 r0 ax0 ay0 m0 b0 px0 py0 vx0 vy0) (h0 : InB c0) (h1 : InB c1) : RightP (px0 - ax0) (py0 - ay0) (px0 + ax0) (py0 + ay0) c0 c1 := by
  obtain ⟨_, e1, e2, e3, e4, d1, d2⟩ := h.ends
  exact ⟨e1, e2, e3, e4, h0, h1, d1, d2⟩
/-- The nearest point of a body's core. -/
def cX (ax ay px py c0 c1 : Int) : Int := nX (px - ax) (py - ay) (px + ax) (py + ay) c0 c1
def cY (ax ay px py c0 c1 : Int) : Int := nY (px - ax) (py - ay) (px + ax) (py + ay) c0 c1
/-- The square of the distance of a point from it. -/
def dQ (ax ay px py c0 c1 : Int) : Int := dS (cX ax ay px py c0 c1 - c0) (cY ax ay px py c0 c1 - c1)
theorem coreN_is {k0 r0 ax0 ay0 m0 b0 px0 py0 vx0 vy0 c0 c1 : Int} (h : Valid k0 r0 ax0 ay0 m0 b0 px0 py0 vx0 vy0) (h0 : InB c0) (h1 : InB c1) : coreN k0 r0 ax0 ay0 m0 b0 px0 py0 vx0 vy0 c0 c1 = some (cX ax0 ay0 px0 py0 c0 c1, cY ax0 ay0 px0 py0 c0 c1) := by
  unfold coreN
  by_cases c : ax0 = 0 ∧ ay0 = 0
  · rw [if_pos c]
    obtain ⟨rfl, rfl⟩ := c
    unfold cX cY nX nY ptS
    simp
  · rw [if_neg c]
    obtain ⟨⟨w1, w2, w3, w4⟩, _⟩ := h.ends
    unfold body_Ends.f
    simp only [Option.bind_some]
    rw [w1, w2, w3, w4, Nearest_n (h.rightP h0 h1)]
    rfl
theorem c_in {k0 r0 ax0 ay0 m0 b0 px0 py0 vx0 vy0 c0 c1 : Int} (h : Valid k0 r0 ax0 ay0 m0 b0 px0 py0 vx0 vy0) (h0 : InB c0) (h1 : InB c1) : InB (cX ax0 ay0 px0 py0 c0 c1) ∧ InB (cY ax0 ay0 px0 py0 c0 c1) := n_in (h.rightP h0 h1)
theorem query_difference.is {k0 r0 ax0 ay0 m0 b0 px0 py0 vx0 vy0 c0 c1 : Int} (h : Valid k0 r0 ax0 ay0 m0 b0 px0 py0 vx0 vy0) (h0 : InB c0) (h1 : InB c1) : query_difference.f k0 r0 ax0 ay0 m0 b0 px0 py0 vx0 vy0 c0 c1 = some (cX ax0 ay0 px0 py0 c0 c1 - c0, cY ax0 ay0 px0 py0 c0 c1 - c1) := by
  have hc := c_in h h0 h1
  unfold query_difference.f
  rw [coreN_is h h0 h1]
  simp only [Option.bind_some]
  unfold vec_Diff.f
  rw [wdiff hc.1 h0, wdiff hc.2 h1]
theorem r_sq {r : Int} (hr : 4096 ≤ r ∧ r ≤ 4194304) : IntKind.u64.wrap (IntKind.u64.wrap r * IntKind.u64.wrap r) = r * r := by
  have w1 : IntKind.u64.wrap r = r := IntWalk.u64_in _ ⟨by omega, by omega⟩
  have h1 : 0 ≤ r * r := Int.mul_nonneg (by omega) (by omega)
  have h2 : r * r ≤ 4194304 * 4194304 := Int.mul_le_mul hr.2 hr.2 (by omega) (by omega)
  rw [w1]
  exact IntWalk.u64_in _ ⟨h1, by omega⟩
theorem sq_bd {x r : Int} (hr : 0 ≤ r) (h : x * x ≤ r * r) : -r ≤ x ∧ x ≤ r := by
  have e2 : (r + 1) * (r + 1) = r * r + 2 * r + 1 := by grind
  constructor
  · by_cases c : -r ≤ x
    · exact c
    · have h1 : (r + 1) * (r + 1) ≤ (-x) * (-x) := Int.mul_le_mul (by omega) (by omega) (by omega) (by omega)
      rw [Int.neg_mul_neg] at h1
      omega
  · by_cases c : x ≤ r
    · exact c
    · have h1 : (r + 1) * (r + 1) ≤ x * x := Int.mul_le_mul (by omega) (by omega) (by omega) (by omega)
      omega
theorem c_box (ax ay px py c0 c1 : Int) : (px - absI ax ≤ cX ax ay px py c0 c1 ∧ cX ax ay px py c0 c1 ≤ px + absI ax) ∧ py - absI ay ≤ cY ax ay px py c0 c1 ∧ cY ax ay px py c0 c1 ≤ py + absI ay := by
  have hn := parN_bd (px + ax - (px - ax)) (py + ay - (py - ay)) (c0 - (px - ax)) (c1 - (py - ay))
  have k1 := ptS_box (p := px - ax) (q := px + ax) hn
  have k2 := ptS_box (p := py - ay) (q := py + ay) hn
  unfold cX cY nX nY absI
  generalize ptS (px - ax) _ _ _ = z at *
  generalize ptS (py - ay) _ _ _ = y at *
  split <;> split <;> omega
theorem d_bd {k0 r0 ax0 ay0 m0 b0 px0 py0 vx0 vy0 c0 c1 : Int} (h : Valid k0 r0 ax0 ay0 m0 b0 px0 py0 vx0 vy0) (h0 : InB c0) (h1 : InB c1) : (-2164260864 ≤ cX ax0 ay0 px0 py0 c0 c1 - c0 ∧ cX ax0 ay0 px0 py0 c0 c1 - c0 ≤ 2164260864) ∧ (-2164260864 ≤ cY ax0 ay0 px0 py0 c0 c1 - c1 ∧ cY ax0 ay0 px0 py0 c0 c1 - c1 ≤ 2164260864) ∧ 0 ≤ dQ ax0 ay0 px0 py0 c0 c1 ∧ dQ ax0 ay0 px0 py0 c0 c1 ≤ 18446744073709551615 := by
  have hc := c_in h h0 h1
  have a := in_diff hc.1 h0
  have b := in_diff hc.2 h1
  have d := dS_bd a b
  exact ⟨a, b, d.1, by unfold dQ; omega⟩
theorem query_In.is {k0 r0 ax0 ay0 m0 b0 px0 py0 vx0 vy0 c0 c1 : Int} (h : Valid k0 r0 ax0 ay0 m0 b0 px0 py0 vx0 vy0) (h0 : InB c0) (h1 : InB c1) : query_In.f k0 r0 ax0 ay0 m0 b0 px0 py0 vx0 vy0 c0 c1 = some (decide (dQ ax0 ay0 px0 py0 c0 c1 ≤ r0 * r0)) ∧ (dQ ax0 ay0 px0 py0 c0 c1 ≤ r0 * r0 → inB (ofB r0 ax0 ay0 px0 py0).1 (ofB r0 ax0 ay0 px0 py0).2.1 (ofB r0 ax0 ay0 px0 py0).2.2.1 (ofB r0 ax0 ay0 px0 py0).2.2.2 c0 c1 = true) := by
  have hr := h.r
  have hd := d_bd h h0 h1
  have hin : dQ ax0 ay0 px0 py0 c0 c1 ≤ r0 * r0 → inB (ofB r0 ax0 ay0 px0 py0).1 (ofB r0 ax0 ay0 px0 py0).2.1 (ofB r0 ax0 ay0 px0 py0).2.2.1 (ofB r0 ax0 ay0 px0 py0).2.2.2 c0 c1 = true := fun hD => by
    unfold dQ dS at hD
    have s0 : 0 ≤ (cX ax0 ay0 px0 py0 c0 c1 - c0) * (cX ax0 ay0 px0 py0 c0 c1 - c0) := (sq_far hd.1).1
    have s1 : 0 ≤ (cY ax0 ay0 px0 py0 c0 c1 - c1) * (cY ax0 ay0 px0 py0 c0 c1 - c1) := (sq_far hd.2.1).1
    have x := sq_bd (x := cX ax0 ay0 px0 py0 c0 c1 - c0) (r := r0) (by omega) (by omega)
    have y := sq_bd (x := cY ax0 ay0 px0 py0 c0 c1 - c1) (r := r0) (by omega) (by omega)
    have hb := c_box ax0 ay0 px0 py0 c0 c1
    rw [inB_iff]
    unfold ofB
    simp only
    omega
  refine ⟨?_, hin⟩
  unfold query_In.f
  rw [box_Of.is ⟨by omega, by omega⟩ h.ax h.ay h.px h.py]
  simp only [Option.bind_some]
  rw [box_Contains.is]
  simp only [Option.bind_some]
  by_cases c : inB (ofB r0 ax0 ay0 px0 py0).1 (ofB r0 ax0 ay0 px0 py0).2.1 (ofB r0 ax0 ay0 px0 py0).2.2.1 (ofB r0 ax0 ay0 px0 py0).2.2.2 c0 c1 = true
  · rw [if_pos c, query_difference.is h h0 h1]
    simp only [Option.bind_some]
    rw [vec_LengthSq.far hd.1 hd.2.1, r_sq hr]
    rfl
  · rw [if_neg c, decide_eq_false (fun hD => c (hin hD))]
theorem ref24_In.is {k0 r0 ax0 ay0 m0 b0 px0 py0 vx0 vy0 c0 c1 : Int} (h : Valid k0 r0 ax0 ay0 m0 b0 px0 py0 vx0 vy0) (h0 : InB c0) (h1 : InB c1) : billiardref24_In.f k0 r0 ax0 ay0 m0 b0 px0 py0 vx0 vy0 c0 c1 = some (decide (dQ ax0 ay0 px0 py0 c0 c1 ≤ r0 * r0)) := by
  obtain ⟨⟨w1, w2, w3, w4⟩, _⟩ := h.ends
  unfold billiardref24_In.f billiardref05_First.f billiardref05_Second.f
  simp only [Option.bind_some]
  rw [w1, w2, w3, w4, ref12_DistSq.is (h.rightP h0 h1), r_sq h.r]
  rfl
/-- The distance: both functions answer n less the radius, where n is the root of the square. -/
theorem dist_is {k0 r0 ax0 ay0 m0 b0 px0 py0 vx0 vy0 c0 c1 : Int} (h : Valid k0 r0 ax0 ay0 m0 b0 px0 py0 vx0 vy0) (h0 : InB c0) (h1 : InB c1) {n : Int} (hn : IsRt (dQ ax0 ay0 px0 py0 c0 c1) n) (k : Nat) (hk : 33 ≤ k) : query_Distance.f k k0 r0 ax0 ay0 m0 b0 px0 py0 vx0 vy0 c0 c1 = some (n - r0) ∧ billiardref24_Distance.f k k0 r0 ax0 ay0 m0 b0 px0 py0 vx0 vy0 c0 c1 = some (n - r0) := by
  have hr := h.r
  have hd := d_bd h h0 h1
  have hb : 0 ≤ n ∧ n ≤ 4294967295 := ⟨hn.1, hn.2.1⟩
  have hc := c_in h h0 h1
  have w : wrap64 (wrap64 n - wrap64 r0) = n - r0 := by unfold wrap64; omega
  obtain ⟨⟨w1, w2, w3, w4⟩, _⟩ := h.ends
  constructor
  · unfold query_Distance.f vec_Length.f
    rw [query_difference.is h h0 h1]
    simp only [Option.bind_some]
    rw [vec_LengthSq.far hd.1 hd.2.1]
    simp only [Option.bind_some]
    rw [show root_Isqrt.f k (dS _ _) = _ from root_Isqrt.is hn hd.2.2.1 hd.2.2.2 k hk]
    simp only [Option.bind_some]
    rw [w]
  · unfold billiardref24_Distance.f billiardref05_First.f billiardref05_Second.f
    simp only [Option.bind_some]
    rw [w1, w2, w3, w4, ref_nearest (h.rightP h0 h1), Nearest_n (h.rightP h0 h1)]
    simp only [Option.bind_some]
    have e0 : wrap64 (wrap64 (nX (px0 - ax0) (py0 - ay0) (px0 + ax0) (py0 + ay0) c0 c1) - wrap64 c0) = cX ax0 ay0 px0 py0 c0 c1 - c0 := wdiff hc.1 h0
    have e1 : wrap64 (wrap64 (nY (px0 - ax0) (py0 - ay0) (px0 + ax0) (py0 + ay0) c0 c1) - wrap64 c1) = cY ax0 ay0 px0 py0 c0 c1 - c1 := wdiff hc.2 h1
    unfold billiardref04_Length.f
    rw [e0, e1, billiardref04_LengthSq.is hd.1 hd.2.1]
    simp only [Option.bind_some]
    rw [show billiardref03_Isqrt.f k (dS _ _) = _ from billiardref03_Isqrt.is hn hd.2.2.1 hd.2.2.2 k hk]
    simp only [Option.bind_some]
    rw [w]
/-- A body's distance from a point. -/
def dst (c0 c1 : Int) (b : Bd) : Int := (query_Distance.f 200 b.f0 b.f1 b.f2.f0 b.f2.f1 b.f3 b.f4 b.f5.f0 b.f5.f1 b.f6.f0 b.f6.f1 c0 c1).getD 0
def inQ (c0 c1 : Int) (b : Bd) : Bool := decide (dQ b.f2.f0 b.f2.f1 b.f5.f0 b.f5.f1 c0 c1 ≤ b.f1 * b.f1)
structure Dst (c0 c1 : Int) (b : Bd) (n : Int) : Prop where
  rt : IsRt (dQ b.f2.f0 b.f2.f1 b.f5.f0 b.f5.f1 c0 c1) n
  eq : dst c0 c1 b = n - b.f1
theorem dst_is {c0 c1 : Int} {b : Bd} (hb : VB b) (h0 : InB c0) (h1 : InB c1) : (∃ n, Dst c0 c1 b n) ∧ ∀ k, 33 ≤ k → query_Distance.f k b.f0 b.f1 b.f2.f0 b.f2.f1 b.f3 b.f4 b.f5.f0 b.f5.f1 b.f6.f0 b.f6.f1 c0 c1 = some (dst c0 c1 b) ∧ billiardref24_Distance.f k b.f0 b.f1 b.f2.f0 b.f2.f1 b.f3 b.f4 b.f5.f0 b.f5.f1 b.f6.f0 b.f6.f1 c0 c1 = some (dst c0 c1 b) := by
  have hd := d_bd hb h0 h1
  obtain ⟨n, hn⟩ := isRt_ex _ hd.2.2.1 hd.2.2.2
  have e : dst c0 c1 b = n - b.f1 := by unfold dst; rw [(dist_is hb h0 h1 hn 200 (by omega)).1]; rfl
  exact ⟨⟨n, hn, e⟩, fun k hk => by rw [e]; exact dist_is hb h0 h1 hn k hk⟩
theorem in_is {c0 c1 : Int} {b : Bd} (hb : VB b) (h0 : InB c0) (h1 : InB c1) : inF c0 c1 b = some (inQ c0 c1 b) := (query_In.is hb h0 h1).1
/-- The keys of those that are picked. -/
theorem pick_is (F : Bd → Option Bool) (P : Bd → Bool) : ∀ l : List Bd, (∀ b ∈ l, F b = some (P b)) → pickL F l = some ((l.filter P).map (fun b => b.f0))
  | [], _ => rfl
  | b :: l, h => by
    unfold pickL
    rw [h b (by simp)]
    simp only [Option.bind_some]
    rw [pick_is F P l (fun x hx => h x (List.mem_cons_of_mem _ hx))]
    simp only [Option.bind_some]
    by_cases c : P b = true
    · rw [if_pos c, List.filter_cons_of_pos c]; rfl
    · rw [if_neg c, List.filter_cons_of_neg c]
theorem at_is {v : List Bd} (hv : Vw 40 v) {c0 c1 : Int} (h0 : InB c0) (h1 : InB c1) : query_At.f v c0 c1 = some ((v.filter (inQ c0 c1)).map (fun b => b.f0)) := by
  unfold query_At.f
  rw [if_pos (by have := hv.len; omega)]
  exact pick_is _ _ v (fun b hb => in_is (hv.good b hb).1 h0 h1)
theorem near_is {v : List Bd} (hv : Vw 40 v) {c0 c1 : Int} (h0 : InB c0) (h1 : InB c1) (r : Int) : query_Near.f v c0 c1 r = some ((v.filter (fun b => decide (dst c0 c1 b ≤ r))).map (fun b => b.f0)) := by
  unfold query_Near.f
  rw [if_pos (by have := hv.len; omega)]
  refine pick_is _ _ v (fun b hb => ?_)
  show (distF c0 c1 b).bind _ = _
  rw [show distF c0 c1 b = some (dst c0 c1 b) from ((dst_is (hv.good b hb).1 h0 h1).2 200 (by omega)).1]
  rfl
theorem awake24 : ∀ k, 200 ≤ k → billiardlaw24_awake.f k = some true := fun k hk => at_rounds billiardlaw24_awake.mono hk (by decide +kernel)
end Go.Proofs.Ytabcnaceffpekaa.Q
