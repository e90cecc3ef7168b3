/- What the reference's check of a body tells. -/
import Derived.Test.YtihgddcaljaojaaQbilliardref05
import Derived.Test.YtihgddcaljaojaaMspec
namespace Go.Proofs.Ytihgddcaljaojaa.Q
open Go.RowKit Go.Proofs.YtihgddcaljaojaaW.PrintWords Go.Proofs.YtihgddcaljaojaaW.PrintLast Go.Proofs.YtihgddcaljaojaaW.PrintMore
set_option linter.unusedVariables false
theorem billiardref05_In.is (a b : Int) (hb : -2147483647 ≤ b ∧ b ≤ 2147483647) : billiardref05_In.f a b = some (decide (-b ≤ a ∧ a ≤ b)) := by
  unfold billiardref05_In.f
  rw [w32_id (n := -b) (by omega) (by omega)]
  by_cases h : -b ≤ a
  · rw [if_pos h]
    congr 1
    rw [decide_eq_decide]
    omega
  · rw [if_neg h, decide_eq_false (by omega)]
/-- A valid body: radius, axis, inverse mass, bounce, position, velocity. -/
structure Valid (key r ax ay m b px py vx vy : Int) : Prop where
  r : 4096 ≤ r ∧ r ≤ 4194304
  ax : -4194304 ≤ ax ∧ ax ≤ 4194304
  ay : -4194304 ≤ ay ∧ ay ≤ 4194304
  m : 0 ≤ m ∧ m ≤ 1048576
  b : 0 ≤ b ∧ b ≤ 65536
  px : -1073741824 ≤ px ∧ px ≤ 1073741824
  py : -1073741824 ≤ py ∧ py ≤ 1073741824
  vx : -16777216 ≤ vx ∧ vx ≤ 16777216
  vy : -16777216 ≤ vy ∧ vy ≤ 16777216
theorem Check_cases (k : Nat) (key r ax ay m b px py vx vy : Int) : (billiardref05_Check.f (k + 5) key r ax ay m b px py vx vy = some 0 ∧ Valid key r ax ay m b px py vx vy) ∨ (∃ e, e ≠ 0 ∧ billiardref05_Check.f (k + 5) key r ax ay m b px py vx vy = some e) := by
  have i1 := billiardref05_In.is ax 4194304 (by omega)
  have i2 := billiardref05_In.is ay 4194304 (by omega)
  have i3 := billiardref05_In.is px 1073741824 (by omega)
  have i4 := billiardref05_In.is py 1073741824 (by omega)
  have i5 := billiardref05_In.is vx 16777216 (by omega)
  have i6 := billiardref05_In.is vy 16777216 (by omega)
  have e : billiardref05_Check.f (k + 5) key r ax ay m b px py vx vy = billiardref05_Check.j0 (k + 5) (!decide (4096 ≤ r ∧ r ≤ 4194304)) key r ax ay m b px py vx vy := by
    unfold billiardref05_Check.f
    by_cases c : r < 4096
    · rw [if_pos c, decide_eq_false (by omega)]; rfl
    · rw [if_neg c]
      by_cases d : r > 4194304
      · rw [decide_eq_true d, decide_eq_false (by omega)]; rfl
      · rw [decide_eq_false d, decide_eq_true (by omega)]; rfl
  rw [e]
  by_cases c1 : 4096 ≤ r ∧ r ≤ 4194304
  rotate_left
  · rw [decide_eq_false c1]; exact Or.inr ⟨4, by decide, rfl⟩
  rw [decide_eq_true c1]
  have e2 : billiardref05_Check.j0 (k + 5) (!true) key r ax ay m b px py vx vy = billiardref05_Check.j1 (k + 4) (!decide ((-4194304 ≤ ax ∧ ax ≤ 4194304) ∧ (-4194304 ≤ ay ∧ ay ≤ 4194304))) key r ax ay m b px py vx vy := by
    simp only [billiardref05_Check.j0]
    rw [i1, i2]
    by_cases c : -4194304 ≤ ax ∧ ax ≤ 4194304
    · rw [decide_eq_true c]
      by_cases d : -4194304 ≤ ay ∧ ay ≤ 4194304
      · rw [decide_eq_true d, decide_eq_true ⟨c, d⟩]; rfl
      · rw [decide_eq_false d, show decide ((-4194304 ≤ ax ∧ ax ≤ 4194304) ∧ (-4194304 ≤ ay ∧ ay ≤ 4194304)) = false from decide_eq_false (fun h => d h.2)]; rfl
    · rw [decide_eq_false c, show decide ((-4194304 ≤ ax ∧ ax ≤ 4194304) ∧ (-4194304 ≤ ay ∧ ay ≤ 4194304)) = false from decide_eq_false (fun h => c h.1)]; rfl
  rw [e2]
  by_cases c2 : (-4194304 ≤ ax ∧ ax ≤ 4194304) ∧ (-4194304 ≤ ay ∧ ay ≤ 4194304)
  rotate_left
  · rw [decide_eq_false c2]; exact Or.inr ⟨5, by decide, rfl⟩
  rw [decide_eq_true c2]
  have e3 : billiardref05_Check.j1 (k + 4) (!true) key r ax ay m b px py vx vy = billiardref05_Check.j2 (k + 3) (!decide (0 ≤ m ∧ m ≤ 1048576)) key r ax ay m b px py vx vy := by
    simp only [billiardref05_Check.j1]
    rw [if_neg (by decide)]
    by_cases c : m < 0
    · rw [if_pos c, decide_eq_false (by omega)]; rfl
    · rw [if_neg c]
      by_cases d : m > 1048576
      · rw [decide_eq_true d, decide_eq_false (by omega)]; rfl
      · rw [decide_eq_false d, decide_eq_true (by omega)]; rfl
  rw [e3]
  by_cases c3 : 0 ≤ m ∧ m ≤ 1048576
  rotate_left
  · rw [decide_eq_false c3]; exact Or.inr ⟨6, by decide, rfl⟩
  rw [decide_eq_true c3]
  have e4 : billiardref05_Check.j2 (k + 3) (!true) key r ax ay m b px py vx vy = billiardref05_Check.j3 (k + 2) (!decide (0 ≤ b ∧ b ≤ 65536)) key r ax ay m b px py vx vy := by
    simp only [billiardref05_Check.j2]
    rw [if_neg (by decide)]
    by_cases c : b < 0
    · rw [if_pos c, decide_eq_false (by omega)]; rfl
    · rw [if_neg c]
      by_cases d : b > 65536
      · rw [decide_eq_true d, decide_eq_false (by omega)]; rfl
      · rw [decide_eq_false d, decide_eq_true (by omega)]; rfl
  rw [e4]
  by_cases c4 : 0 ≤ b ∧ b ≤ 65536
  rotate_left
  · rw [decide_eq_false c4]; exact Or.inr ⟨7, by decide, rfl⟩
  rw [decide_eq_true c4]
  have e5 : billiardref05_Check.j3 (k + 2) (!true) key r ax ay m b px py vx vy = billiardref05_Check.j4 (k + 1) (!decide ((-1073741824 ≤ px ∧ px ≤ 1073741824) ∧ (-1073741824 ≤ py ∧ py ≤ 1073741824))) key r ax ay m b px py vx vy := by
    simp only [billiardref05_Check.j3]
    rw [i3, i4]
    by_cases c : -1073741824 ≤ px ∧ px ≤ 1073741824
    · rw [decide_eq_true c]
      by_cases d : -1073741824 ≤ py ∧ py ≤ 1073741824
      · rw [decide_eq_true d, decide_eq_true ⟨c, d⟩]; rfl
      · rw [decide_eq_false d, show decide ((-1073741824 ≤ px ∧ px ≤ 1073741824) ∧ (-1073741824 ≤ py ∧ py ≤ 1073741824)) = false from decide_eq_false (fun h => d h.2)]; rfl
    · rw [decide_eq_false c, show decide ((-1073741824 ≤ px ∧ px ≤ 1073741824) ∧ (-1073741824 ≤ py ∧ py ≤ 1073741824)) = false from decide_eq_false (fun h => c h.1)]; rfl
  rw [e5]
  by_cases c5 : (-1073741824 ≤ px ∧ px ≤ 1073741824) ∧ (-1073741824 ≤ py ∧ py ≤ 1073741824)
  rotate_left
  · rw [decide_eq_false c5]; exact Or.inr ⟨8, by decide, rfl⟩
  rw [decide_eq_true c5]
  simp only [billiardref05_Check.j4]
  rw [i5, i6]
  by_cases c6 : -16777216 ≤ vx ∧ vx ≤ 16777216
  · rw [decide_eq_true c6]
    by_cases c7 : -16777216 ≤ vy ∧ vy ≤ 16777216
    · rw [decide_eq_true c7]
      exact Or.inl ⟨rfl, c1, c2.1, c2.2, c3, c4, c5.1, c5.2, c6, c7⟩
    · rw [decide_eq_false c7]; exact Or.inr ⟨9, by decide, rfl⟩
  · rw [decide_eq_false c6]; exact Or.inr ⟨9, by decide, rfl⟩
end Go.Proofs.Ytihgddcaljaojaa.Q
