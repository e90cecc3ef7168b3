/- What the functions on boxes return, in plain words. -/
import Derived.Test.YticjhncpglcgnaaDoorQbox
import Derived.Test.YticjhncpglcgnaaDoorQbilliardref08
import Derived.Test.YticjhncpglcgnaaDoorMbase
namespace Go.Proofs.YticjhncpglcgnaaDoor.Q
open Go.RowKit Go.Proofs.YticjhncpglcgnaaDoorW.PrintWords Go.Proofs.YticjhncpglcgnaaDoorW.PrintLast Go.Proofs.YticjhncpglcgnaaDoorW.PrintMore
set_option linter.unusedVariables false
theorem box_mx (a b : Int) : mx a b = if a < b then b else a := by unfold mx; omega
theorem box_mn (a b : Int) : mn a b = if a < b then a else b := by unfold mn; omega
theorem mx_comm (a b : Int) : mx a b = mx b a := by unfold mx; omega
theorem mn_comm (a b : Int) : mn a b = mn b a := by unfold mn; omega
/-- A box has no point. -/
def emptyB (a b c d : Int) : Bool := decide (a > c ∨ b > d)
theorem emptyB_iff {a b c d : Int} : emptyB a b c d = true ↔ (a > c ∨ b > d) := by simp [emptyB]
theorem emptyB_no {a b c d : Int} : emptyB a b c d = false ↔ (a ≤ c ∧ b ≤ d) := by
  simp [emptyB]
theorem box_Empty.is (a b c d : Int) : box_Empty.f a b c d = some (emptyB a b c d) := by
  unfold box_Empty.f emptyB
  by_cases h : a > c
  · rw [if_pos h, decide_eq_true (Or.inl h)]
  · rw [if_neg h]; congr 1; rw [decide_eq_decide]; omega
theorem billiardref08_Empty.is (a b c d : Int) : billiardref08_Empty.f a b c d = some (emptyB a b c d) := by
  unfold billiardref08_Empty.f emptyB
  by_cases h : a > c
  · rw [if_pos h, decide_eq_true (Or.inl h)]
  · rw [if_neg h]; congr 1; rw [decide_eq_decide]; omega
def meetB (a b c d e f g h : Int) : Int × Int × Int × Int := if emptyB (mx a e) (mx b f) (mn c g) (mn d h) = true then (1, 0, 0, 0) else (mx a e, mx b f, mn c g, mn d h)
theorem box_Meet.is (a b c d e f g h : Int) : box_Meet.f a b c d e f g h = some (meetB a b c d e f g h) := by
  unfold box_Meet.f meetB
  rw [box_Empty.is, Option.bind_some]
  split <;> rfl
theorem meetB_comm (a b c d e f g h : Int) : meetB a b c d e f g h = meetB e f g h a b c d := by
  unfold meetB
  rw [mx_comm a e, mx_comm b f, mn_comm c g, mn_comm d h]
def overB (a b c d e f g h : Int) : Bool := !emptyB (mx a e) (mx b f) (mn c g) (mn d h)
theorem overB_comm (a b c d e f g h : Int) : overB a b c d e f g h = overB e f g h a b c d := by
  unfold overB
  rw [mx_comm a e, mx_comm b f, mn_comm c g, mn_comm d h]
theorem overB_iff {a b c d e f g h : Int} : overB a b c d e f g h = true ↔ (a ≤ c ∧ b ≤ d ∧ e ≤ g ∧ f ≤ h ∧ a ≤ g ∧ e ≤ c ∧ b ≤ h ∧ f ≤ d) := by
  unfold overB
  rw [Bool.not_eq_true', emptyB_no]
  simp only [box_mx, box_mn]
  split <;> split <;> split <;> split <;> omega
theorem box_Overlap.is (a b c d e f g h : Int) : box_Overlap.f a b c d e f g h = some (overB a b c d e f g h) := by
  unfold box_Overlap.f
  rw [box_Meet.is, Option.bind_some, box_Empty.is, Option.bind_some]
  unfold meetB overB
  by_cases k : emptyB (mx a e) (mx b f) (mn c g) (mn d h) = true
  · rw [if_pos k, k]; rfl
  · rw [if_neg k]
theorem meetB_empty (a b c d e f g h : Int) : emptyB (meetB a b c d e f g h).1 (meetB a b c d e f g h).2.1 (meetB a b c d e f g h).2.2.1 (meetB a b c d e f g h).2.2.2 = !overB a b c d e f g h := by
  unfold meetB overB
  by_cases k : emptyB (mx a e) (mx b f) (mn c g) (mn d h) = true
  · rw [if_pos k, k]; rfl
  · rw [if_neg k, Bool.not_not]
def inB (a b c d p q : Int) : Bool := decide ((a ≤ p ∧ p ≤ c) ∧ b ≤ q ∧ q ≤ d)
theorem inB_iff {a b c d p q : Int} : inB a b c d p q = true ↔ ((a ≤ p ∧ p ≤ c) ∧ b ≤ q ∧ q ≤ d) := by simp [inB]
theorem box_between.is (a x b : Int) : box_between_int32.f a x b = some (decide (a ≤ x ∧ x ≤ b)) := by
  unfold box_between_int32.f
  by_cases h : a ≤ x
  · rw [if_pos h]; congr 1; rw [decide_eq_decide]; omega
  · rw [if_neg h, decide_eq_false (by omega)]
theorem box_Contains.is (a b c d p q : Int) : box_Contains.f a b c d p q = some (inB a b c d p q) := by
  unfold box_Contains.f inB
  rw [box_between.is, box_between.is, Option.bind_some, Option.bind_some]
  by_cases h : a ≤ p ∧ p ≤ c
  · rw [decide_eq_true h, if_pos rfl]; congr 1; rw [decide_eq_decide]; omega
  · rw [decide_eq_false h, if_neg (by decide), decide_eq_false (by omega)]
theorem billiardref08_Contains.is (a b c d p q : Int) : billiardref08_Contains.f a b c d p q = some (inB a b c d p q) := by
  unfold billiardref08_Contains.f inB
  by_cases h1 : p ≥ a
  · rw [if_pos h1]
    by_cases h2 : p ≤ c
    · rw [if_pos h2]
      by_cases h3 : q ≥ b
      · rw [if_pos h3]; congr 1; rw [decide_eq_decide]; omega
      · rw [if_neg h3, decide_eq_false (by omega)]
    · rw [if_neg h2, decide_eq_false (by omega)]
  · rw [if_neg h1, decide_eq_false (by omega)]
theorem billiardref08_Overlap.is (a b c d e f g h : Int) : billiardref08_Overlap.f a b c d e f g h = some (overB a b c d e f g h) := by
  unfold billiardref08_Overlap.f
  rw [billiardref08_Empty.is, billiardref08_Empty.is, Option.bind_some, Option.bind_some]
  have key := @overB_iff a b c d e f g h
  have no : ¬ (a ≤ c ∧ b ≤ d ∧ e ≤ g ∧ f ≤ h ∧ a ≤ g ∧ e ≤ c ∧ b ≤ h ∧ f ≤ d) → overB a b c d e f g h = false := fun n => by
    cases hh : overB a b c d e f g h
    · rfl
    · exact absurd (key.mp hh) n
  by_cases k1 : emptyB a b c d = true
  · rw [if_pos k1, no (by have := emptyB_iff.mp k1; omega)]
  · have n1 := emptyB_no.mp (Bool.eq_false_iff.mpr k1)
    rw [if_neg k1]
    by_cases k2 : emptyB e f g h = true
    · rw [if_pos k2, no (by have := emptyB_iff.mp k2; omega)]
    · have n2 := emptyB_no.mp (Bool.eq_false_iff.mpr k2)
      rw [if_neg k2]
      by_cases h1 : a ≤ g
      · rw [if_pos h1]
        by_cases h2 : e ≤ c
        · rw [if_pos h2]
          by_cases h3 : b ≤ h
          · rw [if_pos h3]
            by_cases h4 : f ≤ d
            · rw [decide_eq_true h4, key.mpr (by omega)]
            · rw [decide_eq_false h4, no (by omega)]
          · rw [if_neg h3, no (by omega)]
        · rw [if_neg h2, no (by omega)]
      · rw [if_neg h1, no (by omega)]
/-- The half edges of a valid body's box. -/
def absI (a : Int) : Int := if a < 0 then -a else a
theorem body_abs.is {a : Int} (h : -2147483647 ≤ a ∧ a ≤ 2147483647) : body_abs.f a = some (absI a) := by
  unfold body_abs.f absI
  rw [w32_id (by omega) (by omega), box_mx]
  congr 1
  split <;> split <;> omega
def ofB (r ax ay px py : Int) : Int × Int × Int × Int := (px - (absI ax + r), py - (absI ay + r), px + (absI ax + r), py + (absI ay + r))
theorem box_Of.is {key r ax ay m b px py vx vy : Int} (hr : 0 ≤ r ∧ r ≤ 4194304) (hx : -4194304 ≤ ax ∧ ax ≤ 4194304) (hy : -4194304 ≤ ay ∧ ay ≤ 4194304) (hp : -1073741824 ≤ px ∧ px ≤ 1073741824) (hq : -1073741824 ≤ py ∧ py ≤ 1073741824) :
    box_Of.f key r ax ay m b px py vx vy = some (ofB r ax ay px py) := by
  have ex : 0 ≤ absI ax ∧ absI ax ≤ 4194304 := by unfold absI; split <;> omega
  have ey : 0 ≤ absI ay ∧ absI ay ≤ 4194304 := by unfold absI; split <;> omega
  unfold box_Of.f body_Extent.f
  rw [body_abs.is (by omega), body_abs.is (by omega)]
  simp only [Option.bind_some]
  rw [w32_id (n := absI ax + r) (by omega) (by omega), w32_id (n := absI ay + r) (by omega) (by omega), w32_id (by omega) (by omega), w32_id (by omega) (by omega), w32_id (by omega) (by omega), w32_id (by omega) (by omega)]
  rfl
theorem billiardref08_Of.is {key r ax ay m b px py vx vy : Int} (hr : 0 ≤ r ∧ r ≤ 4194304) (hx : -4194304 ≤ ax ∧ ax ≤ 4194304) (hy : -4194304 ≤ ay ∧ ay ≤ 4194304) (hp : -1073741824 ≤ px ∧ px ≤ 1073741824) (hq : -1073741824 ≤ py ∧ py ≤ 1073741824) :
    billiardref08_Of.f key r ax ay m b px py vx vy = some (ofB r ax ay px py) := by
  have ex : 0 ≤ absI ax ∧ absI ax ≤ 4194304 := by unfold absI; split <;> omega
  have ey : 0 ≤ absI ay ∧ absI ay ≤ 4194304 := by unfold absI; split <;> omega
  have ab : ∀ n : Int, -4194304 ≤ n ∧ n ≤ 4194304 → billiardref05_Abs.f n = some (absI n) := fun n hn => by
    unfold billiardref05_Abs.f absI
    by_cases c : n < 0
    · rw [if_pos c, if_pos c, w32_id (by omega) (by omega)]
    · rw [if_neg c, if_neg c]
  unfold billiardref08_Of.f
  rw [ab ax hx, ab ay hy]
  simp only [Option.bind_some]
  rw [w32_id (n := absI ax + r) (by omega) (by omega), w32_id (n := absI ay + r) (by omega) (by omega), w32_id (by omega) (by omega), w32_id (by omega) (by omega), w32_id (by omega) (by omega), w32_id (by omega) (by omega)]
  rfl
end Go.Proofs.YticjhncpglcgnaaDoor.Q
