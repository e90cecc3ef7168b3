/- Two valid bodies whose boxes overlap have a cell in common; the box of a body has at most 25 cells: for all bodies. -/
import Derived.Test.YticjhncpglcgnaaDoorQCellBodies
import Derived.Test.YticjhncpglcgnaaDoorMcell
import Derived.Test.YticjhncpglcgnaaDoorMbody
namespace Go.Proofs.YticjhncpglcgnaaDoor.Pure
open Go.RowKit Go.Proofs.YticjhncpglcgnaaDoor.Q Go.Proofs.YticjhncpglcgnaaDoorW.PrintWords Go.Proofs.YticjhncpglcgnaaDoorW.PrintLast
theorem bodies_row (L M : List C29) (hL : L.length ≤ 25) (hM : M.length ≤ 25) (a : Nat) (ha : a < L.length) (K : Nat) (e : Nat) : ∀ c : Nat, c + e = M.length →
    billiardlaw09_CellBodies.l1 (K + e + 1) L M (a : Int) (c : Int) = some true ∨ (billiardlaw09_CellBodies.l1 (K + e + 1) L M (a : Int) (c : Int) = billiardlaw09_CellBodies.l0 K L M ((a + 1 : Nat) : Int) ∧ ∀ j (h : j < M.length), c ≤ j → L[a] ≠ M[j]) := by
  induction e with
  | zero =>
    intro c hc
    right
    refine ⟨?_, fun j h hj => by omega⟩
    simp only [billiardlaw09_CellBodies.l1]
    rw [if_neg (by omega), w64_id (by omega) (by omega)]
    congr 1
  | succ e ih =>
    intro c hc
    have hlt : c < M.length := by omega
    have st : ∀ n, billiardlaw09_CellBodies.l1 (n + 1) L M (a : Int) (c : Int) = if (L[a].f0 == M[c].f0 && (L[a].f1 == M[c].f1)) = true then some true else billiardlaw09_CellBodies.l1 n L M (a : Int) ((c + 1 : Nat) : Int) := fun n => by
      simp only [billiardlaw09_CellBodies.l1]
      rw [if_pos (show (c : Int) < (M.length : Int) by omega), if_pos (show (0 : Int) ≤ a by omega), if_pos (show (a : Int) < (L.length : Int) by omega), if_pos (show (0 : Int) ≤ c by omega), rd_of_lt ha, rd_of_lt hlt, w64_id (n := (c : Int) + 1) (by omega) (by omega)]
      rfl
    rw [show K + (e + 1) + 1 = K + e + 1 + 1 by omega, st]
    by_cases h : L[a] = M[c]
    · left
      rw [if_pos (c29_ext.mpr h)]
    · rw [if_neg (fun k => h (c29_ext.mp k))]
      rcases ih (c + 1) (by omega) with i | ⟨i, i2⟩
      · left; exact i
      · right
        refine ⟨i, fun j hj hcj => ?_⟩
        rcases Nat.eq_or_lt_of_le hcj with z | z
        · subst z; exact h
        · exact i2 j hj z
theorem bodies_loop (L M : List C29) (hL : L.length ≤ 25) (hM : M.length ≤ 25) (i j : Nat) (hi : i < L.length) (hj : j < M.length) (h : L[i] = M[j]) (d : Nat) : ∀ a : Nat, a + d = L.length → a ≤ i → ∀ k,
    billiardlaw09_CellBodies.l0 (k + d * (M.length + 2)) L M (a : Int) = some true := by
  induction d with
  | zero => intro a ha hai; omega
  | succ d ih =>
    intro a ha hai k
    rw [show k + (d + 1) * (M.length + 2) = (k + d * (M.length + 2)) + M.length + 1 + 1 by rw [Nat.succ_mul]; omega]
    simp only [billiardlaw09_CellBodies.l0]
    rw [if_pos (by omega)]
    rcases bodies_row L M hL hM a (by omega) (k + d * (M.length + 2)) M.length 0 (by omega) with e | ⟨e, e2⟩
    · exact e
    · have e' : billiardlaw09_CellBodies.l1 (k + d * (M.length + 2) + M.length + 1) L M (a : Int) 0 = _ := e
      rw [e']
      refine ih (a + 1) (by omega) ?_ k
      rcases Nat.eq_or_lt_of_le hai with z | z
      · subst z; exact absurd h (e2 j hj (by omega))
      · exact z
theorem CellBodies : billiardlaw09_CellBodies.Pure := by
  intro key r ax ay m b px py vx vy key' r' ax' ay' m' b' px' py' vx' vy' _ _ _ _ _ _ _ _ _ _ _ _ _ _ _ _ _ _ _ _
  refine ⟨300 + 700, ?_⟩
  have aw : ∀ n, 300 ≤ n → billiardlaw09_awake.f n = some true := fun n hn => by
    rw [show n = 300 + (n - 300) by omega]; exact awake_k _
  have out : ∀ x1 x2 x3 x4 x5 x6 x7 x8 x9 x10 y1 y2 y3 y4 y5 y6 y7 y8 y9 y10 : Int, billiardlaw09_CellBodies.j0 (300 + 700) true x1 x2 x3 x4 x5 x6 x7 x8 x9 x10 y1 y2 y3 y4 y5 y6 y7 y8 y9 y10 = some true := fun x1 x2 x3 x4 x5 x6 x7 x8 x9 x10 y1 y2 y3 y4 y5 y6 y7 y8 y9 y10 => by
    rw [show 300 + 700 = 999 + 1 from rfl]
    simp only [billiardlaw09_CellBodies.j0]
    rw [if_pos trivial, aw 999 (by decide)]
    rfl
  unfold billiardlaw09_CellBodies.f
  rw [aw _ (by decide), Option.bind_some, if_pos rfl]
  rcases Check_cases (300 + 695) key r ax ay m b px py vx vy with ⟨e1, V⟩ | ⟨x, hx, e1⟩
  rotate_left
  · rw [e1, Option.bind_some, if_neg hx]; exact out ..
  rw [e1, Option.bind_some, if_pos rfl]
  rcases Check_cases (300 + 695) key' r' ax' ay' m' b' px' py' vx' vy' with ⟨e2, V2⟩ | ⟨x, hx, e2⟩
  rotate_left
  · rw [e2, Option.bind_some, bne_iff_ne.mpr hx]; exact out ..
  rw [e2, Option.bind_some]
  have hr := V.r
  have hx := V.ax
  have hy := V.ay
  have hp := V.px
  have hq := V.py
  have hr' := V2.r
  have hx' := V2.ax
  have hy' := V2.ay
  have hp' := V2.px
  have hq' := V2.py
  have o1 := @box_Of.is key r ax ay m b px py vx vy (by omega) hx hy hp hq
  have o2 := @box_Of.is key' r' ax' ay' m' b' px' py' vx' vy' (by omega) hx' hy' hp' hq'
  have o3 := @billiardref08_Of.is key r ax ay m b px py vx vy (by omega) hx hy hp hq
  have o4 := @billiardref08_Of.is key' r' ax' ay' m' b' px' py' vx' vy' (by omega) hx' hy' hp' hq'
  have ex : 0 ≤ absI ax ∧ absI ax ≤ 4194304 := by unfold absI; split <;> omega
  have ey : 0 ≤ absI ay ∧ absI ay ≤ 4194304 := by unfold absI; split <;> omega
  have ex' : 0 ≤ absI ax' ∧ absI ax' ≤ 4194304 := by unfold absI; split <;> omega
  have ey' : 0 ≤ absI ay' ∧ absI ay' ≤ 4194304 := by unfold absI; split <;> omega
  unfold ofB at o1 o2 o3 o4
  generalize absI ax = u at *
  generalize absI ay = v at *
  generalize absI ax' = u' at *
  generalize absI ay' = v' at *
  have n1 : emptyB (px - (u + r)) (py - (v + r)) (px + (u + r)) (py + (v + r)) = false := emptyB_no.mpr (by omega)
  have n2 : emptyB (px' - (u' + r')) (py' - (v' + r')) (px' + (u' + r')) (py' + (v' + r')) = false := emptyB_no.mpr (by omega)
  obtain ⟨L, hL⟩ : ∃ L, boxC (px - (u + r)) (py - (v + r)) (px + (u + r)) (py + (v + r)) = L := ⟨_, rfl⟩
  obtain ⟨M, hM⟩ : ∃ L, boxC (px' - (u' + r')) (py' - (v' + r')) (px' + (u' + r')) (py' + (v' + r')) = L := ⟨_, rfl⟩
  have l1 : L.length ≤ 25 := by
    rw [← hL, boxC_len]
    have h1 : (py + (v + r)) / 4194304 + 1 - (py - (v + r)) / 4194304 ≤ 5 := by omega
    have h2 : (px + (u + r)) / 4194304 + 1 - (px - (u + r)) / 4194304 ≤ 5 := by omega
    exact Nat.mul_le_mul (Int.toNat_le.mpr h1) (Int.toNat_le.mpr h2)
  have l2 : M.length ≤ 25 := by
    rw [← hM, boxC_len]
    have h1 : (py' + (v' + r')) / 4194304 + 1 - (py' - (v' + r')) / 4194304 ≤ 5 := by omega
    have h2 : (px' + (u' + r')) / 4194304 + 1 - (px' - (u' + r')) / 4194304 ≤ 5 := by omega
    exact Nat.mul_le_mul (Int.toNat_le.mpr h1) (Int.toNat_le.mpr h2)
  have l3 : 0 < L.length := by
    rw [← hL, boxC_len]
    exact Nat.mul_pos (by omega) (by omega)
  have a1 := @cell_All.is (px - (u + r)) (py - (v + r)) (px + (u + r)) (py + (v + r)) (by omega) (by omega) (by omega) (by omega)
  have a2 := @cell_All.is (px' - (u' + r')) (py' - (v' + r')) (px' + (u' + r')) (py' + (v' + r')) (by omega) (by omega) (by omega) (by omega)
  rw [n1, if_neg (by decide), hL] at a1
  rw [n2, if_neg (by decide), hM] at a2
  rw [show 300 + 700 = 998 + 1 + 1 from rfl]
  simp only [billiardlaw09_CellBodies.j0, bne_self_eq_false, Bool.false_eq_true, if_false]
  rw [o1, o2]
  simp only [Option.bind_some]
  rw [a1, a2]
  simp only [Option.bind_some]
  rw [if_neg (by omega), if_neg (by omega)]
  have z : (((L.length : Nat) : Int) == 0) = false := by
    rw [beq_eq_false_iff_ne]; omega
  rw [z]
  simp only [billiardlaw09_CellBodies.j1, Bool.false_eq_true, if_false]
  rw [o3, o4]
  simp only [Option.bind_some, billiardref08_Overlap.is]
  by_cases ho : overB (px - (u + r)) (py - (v + r)) (px + (u + r)) (py + (v + r)) (px' - (u' + r')) (py' - (v' + r')) (px' + (u' + r')) (py' + (v' + r')) = true
  · rw [if_pos ho]
    have ho := overB_iff.mp ho
    obtain ⟨sx, hsx⟩ : ∃ s, s = if px - (u + r) < px' - (u' + r') then px' - (u' + r') else px - (u + r) := ⟨_, rfl⟩
    obtain ⟨sy, hsy⟩ : ∃ s, s = if py - (v + r) < py' - (v' + r') then py' - (v' + r') else py - (v + r) := ⟨_, rfl⟩
    have bx : px - (u + r) ≤ sx ∧ sx ≤ px + (u + r) ∧ px' - (u' + r') ≤ sx ∧ sx ≤ px' + (u' + r') := by split at hsx <;> omega
    have by_ : py - (v + r) ≤ sy ∧ sy ≤ py + (v + r) ∧ py' - (v' + r') ≤ sy ∧ sy ≤ py' + (v' + r') := by split at hsy <;> omega
    have m1 : (⟨sx / 4194304, sy / 4194304⟩ : C29) ∈ L := by
      rw [← hL]; exact (mem_boxC (by omega) (by omega)).mpr (by simp only; omega)
    have m2 : (⟨sx / 4194304, sy / 4194304⟩ : C29) ∈ M := by
      rw [← hM]; exact (mem_boxC (by omega) (by omega)).mpr (by simp only; omega)
    obtain ⟨i, hi, ei⟩ := List.getElem_of_mem m1
    obtain ⟨j, hj, ej⟩ := List.getElem_of_mem m2
    have hb : L.length * (M.length + 2) ≤ 25 * 27 := Nat.mul_le_mul l1 (by omega)
    have := bodies_loop L M l1 l2 i j hi hj (ei.trans ej.symm) L.length 0 (by omega) (by omega) (998 - L.length * (M.length + 2))
    rw [show 998 - L.length * (M.length + 2) + L.length * (M.length + 2) = 998 by omega] at this
    exact this
  · rw [if_neg ho]
end Go.Proofs.YticjhncpglcgnaaDoor.Pure
