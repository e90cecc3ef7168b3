/- The components of a unit vector have the signs of the difference, and are from -2^16 to 2^16; for differences of at least 2^12, its length is one up to a thousandth. No condition. -/
import Derived.Test.YtjgeakahbelgiaaQVecUnit
import Derived.Test.YtjgeakahbelgiaaMlaw04
namespace Go.Proofs.Ytjgeakahbelgiaa.Pure
open Go.RowKit Go.Proofs.Ytjgeakahbelgiaa.Q Go.Proofs.YtjgeakahbelgiaaW.PrintWords Go.Proofs.YtjgeakahbelgiaaW.PrintLast
set_option linter.unusedVariables false

theorem unit_ring (n D u v e f P Q : Int) (h1 : P = u * n + e) (h2 : Q = v * n + f) (h3 : P * P + Q * Q = 4294967296 * D) : (n * n) * (u * u + v * v) = 4294967296 * D - 2 * (n * (u * e + v * f)) - (e * e + f * f) := by grind

/-- A component of the unit vector: its sign, its size, what it misses. -/
theorem unit_comp {d n : Int} (hn : 0 < n) (h0 : -n ≤ d) (h1 : d ≤ n) : (0 ≤ d → 0 ≤ d * 65536 / n) ∧ (d < 0 → d * 65536 / n < 0) ∧ 0 ≤ d * 65536 - d * 65536 / n * n ∧ d * 65536 - d * 65536 / n * n < n := by
  have a := Int.emod_add_mul_ediv (d * 65536) n
  have b := Int.emod_nonneg (d * 65536) (show n ≠ 0 by omega)
  have c := Int.emod_lt_of_pos (d * 65536) hn
  rw [Int.mul_comm n] at a
  refine ⟨fun h => Int.ediv_nonneg (by omega) (by omega), fun h => Int.ediv_neg_of_neg_of_pos (by omega) hn, by omega, by omega⟩

theorem ue_bd {u e n : Int} (hn : 0 < n) (u0 : -65536 ≤ u) (u1 : u ≤ 65536) (e0 : 0 ≤ e) (e1 : e < n) : -(65536 * n) ≤ u * e ∧ u * e ≤ 65536 * n := by
  have a : u * e ≤ 65536 * e := Int.mul_le_mul_of_nonneg_right u1 e0
  have b : (-65536) * e ≤ u * e := Int.mul_le_mul_of_nonneg_right u0 e0
  omega

theorem unit_len {x y n : Int} (hn : IsRt (x * x + y * y) n) (h : 4096 ≤ n) :
    let u := x * 65536 / n; let v := y * 65536 / n
    4290672329 ≤ u * u + v * v ∧ u * u + v * v ≤ 4299262263 := by
  obtain ⟨⟨x0, x1⟩, ⟨y0, y1⟩⟩ := hn.comp
  obtain ⟨_, _, g2, g3⟩ := hn
  obtain ⟨_, _, e0, e1⟩ := unit_comp (d := x) (n := n) (by omega) x0 x1
  obtain ⟨_, _, f0, f1⟩ := unit_comp (d := y) (n := n) (by omega) y0 y1
  obtain ⟨u0, u1⟩ := unit_part (d := x) (n := n) (by omega) x0 x1
  obtain ⟨v0, v1⟩ := unit_part (d := y) (n := n) (by omega) y0 y1
  intro u v
  obtain ⟨e, he⟩ : ∃ e, e = x * 65536 - x * 65536 / n * n := ⟨_, rfl⟩
  obtain ⟨f, hf⟩ : ∃ f, f = y * 65536 - y * 65536 / n * n := ⟨_, rfl⟩
  rw [← he] at e0 e1
  rw [← hf] at f0 f1
  have hu : u = x * 65536 / n := rfl
  have hv : v = y * 65536 / n := rfl
  rw [← hu] at he u0 u1
  rw [← hv] at hf v0 v1
  clear_value u v
  have R := unit_ring n (x * x + y * y) u v e f (x * 65536) (y * 65536) (by omega) (by omega) (by grind)
  have a := ue_bd (by omega) u0 u1 e0 e1
  have b := ue_bd (by omega) v0 v1 f0 f1
  have c1 : n * (u * e + v * f) ≤ n * (131072 * n) := Int.mul_le_mul_of_nonneg_left (by omega) (by omega)
  have c2 : n * (-(131072 * n)) ≤ n * (u * e + v * f) := Int.mul_le_mul_of_nonneg_left (by omega) (by omega)
  have d1 : n * (131072 * n) = 131072 * (n * n) := by grind
  have d2 : n * (-(131072 * n)) = -(131072 * (n * n)) := by grind
  have ee : e * e ≤ n * n := sq_mono e0 (by omega)
  have ff : f * f ≤ n * n := sq_mono f0 (by omega)
  have e2 := sq_nn e
  have f2 := sq_nn f
  have nn : 4096 * n ≤ n * n := Int.mul_le_mul_of_nonneg_right h (by omega)
  have k : (n + 1) * (n + 1) = n * n + 2 * n + 1 := by rw [Int.add_mul, Int.mul_add]; omega
  obtain ⟨S, hS⟩ : ∃ S, S = u * u + v * v := ⟨_, rfl⟩
  rw [← hS] at R ⊢
  obtain ⟨N, hN⟩ : ∃ N, N = n * n := ⟨_, rfl⟩
  rw [← hN] at R g2 nn k d1 d2 ee ff
  have N0 : 0 < N := by omega
  constructor
  · by_cases q : 4290672329 ≤ S
    · exact q
    · have : N * S ≤ N * 4290672328 := Int.mul_le_mul_of_nonneg_left (by omega) (by omega)
      omega
  · by_cases q : S ≤ 4299262263
    · exact q
    · have : N * 4299262264 ≤ N * S := Int.mul_le_mul_of_nonneg_left (by omega) (by omega)
      omega

theorem unit_j2 (n u v : Int) (hu : -65536 ≤ u ∧ u ≤ 65536) (hv : -65536 ≤ v ∧ v ≤ 65536) (h : 4096 ≤ n → 4290672329 ≤ u * u + v * v ∧ u * u + v * v ≤ 4299262263) (k : Nat) : billiardlaw04_VecUnit.j2 (k + 1) n false u v = some true := by
  have a := sq_le hu.1 hu.2
  have b := sq_le hv.1 hv.2
  have c := sq_nn u
  have d := sq_nn v
  simp only [billiardlaw04_VecUnit.j2]
  rw [if_neg (by decide), w64_id (n := u) (by omega) (by omega), w64_id (n := v) (by omega) (by omega), vec_LengthSq.is (by omega)]
  simp only [Option.bind_some]
  rw [w64_id (by omega) (by omega)]
  by_cases e : n < 4096
  · rw [if_pos e]
  · obtain ⟨h1, h2⟩ := h (by omega)
    rw [if_neg e, if_pos h1, decide_eq_true h2]

theorem unit_j1 (x y n : Int) (hx : -2181038080 ≤ x ∧ x ≤ 2181038080) (hy : -2181038080 ≤ y ∧ y ≤ 2181038080) (hn : IsRt (x * x + y * y) n) (k : Nat) (hk : 34 ≤ k) :
    billiardlaw04_VecUnit.j1 (k + 1) x y false (unitS n x y).1 (unitS n x y).2 = some true := by
  obtain ⟨k, rfl⟩ : ∃ m, k = m + 1 := ⟨k - 1, by omega⟩
  have hs := in_sq hx hy
  obtain ⟨⟨x0, x1⟩, ⟨y0, y1⟩⟩ := hn.comp
  have n0 := hn.1
  simp only [billiardlaw04_VecUnit.j1]
  rw [if_neg (by decide), vec_Length.is hn (by omega) _ (by omega)]
  simp only [Option.bind_some]
  by_cases c : n = 0
  · rw [if_pos c]
    simp [unitS, c]
  · rw [if_neg c]
    simp only [unitS, if_neg c]
    obtain ⟨p1, p2, _, _⟩ := unit_comp (d := x) (n := n) (by omega) x0 x1
    obtain ⟨q1, q2, _, _⟩ := unit_comp (d := y) (n := n) (by omega) y0 y1
    have hu := unit_part (d := x) (n := n) (by omega) x0 x1
    have hv := unit_part (d := y) (n := n) (by omega) y0 y1
    have key := unit_j2 n (x * 65536 / n) (y * 65536 / n) hu hv (fun h => unit_len hn h) k
    generalize x * 65536 / n = u at *
    generalize y * 65536 / n = v at *
    by_cases cx : 0 ≤ x <;> by_cases cy : 0 ≤ y
    · rw [if_pos cx, if_neg (by have := p1 cx; omega), if_neg (by omega), if_pos cy, if_neg (by have := q1 cy; omega), if_neg (by omega), key]
    · rw [if_pos cx, if_neg (by have := p1 cx; omega), if_neg (by omega), if_neg cy, if_pos (by omega), decide_eq_false (by have := q2 (by omega); omega), key]
    · rw [if_neg cx, if_pos (by omega), if_neg (by have := p2 (by omega); omega), if_pos cy, if_neg (by have := q1 cy; omega), if_neg (by omega), key]
    · rw [if_neg cx, if_pos (by omega), if_neg (by have := p2 (by omega); omega), if_neg cy, if_pos (by omega), decide_eq_false (by have := q2 (by omega); omega), key]

theorem unitS_bd {x y n : Int} (hn : IsRt (x * x + y * y) n) : (-65536 ≤ (unitS n x y).1 ∧ (unitS n x y).1 ≤ 65536) ∧ (-65536 ≤ (unitS n x y).2 ∧ (unitS n x y).2 ≤ 65536) := by
  obtain ⟨⟨x0, x1⟩, ⟨y0, y1⟩⟩ := hn.comp
  have n0 := hn.1
  unfold unitS
  by_cases c : n = 0
  · rw [if_pos c]; simp
  · rw [if_neg c]
    exact ⟨unit_part (by omega) x0 x1, unit_part (by omega) y0 y1⟩

theorem VecUnit : billiardlaw04_VecUnit.Pure := by
  intro x y wx wy
  refine ⟨36, ?_⟩
  have out : billiardlaw04_VecUnit.j0 36 x y true = some true := by
    simp only [billiardlaw04_VecUnit.j0]
    rw [if_pos trivial, billiardlaw04_awake.yes 35 (by omega)]
    rfl
  unfold billiardlaw04_VecUnit.f
  rw [billiardlaw04_awake.yes 36 (by omega), billiardref04_In.is, billiardref04_In.is]
  simp only [Option.bind_some, if_true]
  by_cases cx : -2181038080 ≤ x ∧ x ≤ 2181038080
  case neg => rw [decide_eq_false cx, if_neg (by decide), out]
  by_cases cy : -2181038080 ≤ y ∧ y ≤ 2181038080
  case neg => rw [decide_eq_true cx, decide_eq_false cy, if_pos rfl, Bool.not_false, out]
  rw [decide_eq_true cx, decide_eq_true cy, if_pos rfl]
  have hs := in_sq cx cy
  obtain ⟨n, hn⟩ := isRt_ex (x * x + y * y) hs.1 (by omega)
  have key := unit_j1 x y n cx cy hn 34 (by omega)
  obtain ⟨⟨u0, u1⟩, ⟨v0, v1⟩⟩ := unitS_bd hn
  simp only [billiardlaw04_VecUnit.j0]
  rw [if_neg (by decide), vec_Unit.is hn (by omega) 35 (by omega)]
  simp only [Option.bind_some]
  rw [if_neg (by omega), if_neg (by omega), if_neg (by omega), decide_eq_false (by omega), key]

end Go.Proofs.Ytjgeakahbelgiaa.Pure
