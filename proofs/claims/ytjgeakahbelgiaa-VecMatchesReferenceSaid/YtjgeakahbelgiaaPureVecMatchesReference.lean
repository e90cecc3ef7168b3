/- For all vectors and differences, all functions of vec return what the reference implementation returns. No condition. -/
import Derived.Test.YtjgeakahbelgiaaQVecMatchesReference
import Derived.Test.YtjgeakahbelgiaaMlaw04
namespace Go.Proofs.Ytjgeakahbelgiaa.Pure
open Go.RowKit Go.Proofs.Ytjgeakahbelgiaa.Q Go.Proofs.YtjgeakahbelgiaaW.PrintWords Go.Proofs.YtjgeakahbelgiaaW.PrintLast Go.Proofs.YtjgeakahbelgiaaW.PrintMore
set_option linter.unusedVariables false
theorem wneg {b : Int} (hb : (-2147483648 ≤ b ∧ b ≤ 2147483647)) : wrap64 (-(wrap64 b)) = 0 - b := by
  rw [w64_id (n := b) (by omega) (by omega), w64_id (by omega) (by omega)]; omega
theorem wsub {a b : Int} (ha : (-2147483648 ≤ a ∧ a ≤ 2147483647)) (hb : (-2147483648 ≤ b ∧ b ≤ 2147483647)) : wrap64 (wrap64 a - wrap64 b) = a - b := by
  rw [w64_id (n := a) (by omega) (by omega), w64_id (n := b) (by omega) (by omega), w64_id (by omega) (by omega)]
theorem wadd {a b : Int} (ha : (-2147483648 ≤ a ∧ a ≤ 2147483647)) (hb : (-2147483648 ≤ b ∧ b ≤ 2147483647)) : wrap64 (wrap64 a + wrap64 b) = a + b := by
  rw [w64_id (n := a) (by omega) (by omega), w64_id (n := b) (by omega) (by omega), w64_id (by omega) (by omega)]
theorem i32b {a : Int} (h : (-2147483648 ≤ a ∧ a ≤ 2147483647)) : i32B a = true := i32B_iff.mpr h
theorem r_neg {a b : Int} (ha : (-2147483648 ≤ a ∧ a ≤ 2147483647)) (hb : (-2147483648 ≤ b ∧ b ≤ 2147483647)) : billiardref04_Neg.f a b = some (sat32 (0 - a), sat32 (0 - b)) := by
  unfold billiardref04_Neg.f
  rw [wneg ha, wneg hb, billiardref02_Saturate.is, billiardref02_Saturate.is]
  rfl
theorem r_add {a b c d : Int} (ha : (-2147483648 ≤ a ∧ a ≤ 2147483647)) (hb : (-2147483648 ≤ b ∧ b ≤ 2147483647)) (hc : (-2147483648 ≤ c ∧ c ≤ 2147483647)) (hd : (-2147483648 ≤ d ∧ d ≤ 2147483647)) : billiardref04_Add.f a b c d = some (sat32 (a + c), sat32 (b + d)) := by
  unfold billiardref04_Add.f
  rw [wadd ha hc, wadd hb hd, billiardref02_Saturate.is, billiardref02_Saturate.is]
  rfl
theorem r_scale {a b k : Int} (ha : (-2147483648 ≤ a ∧ a ≤ 2147483647)) (hb : (-2147483648 ≤ b ∧ b ≤ 2147483647)) (hk : (-2147483648 ≤ k ∧ k ≤ 2147483647)) : billiardref04_Scale.f a b k = some (sat32 (a * k / 65536), sat32 (b * k / 65536)) := by
  unfold billiardref04_Scale.f
  rw [billiardref02_Mul.is ha hk, billiardref02_Mul.is hb hk]
  rfl
theorem v_add {a b c d : Int} (ha : (-2147483648 ≤ a ∧ a ≤ 2147483647)) (hb : (-2147483648 ≤ b ∧ b ≤ 2147483647)) (hc : (-2147483648 ≤ c ∧ c ≤ 2147483647)) (hd : (-2147483648 ≤ d ∧ d ≤ 2147483647)) : vec_Add.f a b c d = some (sat32 (a + c), sat32 (b + d)) := by
  unfold vec_Add.f
  rw [if_pos ⟨i32b ha, i32b hb, i32b hc, i32b hd⟩]
theorem v_sub {a b c d : Int} (ha : (-2147483648 ≤ a ∧ a ≤ 2147483647)) (hb : (-2147483648 ≤ b ∧ b ≤ 2147483647)) (hc : (-2147483648 ≤ c ∧ c ≤ 2147483647)) (hd : (-2147483648 ≤ d ∧ d ≤ 2147483647)) : vec_Sub.f a b c d = some (sat32 (a - c), sat32 (b - d)) := by
  unfold vec_Sub.f
  rw [if_pos ⟨i32b ha, i32b hb, i32b hc, i32b hd⟩]
theorem v_neg {a b : Int} (ha : (-2147483648 ≤ a ∧ a ≤ 2147483647)) (hb : (-2147483648 ≤ b ∧ b ≤ 2147483647)) : vec_Neg.f a b = some (sat32 (0 - a), sat32 (0 - b)) := by
  unfold vec_Neg.f
  rw [v_sub (by omega) (by omega) ha hb]
  rfl
theorem v_scale {a b k : Int} (ha : (-2147483648 ≤ a ∧ a ≤ 2147483647)) (hb : (-2147483648 ≤ b ∧ b ≤ 2147483647)) (hk : (-2147483648 ≤ k ∧ k ≤ 2147483647)) : vec_Scale.f a b k = some (sat32 (a * k / 65536), sat32 (b * k / 65536)) := by
  unfold vec_Scale.f
  rw [if_pos ⟨i32b ha, i32b hb, i32b hk⟩]
theorem r_lensq {x y : Int} (hx : (-2181038080 ≤ x ∧ x ≤ 2181038080)) (hy : (-2181038080 ≤ y ∧ y ≤ 2181038080)) : billiardref04_LengthSq.f x y = some (x * x + y * y) := by
  have h := in_sq hx hy
  have nx := sq_nn x
  have ny := sq_nn y
  unfold billiardref04_LengthSq.f
  have w1 : wrap64 (-x) = -x := w64_id (by omega) (by omega)
  have w2 : wrap64 (-y) = -y := w64_id (by omega) (by omega)
  have s1 : IntKind.u64.wrap (x * x) = x * x := u64_id (by omega) (by omega)
  have s2 : IntKind.u64.wrap (y * y) = y * y := u64_id (by omega) (by omega)
  have s3 : IntKind.u64.wrap (x * x + y * y) = x * x + y * y := u64_id (by omega) (by omega)
  by_cases cx : x < 0
  · have u1 : IntKind.u64.wrap (-x) = -x := u64_id (by omega) (by omega)
    by_cases cy : y < 0
    · have u2 : IntKind.u64.wrap (-y) = -y := u64_id (by omega) (by omega)
      rw [if_pos cx, if_pos cy, w1, w2, u1, u2, Int.neg_mul_neg, Int.neg_mul_neg, s1, s2, s3]
    · have u2 : IntKind.u64.wrap y = y := u64_id (by omega) (by omega)
      rw [if_pos cx, if_neg cy, w1, u1, u2, Int.neg_mul_neg, s1, s2, s3]
  · have u1 : IntKind.u64.wrap x = x := u64_id (by omega) (by omega)
    by_cases cy : y < 0
    · have u2 : IntKind.u64.wrap (-y) = -y := u64_id (by omega) (by omega)
      rw [if_neg cx, if_pos cy, w2, u1, u2, Int.neg_mul_neg, s1, s2, s3]
    · have u2 : IntKind.u64.wrap y = y := u64_id (by omega) (by omega)
      rw [if_neg cx, if_neg cy, u1, u2, s1, s2, s3]
theorem r_len {x y n : Int} (hx : (-2181038080 ≤ x ∧ x ≤ 2181038080)) (hy : (-2181038080 ≤ y ∧ y ≤ 2181038080)) (hn : IsRt (x * x + y * y) n) (k : Nat) (hk : 33 ≤ k) : billiardref04_Length.f k x y = some n := by
  have h := in_sq hx hy
  have hb := hn
  obtain ⟨g0, g1, _, _⟩ := hb
  unfold billiardref04_Length.f
  rw [r_lensq hx hy]
  simp only [Option.bind_some]
  rw [billiardref03_Isqrt.is hn (by omega) (by omega) k hk]
  simp only [Option.bind_some]
  rw [w64_id (by omega) (by omega)]
theorem r_unit {x y n : Int} (hx : (-2181038080 ≤ x ∧ x ≤ 2181038080)) (hy : (-2181038080 ≤ y ∧ y ≤ 2181038080)) (hn : IsRt (x * x + y * y) n) (k : Nat) (hk : 33 ≤ k) : billiardref04_Unit.f (k + 1) x y = some (unitS n x y) := by
  have nx := sq_nn x
  have ny := sq_nn y
  have hc := hn.comp
  have far : n ≠ 0 → billiardref04_Unit.j0 (k + 1) x y false = some (unitS n x y) := by
    intro h0
    have hp : 0 < n := by have := hn.1; omega
    have u1 := unit_part hp hc.1.1 hc.1.2
    have u2 := unit_part hp hc.2.1 hc.2.2
    simp only [billiardref04_Unit.j0]
    rw [if_neg (by decide), r_len hx hy hn k hk]
    simp only [Option.bind_some]
    rw [w64_id (n := x * 65536) (by omega) (by omega), w64_id (n := y * 65536) (by omega) (by omega), billiardref01_Floor.is hp (by omega) (by omega), billiardref01_Floor.is hp (by omega) (by omega)]
    simp only [Option.bind_some]
    rw [w32_id (by omega) (by omega), w32_id (by omega) (by omega)]
    unfold unitS
    rw [if_neg h0]
  unfold billiardref04_Unit.f
  by_cases c : x = 0
  · rw [if_pos c]
    by_cases d : y = 0
    · subst c
      subst d
      have h0 : n = 0 := IsRt.uniq hn (by unfold IsRt; decide)
      subst h0
      rfl
    · rw [beq_eq_false_iff_ne.mpr d]
      refine far (fun h => ?_)
      subst h
      omega
  · rw [if_neg c]
    refine far (fun h => ?_)
    subst h
    omega
theorem last (dx dy : Int) : billiardlaw04_VecMatchesReference.j3 57 dx dy = some true := by
  simp only [billiardlaw04_VecMatchesReference.j3]
  rw [billiardref04_In.is, billiardref04_In.is]
  by_cases c1 : (-2181038080 ≤ dx ∧ dx ≤ 2181038080)
  rotate_left
  · rw [decide_eq_false c1]; simp [billiardlaw04_VecMatchesReference.j4]
  rw [decide_eq_true c1]
  by_cases c2 : (-2181038080 ≤ dy ∧ dy ≤ 2181038080)
  rotate_left
  · rw [decide_eq_false c2]; simp [billiardlaw04_VecMatchesReference.j4]
  rw [decide_eq_true c2]
  have h := in_sq c1 c2
  obtain ⟨n, hn⟩ := isRt_ex (dx * dx + dy * dy) h.1 (by omega)
  simp only [Option.bind_some, if_true, Bool.not_true, billiardlaw04_VecMatchesReference.j4]
  rw [if_neg (by decide), vec_LengthSq.is (by omega), r_lensq c1 c2]
  simp only [Option.bind_some, if_true]
  rw [vec_Length.is hn (by omega) _ (by omega), r_len c1 c2 hn _ (by omega)]
  simp only [Option.bind_some, if_true]
  rw [vec_Unit.is hn (by omega) _ (by omega), r_unit c1 c2 hn 54 (by omega)]
  simp
theorem VecMatchesReference : billiardlaw04_VecMatchesReference.Pure := by
  intro a0 a1 b0 b1 k dx dy ha0 ha1 hb0 hb1 hk _ _
  have ha0 := wf_i32 ha0
  have ha1 := wf_i32 ha1
  have hb0 := wf_i32 hb0
  have hb1 := wf_i32 hb1
  have hk := wf_i32 hk
  refine ⟨60, ?_⟩
  unfold billiardlaw04_VecMatchesReference.f
  rw [billiardlaw04_awake.yes _ (by omega)]
  simp only [Option.bind_some, if_true]
  rw [r_neg hb0 hb1, wsub ha0 hb0, wsub ha1 hb1, billiardref02_Saturate.is, billiardref02_Saturate.is, v_add ha0 ha1 hb0 hb1, r_add ha0 ha1 hb0 hb1]
  simp only [Option.bind_some]
  rw [if_neg (by simp), v_sub ha0 ha1 hb0 hb1]
  simp only [Option.bind_some]
  rw [if_neg (by simp), v_neg hb0 hb1]
  simp only [Option.bind_some]
  rw [if_neg (by simp), v_scale ha0 ha1 hk, r_scale ha0 ha1 hk]
  simp only [Option.bind_some]
  rw [if_neg (by simp), vec_Perp.is hb1]
  simp only [Option.bind_some, beq_self_eq_true, Bool.not_true, Bool.or_self, billiardlaw04_VecMatchesReference.j0]
  rw [if_neg (by decide), vec_Diff.is ha0 ha1 hb0 hb1, wsub hb0 ha0, wsub hb1 ha1]
  simp only [Option.bind_some, if_true, bne_self_eq_false, billiardlaw04_VecMatchesReference.j1]
  rw [if_neg (by decide)]
  have no : billiardlaw04_VecMatchesReference.j2 58 dx dy false a0 a1 b0 b1 = some true := by
    simp only [billiardlaw04_VecMatchesReference.j2]
    rw [if_neg (by decide)]
    exact last dx dy
  by_cases c1 : a0 > -2147483648
  rotate_left
  · rw [if_neg c1]; exact no
  rw [if_pos c1]
  by_cases c2 : a1 > -2147483648
  rotate_left
  · rw [if_neg c2]; exact no
  rw [if_pos c2]
  by_cases c3 : b0 > -2147483648
  rotate_left
  · rw [if_neg c3]; exact no
  rw [if_pos c3]
  by_cases c4 : b1 > -2147483648
  rotate_left
  · rw [decide_eq_false c4]; exact no
  rw [decide_eq_true c4]
  simp only [billiardlaw04_VecMatchesReference.j2]
  have m1 := prod_i32' (a := a0) (b := b0) (by omega) (by omega)
  have m2 := prod_i32' (a := a1) (b := b1) (by omega) (by omega)
  have m3 := prod_i32' (a := a0) (b := b1) (by omega) (by omega)
  have m4 := prod_i32' (a := a1) (b := b0) (by omega) (by omega)
  simp only [if_true]
  rw [vec_Dot.is (by omega) (by omega) (by omega) (by omega), prod_i32 ha0 hb0, prod_i32 ha1 hb1, w64_id (n := a0 * b0 + a1 * b1) (by omega) (by omega)]
  simp only [Option.bind_some, if_true]
  rw [vec_Cross.is (by omega) (by omega) (by omega) (by omega), prod_i32 ha0 hb1, prod_i32 ha1 hb0, w64_id (n := a0 * b1 - a1 * b0) (by omega) (by omega)]
  simp only [Option.bind_some, if_true]
  exact last dx dy

end Go.Proofs.Ytjgeakahbelgiaa.Pure
