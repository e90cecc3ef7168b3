/- The nearest point is in the box of the ends, and its distance is at most two units greater than that of either end. No condition. -/
import Derived.Test.YtpklgbkehkbopaaQPointNearest
import Derived.Test.YtpklgbkehkbopaaMpoint
import Derived.Test.YtpklgbkehkbopaaMnear
import Derived.Test.YtpklgbkehkbopaaMroot
namespace Go.Proofs.Ytpklgbkehkbopaa.Pure
open Go.RowKit Go.Proofs.Ytpklgbkehkbopaa.Q Go.Proofs.YtpklgbkehkbopaaW.PrintWords Go.Proofs.YtpklgbkehkbopaaW.PrintLast Go.Proofs.YtpklgbkehkbopaaW.PrintMore
set_option linter.unusedVariables false

theorem sq_far {x : Int} (hx : -2164260864 ≤ x ∧ x ≤ 2164260864) : 0 ≤ x * x ∧ x * x ≤ 4684025087442026496 := by
  have := mul_bd (A := 2164260864) (B := 2164260864) hx hx
  have := sq_nn x
  omega
theorem ref_len {x y r : Int} (hx : -2164260864 ≤ x ∧ x ≤ 2164260864) (hy : -2164260864 ≤ y ∧ y ≤ 2164260864) (hr : IsRt (x * x + y * y) r) (k : Nat) (hk : 33 ≤ k) : billiardref04_Length.f k x y = some r := by
  have h1 := sq_far hx
  have h2 := sq_far hy
  have e : billiardref04_LengthSq.f x y = some (x * x + y * y) := by
    unfold billiardref04_LengthSq.f
    have w1 : wrap64 (-x) = -x := w64_id (by omega) (by omega)
    have w2 : wrap64 (-y) = -y := w64_id (by omega) (by omega)
    have s1 : IntKind.u64.wrap (x * x) = x * x := u64_id (by omega) (by omega)
    have s2 : IntKind.u64.wrap (y * y) = y * y := u64_id (by omega) (by omega)
    have s3 : IntKind.u64.wrap (x * x + y * y) = x * x + y * y := u64_id (by omega) (by omega)
    by_cases cx : x < 0
    · have u1 : IntKind.u64.wrap (-x) = -x := u64_id (by omega) (by omega)
      by_cases cy : y < 0
      · have u2 : IntKind.u64.wrap (-y) = -y := u64_id (by omega) (by omega)
        rw [if_pos cx, if_pos cy, w1, w2, u1, u2, Int.neg_mul_neg, Int.neg_mul_neg, s1, s2, s3]
      · have u2 : IntKind.u64.wrap y = y := u64_id (by omega) (by omega)
        rw [if_pos cx, if_neg cy, w1, u1, u2, Int.neg_mul_neg, s1, s2, s3]
    · have u1 : IntKind.u64.wrap x = x := u64_id (by omega) (by omega)
      by_cases cy : y < 0
      · have u2 : IntKind.u64.wrap (-y) = -y := u64_id (by omega) (by omega)
        rw [if_neg cx, if_pos cy, w2, u1, u2, Int.neg_mul_neg, s1, s2, s3]
      · have u2 : IntKind.u64.wrap y = y := u64_id (by omega) (by omega)
        rw [if_neg cx, if_neg cy, u1, u2, s1, s2, s3]
  have hb := hr
  obtain ⟨r0, r1, _, _⟩ := hb
  unfold billiardref04_Length.f
  rw [e]
  simp only [Option.bind_some]
  rw [billiardref03_Isqrt.is hr (by omega) (by omega) k hk]
  simp only [Option.bind_some]
  rw [w64_id (by omega) (by omega)]
theorem dist_is {a0 a1 c0 c1 r : Int} (h1 : InB a0) (h2 : InB a1) (h3 : InB c0) (h4 : InB c1) (hr : IsRt ((c0 - a0) * (c0 - a0) + (c1 - a1) * (c1 - a1)) r) (k : Nat) (hk : 33 ≤ k) : billiardlaw12_distance.f k a0 a1 c0 c1 = some r := by
  unfold billiardlaw12_distance.f
  rw [wdiff h3 h1, wdiff h4 h2]
  unfold InB at *
  rw [ref_len (by omega) (by omega) hr k hk]
  rfl
theorem geo_end {x1 x2 e1 e2 dx dy d n u v a b : Int} (hd : 0 < d) (V1 V2 : Int) (hu : d * u = V1 - e1) (hv : d * v = V2 - e2) (h1 : 0 ≤ e1 ∧ e1 < d) (h2 : 0 ≤ e2 ∧ e2 < d)
    (hV : V1 * V1 + V2 * V2 ≤ d * d * (x1 * x1 + x2 * x2)) (ha : IsRt (u * u + v * v) a) (hb : IsRt (x1 * x1 + x2 * x2) b) : a ≤ b + 2 := by
  obtain ⟨b0, _, _, b1⟩ := hb
  obtain ⟨a0, _, a1, _⟩ := ha
  have g := near_geo hd h1 h2 hV b0 b1
  rw [← hu, ← hv] at g
  have e : d * u * (d * u) + d * v * (d * v) = d * d * (u * u + v * v) := by grind
  rw [e] at g
  have g2 := Int.lt_of_mul_lt_mul_left g (Int.le_of_lt (Int.mul_pos hd hd))
  have := sq_lt_cancel (a := a) (b := b + 3) (by omega) (by omega)
  omega
theorem near_both {p0 p1 q0 q1 c0 c1 n d a b b' : Int} (hd : dS (q0 - p0) (q1 - p1) = d) (hn : parN (q0 - p0) (q1 - p1) (c0 - p0) (c1 - p1) = n) (c : d ≠ 0)
    (ha : IsRt ((c0 - ptS p0 (q0 - p0) n d) * (c0 - ptS p0 (q0 - p0) n d) + (c1 - ptS p1 (q1 - p1) n d) * (c1 - ptS p1 (q1 - p1) n d)) a)
    (hb : IsRt ((c0 - p0) * (c0 - p0) + (c1 - p1) * (c1 - p1)) b) (hb' : IsRt ((c0 - q0) * (c0 - q0) + (c1 - q1) * (c1 - q1)) b') : a ≤ b + 2 ∧ a ≤ b' + 2 := by
  have d0 := dS_nn (q0 - p0) (q1 - p1)
  rw [hd] at d0
  have hd1 : 0 < d := by omega
  obtain ⟨t, ht⟩ : ∃ t, (c0 - p0) * (q0 - p0) + (c1 - p1) * (q1 - p1) = t := ⟨_, rfl⟩
  have hn2 : n = mx 0 (mn t d) := by rw [← hn, parN, ht, hd]
  have m0 := Int.emod_add_mul_ediv ((q0 - p0) * n) d
  have m1 := Int.emod_add_mul_ediv ((q1 - p1) * n) d
  have r0 := Int.emod_nonneg ((q0 - p0) * n) c
  have r1 := Int.emod_lt_of_pos ((q0 - p0) * n) hd1
  have r2 := Int.emod_nonneg ((q1 - p1) * n) c
  have r3 := Int.emod_lt_of_pos ((q1 - p1) * n) hd1
  unfold ptS at ha
  generalize (q0 - p0) * n / d = u at *
  generalize (q1 - p1) * n / d = v at *
  generalize ((q0 - p0) * n) % d = e1 at *
  generalize ((q1 - p1) * n) % d = e2 at *
  have hdd : d = (q0 - p0) * (q0 - p0) + (q1 - p1) * (q1 - p1) := by rw [← hd]; rfl
  have ha2 : IsRt ((p0 + u - c0) * (p0 + u - c0) + (p1 + v - c1) * (p1 + v - c1)) a := by
    have e : (p0 + u - c0) * (p0 + u - c0) + (p1 + v - c1) * (p1 + v - c1) = (c0 - (p0 + u)) * (c0 - (p0 + u)) + (c1 - (p1 + v)) * (c1 - (p1 + v)) := by grind
    rw [e]; exact ha
  have k1 : d * (p0 + u - c0) = d * (p0 - c0) + n * (q0 - p0) - e1 := by grind
  have k2 : d * (p1 + v - c1) = d * (p1 - c1) + n * (q1 - p1) - e2 := by grind
  have f1 : n * (n - 2 * t) ≤ 0 := by
    unfold mx mn at hn2
    by_cases z : n = 0
    · rw [z]; omega
    · exact Int.mul_nonpos_of_nonneg_of_nonpos (by omega) (by omega)
  have f2 : (n - d) * (n + d - 2 * t) ≤ 0 := by
    unfold mx mn at hn2
    by_cases z : n = d
    · rw [z]; simp
    · exact Int.mul_nonpos_of_nonpos_of_nonneg (by omega) (by omega)
  have g1 : d * (n * (n - 2 * t)) ≤ 0 := Int.mul_nonpos_of_nonneg_of_nonpos d0 f1
  have g2 : d * ((n - d) * (n + d - 2 * t)) ≤ 0 := Int.mul_nonpos_of_nonneg_of_nonpos d0 f2
  have w : (d * (p0 - c0) + n * (q0 - p0)) * (d * (p0 - c0) + n * (q0 - p0)) + (d * (p1 - c1) + n * (q1 - p1)) * (d * (p1 - c1) + n * (q1 - p1)) = d * d * ((c0 - p0) * (c0 - p0) + (c1 - p1) * (c1 - p1)) + d * (n * (n - 2 * t)) := by
    have : (d * (p0 - c0) + n * (q0 - p0)) * (d * (p0 - c0) + n * (q0 - p0)) + (d * (p1 - c1) + n * (q1 - p1)) * (d * (p1 - c1) + n * (q1 - p1)) = d * d * ((c0 - p0) * (c0 - p0) + (c1 - p1) * (c1 - p1)) - 2 * (d * n) * ((c0 - p0) * (q0 - p0) + (c1 - p1) * (q1 - p1)) + n * n * ((q0 - p0) * (q0 - p0) + (q1 - p1) * (q1 - p1)) := by grind
    rw [this, ht, ← hdd]; grind
  have w2 : d * d * ((c0 - q0) * (c0 - q0) + (c1 - q1) * (c1 - q1)) = d * d * ((c0 - p0) * (c0 - p0) + (c1 - p1) * (c1 - p1)) - 2 * (d * d * t) + d * d * d := by
    have : d * d * ((c0 - q0) * (c0 - q0) + (c1 - q1) * (c1 - q1)) = d * d * ((c0 - p0) * (c0 - p0) + (c1 - p1) * (c1 - p1)) - 2 * (d * d) * ((c0 - p0) * (q0 - p0) + (c1 - p1) * (q1 - p1)) + d * d * ((q0 - p0) * (q0 - p0) + (q1 - p1) * (q1 - p1)) := by grind
    rw [this, ht, ← hdd]; grind
  have w3 : d * (n * (n - 2 * t)) = - 2 * (d * d * t) + d * d * d + d * ((n - d) * (n + d - 2 * t)) := by grind
  exact ⟨geo_end (dx := 0) (dy := 0) (n := 0) hd1 _ _ k1 k2 ⟨r0, r1⟩ ⟨r2, r3⟩ (by rw [w]; omega) ha2 hb, geo_end (dx := 0) (dy := 0) (n := 0) hd1 _ _ k1 k2 ⟨r0, r1⟩ ⟨r2, r3⟩ (by rw [w, w2, w3]; omega) ha2 hb'⟩
theorem PointNearest : billiardlaw12_PointNearest.Pure := by
  intro p0 p1 q0 q1 c0 c1 _ _ _ _ _ _
  refine ⟨40, ?_⟩
  unfold billiardlaw12_PointNearest.f
  rw [billiardlaw12_awake.yes]
  simp only [Option.bind_some, if_true]
  rcases Right_cases p0 p1 q0 q1 c0 c1 with ⟨e, h⟩ | e
  · rw [e]
    simp only [Option.bind_some, Bool.not_true, billiardlaw12_PointNearest.j0]
    have hn := parN_bd (q0 - p0) (q1 - p1) (c0 - p0) (c1 - p1)
    have k1 := ptS_box (p := p0) (q := q0) hn
    have k2 := ptS_box (p := p1) (q := q1) hn
    rw [if_neg (by decide), point_Nearest.is h]
    obtain ⟨a1, a2, b1, b2, d1, d2, hx, hy⟩ := h
    have both := fun (a b b' : Int) => near_both (p0 := p0) (p1 := p1) (q0 := q0) (q1 := q1) (c0 := c0) (c1 := c1) (a := a) (b := b) (b' := b') rfl rfl
    have zero : dS (q0 - p0) (q1 - p1) = 0 → q0 - p0 = 0 ∧ q1 - p1 = 0 := dS_zero
    generalize parN (q0 - p0) (q1 - p1) (c0 - p0) (c1 - p1) = n at *
    generalize dS (q0 - p0) (q1 - p1) = d at *
    obtain ⟨u, hu⟩ : ∃ u, ptS p0 (q0 - p0) n d = u := ⟨_, rfl⟩
    obtain ⟨v, hv⟩ : ∃ u, ptS p1 (q1 - p1) n d = u := ⟨_, rfl⟩
    rw [hu] at k1 both ⊢
    rw [hv] at k2 both ⊢
    simp only [Option.bind_some]
    have x1 : ¬ u < mn p0 q0 := by unfold mn; omega
    have x2 : ¬ u > mx p0 q0 := by unfold mx; omega
    have x3 : ¬ v < mn p1 q1 := by unfold mn; omega
    have x4 : ¬ v > mx p1 q1 := by unfold mx; omega
    rw [if_neg x1, if_neg x2, if_neg x3, decide_eq_false x4]
    simp only [billiardlaw12_PointNearest.j1]
    rw [if_neg (by decide)]
    have iu : InB u := by unfold InB at *; omega
    have iv : InB v := by unfold InB at *; omega
    have far : ∀ x y : Int, InB x → InB y → -2164260864 ≤ x - y ∧ x - y ≤ 2164260864 := fun x y h1 h2 => by unfold InB at *; omega
    have ex : ∀ x y : Int, InB x → InB y → ∃ r, IsRt ((c0 - x) * (c0 - x) + (c1 - y) * (c1 - y)) r := fun x y h1 h2 => by
      have g1 := sq_far (far c0 x d1 h1)
      have g2 := sq_far (far c1 y d2 h2)
      exact isRt_ex _ (by omega) (by omega)
    obtain ⟨a, ha⟩ := ex u v iu iv
    obtain ⟨b, hb⟩ := ex p0 p1 a1 a2
    obtain ⟨b', hb'⟩ := ex q0 q1 b1 b2
    rw [dist_is iu iv d1 d2 ha 38 (by decide), dist_is a1 a2 d1 d2 hb 38 (by decide), dist_is b1 b2 d1 d2 hb' 38 (by decide)]
    have key : a ≤ b + 2 ∧ a ≤ b' + 2 := by
      by_cases c : d = 0
      · obtain ⟨z1, z2⟩ := zero c
        have y1 : u = p0 := by omega
        have y2 : v = p1 := by omega
        have y3 : q0 = p0 := by omega
        have y4 : q1 = p1 := by omega
        subst y1 y2
        rw [y3, y4] at hb'
        have := ha.uniq hb
        have := ha.uniq hb'
        omega
      · exact both a b b' c ha hb hb'
    have l1 := hb.2.1
    have l2 := hb.1
    have l3 := hb'.2.1
    have l4 := hb'.1
    simp only [Option.bind_some]
    rw [w64_id (n := b + 2) (by omega) (by omega), w64_id (n := b' + 2) (by omega) (by omega), if_pos key.1, decide_eq_true key.2]
  · rw [e]
    simp [billiardlaw12_PointNearest.j0, billiardlaw12_awake.yes]

end Go.Proofs.Ytpklgbkehkbopaa.Pure
