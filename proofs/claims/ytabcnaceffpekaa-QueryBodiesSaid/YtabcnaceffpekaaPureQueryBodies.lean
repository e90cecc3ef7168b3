/- A body contains its position and its ends; a point in a body has a distance of at most 0, and is in its box; a point with a negative distance is in the body. -/
import Derived.Test.YtabcnaceffpekaaQQueryBodies
import Derived.Test.YtabcnaceffpekaaMquery
namespace Go.Proofs.Ytabcnaceffpekaa.Pure
open Go.RowKit Go.Proofs.Ytabcnaceffpekaa.Q Go.Proofs.YtabcnaceffpekaaW.PrintWords Go.Proofs.YtabcnaceffpekaaW.PrintLast Go.Proofs.YtabcnaceffpekaaW.PrintMore
set_option linter.unusedVariables false
theorem IsRt.in {D n r : Int} (hn : IsRt D n) (hr : 0 ≤ r) : (D ≤ r * r → n - r ≤ 0) ∧ (n - r < 0 → D ≤ r * r) := by
  have b0 := hn.1
  have b3 := hn.2.2.1
  have b4 := hn.2.2.2
  constructor
  · intro h
    by_cases c : n ≤ r
    · omega
    · have := Int.mul_le_mul (show r + 1 ≤ n by omega) (show r + 1 ≤ n by omega) (by omega) (by omega)
      have e2 : (r + 1) * (r + 1) = r * r + 2 * r + 1 := by grind
      omega
  · intro h
    have := Int.mul_le_mul (show n + 1 ≤ r by omega) (show n + 1 ≤ r by omega) (by omega) (by omega)
    omega
theorem rt_zero : IsRt 0 0 := ⟨by omega, by omega, by omega, by omega⟩
/-- The nearest point of the core to an end is this end. -/
theorem dQ_first (ax ay px py : Int) : dQ ax ay px py (px - ax) (py - ay) = 0 := by
  unfold dQ cX cY nX nY
  rw [Int.sub_self, Int.sub_self, parN_first, ptS_zero, ptS_zero, Int.sub_self, Int.sub_self]
  rfl
theorem dQ_second (ax ay px py : Int) : dQ ax ay px py (px + ax) (py + ay) = 0 := by
  unfold dQ cX cY nX nY
  rw [parN_last, ptS_full (fun h => (dS_zero h).1), ptS_full (fun h => (dS_zero h).2), Int.sub_self, Int.sub_self]
  rfl
theorem half {x S p : Int} (h : S = 0 → x = 0) (hS : 0 ≤ S) : p - x + (p + x - (p - x)) * (2 * S) / (4 * S) = p := by
  have e : p + x - (p - x) = 2 * x := by omega
  rw [e]
  by_cases c : S = 0
  · rw [h c, c]; simp
  · have e2 : 2 * x * (2 * S) = x * (4 * S) := by grind
    rw [e2, Int.mul_ediv_cancel _ (by omega)]
    omega
theorem dQ_pos (ax ay px py : Int) : dQ ax ay px py px py = 0 := by
  have hS : dS (px + ax - (px - ax)) (py + ay - (py - ay)) = 4 * dS ax ay := by unfold dS; grind
  have h0 := dS_nn ax ay
  have hN : parN (px + ax - (px - ax)) (py + ay - (py - ay)) (px - (px - ax)) (py - (py - ay)) = 2 * dS ax ay := by
    unfold parN
    rw [hS]
    have e : (px - (px - ax)) * (px + ax - (px - ax)) + (py - (py - ay)) * (py + ay - (py - ay)) = 2 * dS ax ay := by unfold dS; grind
    rw [e]
    unfold mx mn
    generalize dS ax ay = S at *
    omega
  unfold dQ cX cY nX nY ptS
  rw [hN, hS, half (fun h => (dS_zero h).1) h0, half (fun h => (dS_zero h).2) h0, Int.sub_self, Int.sub_self]
  rfl
theorem QueryBodies : billiardlaw24_QueryBodies.Pure := by
  intro k r ax ay m b px py vx vy p0 p1 _ _ _ _ _ _ _ _ _ _ _ _
  have hend : billiardlaw24_QueryBodies.j0 (998 + 1 + 1) true k r ax ay m b px py vx vy p0 p1 = some true := by
    rw [billiardlaw24_QueryBodies.j0, if_pos rfl, awake24 _ (by omega)]
    rfl
  refine ⟨998 + 1 + 1, ?_⟩
  unfold billiardlaw24_QueryBodies.f
  rw [awake24 _ (by omega)]
  simp only [Option.bind_some]
  rw [if_pos trivial]
  rcases Check_cases 995 k r ax ay m b px py vx vy with ⟨e, hb⟩ | ⟨e, he, hc⟩
  rotate_left
  · rw [show billiardref05_Check.f (998 + 1 + 1) k r ax ay m b px py vx vy = _ from hc]
    simp only [Option.bind_some]
    rw [if_neg he]
    exact hend
  rw [show billiardref05_Check.f (998 + 1 + 1) k r ax ay m b px py vx vy = _ from e]
  simp only [Option.bind_some]
  rw [if_pos trivial]
  rcases In_cases p0 p1 with ⟨e, hp0, hp1⟩ | e
  rotate_left
  · rw [e]
    exact hend
  rw [e]
  simp only [Option.bind_some, Bool.not_true]
  have hr := hb.r
  obtain ⟨⟨w1, w2, w3, w4⟩, e1, e2, e3, e4, _⟩ := hb.ends
  have hpx : InB px ∧ InB py := by have := hb.px; have := hb.py; unfold InB; omega
  have hrr : 0 ≤ r * r := Int.mul_nonneg (by omega) (by omega)
  have i1 := (query_In.is hb e1 e2).1
  have i2 := (query_In.is hb e3 e4).1
  have i3 := (query_In.is hb hpx.1 hpx.2).1
  rw [dQ_first, decide_eq_true hrr] at i1
  rw [dQ_second, decide_eq_true hrr] at i2
  rw [dQ_pos, decide_eq_true hrr] at i3
  have d1 := (dist_is hb e1 e2 (n := 0) (by rw [dQ_first]; exact rt_zero) 998 (by omega)).1
  have hj1 : billiardlaw24_QueryBodies.j1 (998 + 1) false k r ax ay m b px py vx vy = some true := by
    rw [billiardlaw24_QueryBodies.j1, if_neg (by decide)]
    unfold billiardref05_First.f billiardref05_Second.f
    simp only [Option.bind_some]
    rw [w1, w2, w3, w4, i1]
    simp only [Option.bind_some]
    rw [if_pos trivial, i2]
    simp only [Option.bind_some]
    rw [if_pos trivial, i3]
    simp only [Option.bind_some]
    rw [if_pos trivial, d1]
    simp only [Option.bind_some]
    have : wrap64 (-(wrap64 r)) = 0 - r := by unfold wrap64; omega
    rw [this]
    simp
  have hd := d_bd hb hp0 hp1
  obtain ⟨n, hn⟩ := isRt_ex _ hd.2.2.1 hd.2.2.2
  have hin := query_In.is hb hp0 hp1
  have hrt := IsRt.in hn (show 0 ≤ r by omega)
  rw [billiardlaw24_QueryBodies.j0, if_neg (by decide), (dist_is hb hp0 hp1 hn (998 + 1) (by omega)).1]
  simp only [Option.bind_some]
  rw [hin.1]
  simp only [Option.bind_some]
  by_cases c : dQ ax ay px py p0 p1 ≤ r * r
  · rw [decide_eq_true c, if_pos rfl, if_neg (by have := hrt.1 c; omega), billiardref08_Of.is ⟨by omega, by omega⟩ hb.ax hb.ay hb.px hb.py]
    simp only [Option.bind_some]
    rw [billiardref08_Contains.is]
    simp only [Option.bind_some]
    rw [if_pos (hin.2 c)]
    exact hj1
  · rw [decide_eq_false c, if_neg (by decide), decide_eq_false (fun h => c (hrt.2 h))]
    exact hj1
end Go.Proofs.Ytabcnaceffpekaa.Pure
