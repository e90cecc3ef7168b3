/- What the functions of impulse return for valid bodies. -/
import Derived.Test.YtihgddcaljaojaaQimpulse
import Derived.Test.YtihgddcaljaojaaMbody
import Derived.Test.YtihgddcaljaojaaMwide
import Derived.Test.YtihgddcaljaojaaMnum
import Derived.Test.YtihgddcaljaojaaQbilliardref16
import Derived.Test.YtihgddcaljaojaaQbilliardlaw16
namespace Go.Proofs.Ytihgddcaljaojaa.Q
open Go.RowKit Go.Proofs.YtihgddcaljaojaaW.PrintWords Go.Proofs.YtihgddcaljaojaaW.PrintLast Go.Proofs.YtihgddcaljaojaaW.PrintMore
set_option linter.unusedVariables false
theorem bd_mul {x y A B : Int} (hx : -A ≤ x ∧ x ≤ A) (hy : -B ≤ y ∧ y ≤ B) : -(A * B) ≤ x * y ∧ x * y ≤ A * B := by
  have hA : mg x ≤ A := by unfold mg; split <;> omega
  have hB : mg y ≤ B := by unfold mg; split <;> omega
  have h0 : 0 ≤ mg x := by unfold mg; split <;> omega
  have h1 : 0 ≤ mg y := by unfold mg; split <;> omega
  have hm := Int.mul_le_mul hA hB h1 (by omega)
  have e : x * y = mg x * mg y ∨ x * y = -(mg x * mg y) := by
    by_cases ca : x < 0 <;> by_cases cb : y < 0 <;> simp [mg, ca, cb, Int.neg_mul, Int.mul_neg]
  have hn := Int.mul_nonneg h0 h1
  omega
def NormB (n0 n1 : Int) : Prop := (-65536 ≤ n0 ∧ n0 ≤ 65536) ∧ (-65536 ≤ n1 ∧ n1 ≤ 65536)
/-- The velocity along the normal. -/
def apS (ux uy n0 n1 : Int) : Int := (ux * n0 + uy * n1) / 65536
theorem apS_bd {ux uy n0 n1 : Int} (hx : -33554432 ≤ ux ∧ ux ≤ 33554432) (hy : -33554432 ≤ uy ∧ uy ≤ 33554432) (hn : NormB n0 n1) : (-2199023255552 ≤ ux * n0 ∧ ux * n0 ≤ 2199023255552) ∧ (-2199023255552 ≤ uy * n1 ∧ uy * n1 ≤ 2199023255552) ∧ -67108864 ≤ apS ux uy n0 n1 ∧ apS ux uy n0 n1 ≤ 67108864 := by
  have h1 := bd_mul hx hn.1
  have h2 := bd_mul hy hn.2
  unfold apS
  omega
theorem impulse_Approach.is {p0 p1 n0 n1 dp k0 r0 ax0 ay0 m0 b0 px0 py0 vx0 vy0 k1 r1 ax1 ay1 m1 b1 px1 py1 vx1 vy1 : Int} (h0 : Valid k0 r0 ax0 ay0 m0 b0 px0 py0 vx0 vy0) (h1 : Valid k1 r1 ax1 ay1 m1 b1 px1 py1 vx1 vy1) (hn : NormB n0 n1) :
    impulse_Approach.f p0 p1 n0 n1 dp k0 r0 ax0 ay0 m0 b0 px0 py0 vx0 vy0 k1 r1 ax1 ay1 m1 b1 px1 py1 vx1 vy1 = some (apS (vx1 - vx0) (vy1 - vy0) n0 n1) := by
  obtain ⟨_, _, _, _, _, _, _, a1, a2⟩ := h0
  obtain ⟨_, _, _, _, _, _, _, b1, b2⟩ := h1
  obtain ⟨g1, g2, _⟩ := apS_bd (ux := vx1 - vx0) (uy := vy1 - vy0) (by omega) (by omega) hn
  obtain ⟨c1, c2⟩ := hn
  unfold impulse_Approach.f apS
  rw [w64_id (n := vx1) (by omega) (by omega), w64_id (n := vx0) (by omega) (by omega), w64_id (n := vy1) (by omega) (by omega), w64_id (n := vy0) (by omega) (by omega), w64_id (n := vx1 - vx0) (by omega) (by omega), w64_id (n := vy1 - vy0) (by omega) (by omega), w64_id (n := n0) (by omega) (by omega), w64_id (n := n1) (by omega) (by omega), w64_id (n := (vx1 - vx0) * n0) (by omega) (by omega), w64_id (n := (vy1 - vy0) * n1) (by omega) (by omega), w64_id (by omega) (by omega)]
/-- The impulse: v the velocity along the normal, m the sum of the inverse masses, b the bounce. -/
def stS (v m b : Int) : Int := if v ≥ 0 then 0 else if m = 0 then 0 else (-v) * (65536 + b) / m
theorem stS_in {v m b : Int} (hv : -67108864 ≤ v ∧ v ≤ 67108864) (hm : 0 ≤ m ∧ m ≤ 2097152) (hb : 0 ≤ b ∧ b ≤ 65536) : 0 ≤ stS v m b ∧ stS v m b ≤ 8796093022208 := by
  unfold stS
  split
  · omega
  · split
    · omega
    · have h := bd_mul (x := -v) (y := 65536 + b) (A := 67108864) (B := 131072) (by omega) (by omega)
      have h0 := Int.mul_nonneg (show 0 ≤ -v by omega) (show 0 ≤ 65536 + b by omega)
      refine ⟨Int.ediv_nonneg h0 (by omega), ?_⟩
      exact Int.ediv_le_of_le_mul (by omega) (by have := Int.mul_le_mul_of_nonneg_left (show 1 ≤ m by omega) (show (0 : Int) ≤ 8796093022208 by omega); omega)
theorem mx_bd {a b : Int} (ha : 0 ≤ a ∧ a ≤ 65536) (hb : 0 ≤ b ∧ b ≤ 65536) : 0 ≤ mx a b ∧ mx a b ≤ 65536 := by unfold mx; omega
theorem impulse_Strength.is {p0 p1 n0 n1 dp k0 r0 ax0 ay0 m0 b0 px0 py0 vx0 vy0 k1 r1 ax1 ay1 m1 b1 px1 py1 vx1 vy1 : Int} (h0 : Valid k0 r0 ax0 ay0 m0 b0 px0 py0 vx0 vy0) (h1 : Valid k1 r1 ax1 ay1 m1 b1 px1 py1 vx1 vy1) (hn : NormB n0 n1) (k : Nat) :
    impulse_Strength.f (k + 1) p0 p1 n0 n1 dp k0 r0 ax0 ay0 m0 b0 px0 py0 vx0 vy0 k1 r1 ax1 ay1 m1 b1 px1 py1 vx1 vy1 = some (stS (apS (vx1 - vx0) (vy1 - vy0) n0 n1) (m0 + m1) (mx b0 b1)) := by
  have hb := mx_bd h0.b h1.b
  have hm0 := h0.m
  have hm1 := h1.m
  have hap : -67108864 ≤ apS (vx1 - vx0) (vy1 - vy0) n0 n1 ∧ apS (vx1 - vx0) (vy1 - vy0) n0 n1 ≤ 67108864 := by
    obtain ⟨_, _, _, _, _, _, _, a1, a2⟩ := h0
    obtain ⟨_, _, _, _, _, _, _, b1, b2⟩ := h1
    exact (apS_bd (ux := vx1 - vx0) (uy := vy1 - vy0) (by omega) (by omega) hn).2.2
  have hs := stS_in (v := apS (vx1 - vx0) (vy1 - vy0) n0 n1) (m := m0 + m1) (b := mx b0 b1) hap (by omega) hb
  unfold impulse_Strength.f
  rw [impulse_Approach.is h0 h1 hn]
  simp only [Option.bind_some]
  rw [w64_id (n := m0) (by omega) (by omega), w64_id (n := m1) (by omega) (by omega), w64_id (n := m0 + m1) (by omega) (by omega)]
  generalize apS (vx1 - vx0) (vy1 - vy0) n0 n1 = v at *
  unfold stS at *
  by_cases c : v ≥ 0
  · rw [if_pos c, if_pos c]
    simp [impulse_Strength.j0]
  · rw [if_neg c, if_neg c]
    by_cases d : m0 + m1 = 0
    · rw [if_pos d, beq_iff_eq.mpr d]
      simp [impulse_Strength.j0]
    · rw [if_neg c, if_neg d] at hs
      rw [if_neg d, beq_eq_false_iff_ne.mpr d]
      simp only [impulse_Strength.j0]
      rw [if_neg (by decide)]
      unfold impulse_Bounce.f
      simp only [Option.bind_some]
      rw [w64_id (n := mx b0 b1) (by omega) (by omega), w64_id (n := 65536 + mx b0 b1) (by omega) (by omega), w64_id (n := -v) (by omega) (by omega), wide_MulDiv.is (by omega) (by omega) (by omega)]
      unfold mulDivS fl
      rw [if_neg d, if_pos (show 0 < m0 + m1 by omega), if_pos (i64B_iff.mpr (by omega))]
      rfl
/-- One component of a change of velocity. -/
def chS (j m n : Int) : Int := j * m / 65536 * n / 65536
theorem chS_bd {j m n : Int} (hj : 0 ≤ j ∧ j ≤ 8796093022208) (hm : 0 ≤ m ∧ m ≤ 1048576) (hn : -65536 ≤ n ∧ n ≤ 65536) : (0 ≤ j * m / 65536 ∧ j * m / 65536 ≤ 140737488355328) ∧ -140737488355328 ≤ chS j m n ∧ chS j m n ≤ 140737488355328 := by
  have h := bd_mul (x := j) (y := m) (A := 8796093022208) (B := 1048576) (by omega) (by omega)
  have h0 := Int.mul_nonneg hj.1 hm.1
  have hk : 0 ≤ j * m / 65536 ∧ j * m / 65536 ≤ 140737488355328 := by omega
  refine ⟨hk, ?_⟩
  unfold chS
  have h2 := bd_mul (x := j * m / 65536) (y := n) (A := 140737488355328) (B := 65536) (by omega) (by omega)
  omega
theorem impulse_Change.is {j m n0 n1 : Int} (hj : 0 ≤ j ∧ j ≤ 8796093022208) (hm : 0 ≤ m ∧ m ≤ 1048576) (hn : NormB n0 n1) : impulse_Change.f j m n0 n1 = some (chS j m n0, chS j m n1) := by
  obtain ⟨g1, g2⟩ := chS_bd hj hm hn.1
  obtain ⟨_, g3⟩ := chS_bd hj hm hn.2
  obtain ⟨c1, c2⟩ := hn
  have e1 : shS j m = j * m / 65536 := by
    unfold shS shiftS
    rw [if_pos (by omega)]
    show ((if i64B (j * m / 2 ^ 16) = true then (j * m / 2 ^ 16, 0) else (0, 3) : Int × Int)).1 = _
    rw [if_pos (i64B_iff.mpr (show -9223372036854775808 ≤ j * m / 2 ^ 16 ∧ j * m / 2 ^ 16 ≤ 9223372036854775807 by omega))]
    exact congrArg (j * m / ·) (show (2 : Int) ^ 16 = 65536 by decide)
  have e2 : ∀ n, -140737488355328 ≤ chS j m n ∧ chS j m n ≤ 140737488355328 → shS (j * m / 65536) n = chS j m n := by
    intro n hb
    unfold shS shiftS
    rw [if_pos (by omega)]
    show ((if i64B (j * m / 65536 * n / 2 ^ 16) = true then (j * m / 65536 * n / 2 ^ 16, 0) else (0, 3) : Int × Int)).1 = _
    unfold chS at *
    rw [if_pos (i64B_iff.mpr (show -9223372036854775808 ≤ j * m / 65536 * n / 2 ^ 16 ∧ j * m / 65536 * n / 2 ^ 16 ≤ 9223372036854775807 by omega))]
    exact congrArg (j * m / 65536 * n / ·) (show (2 : Int) ^ 16 = 65536 by decide)
  unfold impulse_Change.f
  rw [e1, if_pos ⟨i64B_iff.mpr (by omega), i32B_iff.mpr (by omega), i32B_iff.mpr (by omega), i32B_iff.mpr (by omega), i64B_iff.mpr (by omega)⟩, e2 _ g2, e2 _ g3]
theorem floor16 {t : Int} (h : -9223372036854775807 ≤ t ∧ t ≤ 9223372036854775807) {d : Int} (hd : 0 < d) : billiardref01_Floor.f t d = some (t / d) := by
  unfold billiardref01_Floor.f
  exact floor_wrap hd h.1 h.2
theorem billiardref16_Approach.is {p0 p1 n0 n1 dp k0 r0 ax0 ay0 m0 b0 px0 py0 vx0 vy0 k1 r1 ax1 ay1 m1 b1 px1 py1 vx1 vy1 : Int} (h0 : Valid k0 r0 ax0 ay0 m0 b0 px0 py0 vx0 vy0) (h1 : Valid k1 r1 ax1 ay1 m1 b1 px1 py1 vx1 vy1) (hn : NormB n0 n1) :
    billiardref16_Approach.f p0 p1 n0 n1 dp k0 r0 ax0 ay0 m0 b0 px0 py0 vx0 vy0 k1 r1 ax1 ay1 m1 b1 px1 py1 vx1 vy1 = some (apS (vx1 - vx0) (vy1 - vy0) n0 n1) := by
  obtain ⟨_, _, _, _, _, _, _, a1, a2⟩ := h0
  obtain ⟨_, _, _, _, _, _, _, b1, b2⟩ := h1
  obtain ⟨g1, g2, _⟩ := apS_bd (ux := vx1 - vx0) (uy := vy1 - vy0) (by omega) (by omega) hn
  obtain ⟨c1, c2⟩ := hn
  unfold billiardref16_Approach.f apS
  rw [w64_id (n := vx1) (by omega) (by omega), w64_id (n := vx0) (by omega) (by omega), w64_id (n := vy1) (by omega) (by omega), w64_id (n := vy0) (by omega) (by omega), w64_id (n := vx1 - vx0) (by omega) (by omega), w64_id (n := vy1 - vy0) (by omega) (by omega), w64_id (n := n0) (by omega) (by omega), w64_id (n := n1) (by omega) (by omega), w64_id (n := (vx1 - vx0) * n0) (by omega) (by omega), w64_id (n := (vy1 - vy0) * n1) (by omega) (by omega), w64_id (by omega) (by omega), floor16 (by omega) (by omega)]
  rfl
theorem billiardref16_Strength.is {p0 p1 n0 n1 dp k0 r0 ax0 ay0 m0 b0 px0 py0 vx0 vy0 k1 r1 ax1 ay1 m1 b1 px1 py1 vx1 vy1 : Int} (h0 : Valid k0 r0 ax0 ay0 m0 b0 px0 py0 vx0 vy0) (h1 : Valid k1 r1 ax1 ay1 m1 b1 px1 py1 vx1 vy1) (hn : NormB n0 n1) :
    billiardref16_Strength.f p0 p1 n0 n1 dp k0 r0 ax0 ay0 m0 b0 px0 py0 vx0 vy0 k1 r1 ax1 ay1 m1 b1 px1 py1 vx1 vy1 = some (stS (apS (vx1 - vx0) (vy1 - vy0) n0 n1) (m0 + m1) (mx b0 b1)) := by
  have hb := mx_bd h0.b h1.b
  have hm0 := h0.m
  have hm1 := h1.m
  have hap : -67108864 ≤ apS (vx1 - vx0) (vy1 - vy0) n0 n1 ∧ apS (vx1 - vx0) (vy1 - vy0) n0 n1 ≤ 67108864 := by
    obtain ⟨_, _, _, _, _, _, _, a1, a2⟩ := h0
    obtain ⟨_, _, _, _, _, _, _, b1, b2⟩ := h1
    exact (apS_bd (ux := vx1 - vx0) (uy := vy1 - vy0) (by omega) (by omega) hn).2.2
  unfold billiardref16_Strength.f stS
  rw [billiardref16_Approach.is h0 h1 hn]
  simp only [Option.bind_some]
  rw [w64_id (n := m0) (by omega) (by omega), w64_id (n := m1) (by omega) (by omega), w64_id (n := m0 + m1) (by omega) (by omega)]
  generalize apS (vx1 - vx0) (vy1 - vy0) n0 n1 = v at *
  by_cases c : v ≥ 0
  · rw [if_pos c, if_pos c]
  · rw [if_neg c, if_neg c]
    by_cases d : m0 + m1 = 0
    · rw [if_pos d, if_pos d]
    · have h := bd_mul (x := -v) (y := 65536 + mx b0 b1) (A := 67108864) (B := 131072) (by omega) (by omega)
      rw [if_neg d, if_neg d, w64_id (n := mx b0 b1) (by omega) (by omega), w64_id (n := 65536 + mx b0 b1) (by omega) (by omega), w64_id (n := -v) (by omega) (by omega), w64_id (n := -v * (65536 + mx b0 b1)) (by omega) (by omega), floor16 (by omega) (by omega)]
      rfl
theorem billiardref16_ChangeX.is {j m n : Int} (hj : 0 ≤ j ∧ j ≤ 8796093022208) (hm : 0 ≤ m ∧ m ≤ 1048576) (hn : -65536 ≤ n ∧ n ≤ 65536) : billiardref16_ChangeX.f j m n = some (chS j m n) := by
  obtain ⟨g1, g2⟩ := chS_bd hj hm hn
  have e1 : billiardref01_MulShift.f j m 16 = some (j * m / 65536, 0) := by
    unfold billiardref01_MulShift.f mulShiftS
    rw [if_pos ⟨i64B_iff.mpr (by omega), i64B_iff.mpr (by omega), i64B_iff.mpr (by omega)⟩, if_pos (by omega)]
    show some (flR (j * m / 65536)) = _
    rw [flR_yes (i64B_iff.mpr (by omega))]
  have e2 : billiardref01_MulShift.f (j * m / 65536) n 16 = some (chS j m n, 0) := by
    unfold billiardref01_MulShift.f mulShiftS
    rw [if_pos ⟨i64B_iff.mpr (by omega), i64B_iff.mpr (by omega), i64B_iff.mpr (by omega)⟩, if_pos (by omega)]
    show some (flR (chS j m n)) = _
    rw [flR_yes (i64B_iff.mpr (by omega))]
  unfold billiardref16_ChangeX.f
  rw [w64_id (n := m) (by omega) (by omega), w64_id (n := n) (by omega) (by omega), e1]
  simp only [Option.bind_some]
  rw [e2]
  rfl
theorem billiardlaw16_awake.yes (k : Nat) : billiardlaw16_awake.f (k + 1) = some true := at_rounds billiardlaw16_awake.mono (show 1 ≤ k + 1 by omega) (by decide +kernel)
def RightI (n0 n1 k0 r0 ax0 ay0 m0 b0 px0 py0 vx0 vy0 k1 r1 ax1 ay1 m1 b1 px1 py1 vx1 vy1 : Int) : Prop := Valid k0 r0 ax0 ay0 m0 b0 px0 py0 vx0 vy0 ∧ Valid k1 r1 ax1 ay1 m1 b1 px1 py1 vx1 vy1 ∧ NormB n0 n1
theorem RightI_cases (k : Nat) (p0 p1 n0 n1 dp k0 r0 ax0 ay0 m0 b0 px0 py0 vx0 vy0 k1 r1 ax1 ay1 m1 b1 px1 py1 vx1 vy1 : Int) :
    (billiardref16_Right.f (k + 5) p0 p1 n0 n1 dp k0 r0 ax0 ay0 m0 b0 px0 py0 vx0 vy0 k1 r1 ax1 ay1 m1 b1 px1 py1 vx1 vy1 = some true ∧ RightI n0 n1 k0 r0 ax0 ay0 m0 b0 px0 py0 vx0 vy0 k1 r1 ax1 ay1 m1 b1 px1 py1 vx1 vy1) ∨ billiardref16_Right.f (k + 5) p0 p1 n0 n1 dp k0 r0 ax0 ay0 m0 b0 px0 py0 vx0 vy0 k1 r1 ax1 ay1 m1 b1 px1 py1 vx1 vy1 = some false := by
  unfold billiardref16_Right.f
  rcases Check_cases k k0 r0 ax0 ay0 m0 b0 px0 py0 vx0 vy0 with ⟨e, h⟩ | ⟨x, hx, e⟩
  rotate_left
  · exact Or.inr (by rw [e]; simp only [Option.bind_some]; rw [if_neg hx])
  rw [e]
  simp only [Option.bind_some, if_true]
  rcases Check_cases k k1 r1 ax1 ay1 m1 b1 px1 py1 vx1 vy1 with ⟨e, g⟩ | ⟨x, hx, e⟩
  rotate_left
  · exact Or.inr (by rw [e]; simp only [Option.bind_some]; rw [if_neg hx])
  rw [e]
  simp only [Option.bind_some, if_true]
  rw [billiardref05_In.is n0 65536 (by omega), billiardref05_In.is n1 65536 (by omega)]
  by_cases c : -65536 ≤ n0 ∧ n0 ≤ 65536
  · rw [decide_eq_true c]
    by_cases d : -65536 ≤ n1 ∧ n1 ≤ 65536
    · rw [decide_eq_true d]; exact Or.inl ⟨rfl, h, g, c, d⟩
    · rw [decide_eq_false d]; exact Or.inr rfl
  · rw [decide_eq_false c]; exact Or.inr rfl
end Go.Proofs.Ytihgddcaljaojaa.Q
