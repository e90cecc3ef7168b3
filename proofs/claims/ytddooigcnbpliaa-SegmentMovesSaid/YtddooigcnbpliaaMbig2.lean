/- The walks of the reference's wide numbers: a bit, the long division. -/
import Derived.Test.YtddooigcnbpliaaMbig
import Derived.Deep.LoopGhost
namespace Go.Proofs.Ytddooigcnbpliaa.Q
open Go.RowKit Go.Proofs.YtddooigcnbpliaaW.PrintWords Go.Proofs.YtddooigcnbpliaaW.PrintLast Go.Proofs.YtddooigcnbpliaaW.PrintMore
set_option linter.unusedVariables false
set_option linter.unusedSimpArgs false

/-- Digit j of eight. -/
def digS (z0 z1 z2 z3 z4 z5 z6 z7 : Int) : Nat → Int
  | 0 => z0
  | 1 => z1
  | 2 => z2
  | 3 => z3
  | 4 => z4
  | 5 => z5
  | 6 => z6
  | _ => z7
def half (d : Int) : Nat → Int
  | 0 => d
  | k + 1 => half d k / 2
theorem half_bd (d : Int) (h0 : 0 ≤ d) (h1 : d ≤ 65535) : ∀ k, 0 ≤ half d k ∧ half d k ≤ 65535
  | 0 => ⟨h0, h1⟩
  | k + 1 => by
    have := half_bd d h0 h1 k
    unfold half
    omega
theorem half_pow (d : Int) : ∀ k, half d k = d / 2 ^ k
  | 0 => by simp [half]
  | k + 1 => by
    rw [half, half_pow d k, Int.pow_succ, Int.ediv_ediv_of_nonneg (Int.pow_nonneg (by decide))]
def BitEnd (v : Int) (w : World) (e : Ending) (w' : World) : Prop := e = .returned (.int .u64 v) ∧ Below w.heap.size w w'
set_option maxHeartbeats 1000000 in
theorem ref01_bit.at (z0 z1 z2 z3 z4 z5 z6 z7 : Int) (hz : Dig8 z0 z1 z2 z3 z4 z5 z6 z7) (j m : Nat) (hj : j < 8) (hm : m < 16) (i : Int) (hi : i = 16 * j + m) (w : World) :
    Calls Try.prog 40 #[bigV z0 z1 z2 z3 z4 z5 z6 z7, .int .i64 i] w (BitEnd (half (digS z0 z1 z2 z3 z4 z5 z6 z7 j) m % 2) w) := by
  have e1 : i / 16 = (j : Int) := by omega
  have e2 : i % 16 = (m : Int) := by omega
  have i0 : 0 ≤ i := by omega
  have i1 : i ≤ 127 := by omega
  clear hi
  simp only [bigV]
  rcases (by omega : j = 0 ∨ j = 1 ∨ j = 2 ∨ j = 3 ∨ j = 4 ∨ j = 5 ∨ j = 6 ∨ j = 7) with rfl | rfl | rfl | rfl | rfl | rfl | rfl | rfl
  · have hb := hz.b0
    have hd := half_bd z0 hb.1 hb.2
    go_enter Try.func40, Try.ntmps40
    go_wp2
    go_loop [5, 6] (fun n k => ∃ kN : Nat, kN ≤ m ∧ k = .int .i64 kN ∧ n = .int .u64 (half z0 kN)) (fun _ k => m - (intOf k).toNat)
    case atStart => exact ⟨0, by omega, rfl, rfl⟩
    case round =>
      obtain ⟨kN, hk, rfl, rfl⟩ := hrel
      have hdk := hd kN
      have hs : half z0 (kN + 1) = half z0 kN / 2 := rfl
      have HS := Lib.hid hs
      clear hs hd
      by_cases hlt : kN < m
      · have t1 : decide (kN < m) = true := decide_eq_true hlt
        go_wp2
        go_round
        case rel => exact ⟨kN + 1, by omega, by go_num, by rw [HS.out]⟩
        case measure => simp [intOf]; omega
      · have t1 : decide (kN < m) = false := decide_eq_false hlt
        go_wp2
        go_ret
        exact ⟨by rw [show kN = m by omega]; rfl, below_alloc (Below.refl _ _) _⟩
  · have hb := hz.b1
    have hd := half_bd z1 hb.1 hb.2
    go_enter Try.func40, Try.ntmps40
    go_wp2
    go_loop [5, 6] (fun n k => ∃ kN : Nat, kN ≤ m ∧ k = .int .i64 kN ∧ n = .int .u64 (half z1 kN)) (fun _ k => m - (intOf k).toNat)
    case atStart => exact ⟨0, by omega, rfl, rfl⟩
    case round =>
      obtain ⟨kN, hk, rfl, rfl⟩ := hrel
      have hdk := hd kN
      have hs : half z1 (kN + 1) = half z1 kN / 2 := rfl
      have HS := Lib.hid hs
      clear hs hd
      by_cases hlt : kN < m
      · have t1 : decide (kN < m) = true := decide_eq_true hlt
        go_wp2
        go_round
        case rel => exact ⟨kN + 1, by omega, by go_num, by rw [HS.out]⟩
        case measure => simp [intOf]; omega
      · have t1 : decide (kN < m) = false := decide_eq_false hlt
        go_wp2
        go_ret
        exact ⟨by rw [show kN = m by omega]; rfl, below_alloc (Below.refl _ _) _⟩
  · have hb := hz.b2
    have hd := half_bd z2 hb.1 hb.2
    go_enter Try.func40, Try.ntmps40
    go_wp2
    go_loop [5, 6] (fun n k => ∃ kN : Nat, kN ≤ m ∧ k = .int .i64 kN ∧ n = .int .u64 (half z2 kN)) (fun _ k => m - (intOf k).toNat)
    case atStart => exact ⟨0, by omega, rfl, rfl⟩
    case round =>
      obtain ⟨kN, hk, rfl, rfl⟩ := hrel
      have hdk := hd kN
      have hs : half z2 (kN + 1) = half z2 kN / 2 := rfl
      have HS := Lib.hid hs
      clear hs hd
      by_cases hlt : kN < m
      · have t1 : decide (kN < m) = true := decide_eq_true hlt
        go_wp2
        go_round
        case rel => exact ⟨kN + 1, by omega, by go_num, by rw [HS.out]⟩
        case measure => simp [intOf]; omega
      · have t1 : decide (kN < m) = false := decide_eq_false hlt
        go_wp2
        go_ret
        exact ⟨by rw [show kN = m by omega]; rfl, below_alloc (Below.refl _ _) _⟩
  · have hb := hz.b3
    have hd := half_bd z3 hb.1 hb.2
    go_enter Try.func40, Try.ntmps40
    go_wp2
    go_loop [5, 6] (fun n k => ∃ kN : Nat, kN ≤ m ∧ k = .int .i64 kN ∧ n = .int .u64 (half z3 kN)) (fun _ k => m - (intOf k).toNat)
    case atStart => exact ⟨0, by omega, rfl, rfl⟩
    case round =>
      obtain ⟨kN, hk, rfl, rfl⟩ := hrel
      have hdk := hd kN
      have hs : half z3 (kN + 1) = half z3 kN / 2 := rfl
      have HS := Lib.hid hs
      clear hs hd
      by_cases hlt : kN < m
      · have t1 : decide (kN < m) = true := decide_eq_true hlt
        go_wp2
        go_round
        case rel => exact ⟨kN + 1, by omega, by go_num, by rw [HS.out]⟩
        case measure => simp [intOf]; omega
      · have t1 : decide (kN < m) = false := decide_eq_false hlt
        go_wp2
        go_ret
        exact ⟨by rw [show kN = m by omega]; rfl, below_alloc (Below.refl _ _) _⟩
  · have hb := hz.b4
    have hd := half_bd z4 hb.1 hb.2
    go_enter Try.func40, Try.ntmps40
    go_wp2
    go_loop [5, 6] (fun n k => ∃ kN : Nat, kN ≤ m ∧ k = .int .i64 kN ∧ n = .int .u64 (half z4 kN)) (fun _ k => m - (intOf k).toNat)
    case atStart => exact ⟨0, by omega, rfl, rfl⟩
    case round =>
      obtain ⟨kN, hk, rfl, rfl⟩ := hrel
      have hdk := hd kN
      have hs : half z4 (kN + 1) = half z4 kN / 2 := rfl
      have HS := Lib.hid hs
      clear hs hd
      by_cases hlt : kN < m
      · have t1 : decide (kN < m) = true := decide_eq_true hlt
        go_wp2
        go_round
        case rel => exact ⟨kN + 1, by omega, by go_num, by rw [HS.out]⟩
        case measure => simp [intOf]; omega
      · have t1 : decide (kN < m) = false := decide_eq_false hlt
        go_wp2
        go_ret
        exact ⟨by rw [show kN = m by omega]; rfl, below_alloc (Below.refl _ _) _⟩
  · have hb := hz.b5
    have hd := half_bd z5 hb.1 hb.2
    go_enter Try.func40, Try.ntmps40
    go_wp2
    go_loop [5, 6] (fun n k => ∃ kN : Nat, kN ≤ m ∧ k = .int .i64 kN ∧ n = .int .u64 (half z5 kN)) (fun _ k => m - (intOf k).toNat)
    case atStart => exact ⟨0, by omega, rfl, rfl⟩
    case round =>
      obtain ⟨kN, hk, rfl, rfl⟩ := hrel
      have hdk := hd kN
      have hs : half z5 (kN + 1) = half z5 kN / 2 := rfl
      have HS := Lib.hid hs
      clear hs hd
      by_cases hlt : kN < m
      · have t1 : decide (kN < m) = true := decide_eq_true hlt
        go_wp2
        go_round
        case rel => exact ⟨kN + 1, by omega, by go_num, by rw [HS.out]⟩
        case measure => simp [intOf]; omega
      · have t1 : decide (kN < m) = false := decide_eq_false hlt
        go_wp2
        go_ret
        exact ⟨by rw [show kN = m by omega]; rfl, below_alloc (Below.refl _ _) _⟩
  · have hb := hz.b6
    have hd := half_bd z6 hb.1 hb.2
    go_enter Try.func40, Try.ntmps40
    go_wp2
    go_loop [5, 6] (fun n k => ∃ kN : Nat, kN ≤ m ∧ k = .int .i64 kN ∧ n = .int .u64 (half z6 kN)) (fun _ k => m - (intOf k).toNat)
    case atStart => exact ⟨0, by omega, rfl, rfl⟩
    case round =>
      obtain ⟨kN, hk, rfl, rfl⟩ := hrel
      have hdk := hd kN
      have hs : half z6 (kN + 1) = half z6 kN / 2 := rfl
      have HS := Lib.hid hs
      clear hs hd
      by_cases hlt : kN < m
      · have t1 : decide (kN < m) = true := decide_eq_true hlt
        go_wp2
        go_round
        case rel => exact ⟨kN + 1, by omega, by go_num, by rw [HS.out]⟩
        case measure => simp [intOf]; omega
      · have t1 : decide (kN < m) = false := decide_eq_false hlt
        go_wp2
        go_ret
        exact ⟨by rw [show kN = m by omega]; rfl, below_alloc (Below.refl _ _) _⟩
  · have hb := hz.b7
    have hd := half_bd z7 hb.1 hb.2
    go_enter Try.func40, Try.ntmps40
    go_wp2
    go_loop [5, 6] (fun n k => ∃ kN : Nat, kN ≤ m ∧ k = .int .i64 kN ∧ n = .int .u64 (half z7 kN)) (fun _ k => m - (intOf k).toNat)
    case atStart => exact ⟨0, by omega, rfl, rfl⟩
    case round =>
      obtain ⟨kN, hk, rfl, rfl⟩ := hrel
      have hdk := hd kN
      have hs : half z7 (kN + 1) = half z7 kN / 2 := rfl
      have HS := Lib.hid hs
      clear hs hd
      by_cases hlt : kN < m
      · have t1 : decide (kN < m) = true := decide_eq_true hlt
        go_wp2
        go_round
        case rel => exact ⟨kN + 1, by omega, by go_num, by rw [HS.out]⟩
        case measure => simp [intOf]; omega
      · have t1 : decide (kN < m) = false := decide_eq_false hlt
        go_wp2
        go_ret
        exact ⟨by rw [show kN = m by omega]; rfl, below_alloc (Below.refl _ _) _⟩
theorem bit_val {z0 z1 z2 z3 z4 z5 z6 z7 P : Int} (hz : Dig8 z0 z1 z2 z3 z4 z5 z6 z7) (hP : valS z0 z1 z2 z3 z4 z5 z6 z7 = P) (j m : Nat) (hj : j < 8) (hm : m < 16) : half (digS z0 z1 z2 z3 z4 z5 z6 z7 j) m % 2 = P / 2 ^ (16 * j + m) % 2 := by
  obtain ⟨b0, b1, b2, b3, b4, b5, b6, b7⟩ := hz
  have hd : digS z0 z1 z2 z3 z4 z5 z6 z7 j = P / 2 ^ (16 * j) % 65536 := by
    subst hP
    unfold valS
    rcases (by omega : j = 0 ∨ j = 1 ∨ j = 2 ∨ j = 3 ∨ j = 4 ∨ j = 5 ∨ j = 6 ∨ j = 7) with rfl | rfl | rfl | rfl | rfl | rfl | rfl | rfl <;> simp only [digS, Nat.reduceMul, Int.reducePow] <;> omega
  rw [half_pow, hd, Int.pow_add, ← Int.ediv_ediv_of_nonneg (Int.pow_nonneg (by decide))]
  generalize P / 2 ^ (16 * j) = X
  rcases (by omega : m = 0 ∨ m = 1 ∨ m = 2 ∨ m = 3 ∨ m = 4 ∨ m = 5 ∨ m = 6 ∨ m = 7 ∨ m = 8 ∨ m = 9 ∨ m = 10 ∨ m = 11 ∨ m = 12 ∨ m = 13 ∨ m = 14 ∨ m = 15) with rfl | rfl | rfl | rfl | rfl | rfl | rfl | rfl | rfl | rfl | rfl | rfl | rfl | rfl | rfl | rfl <;> simp only [Int.reducePow] <;> omega
def bitS (P : Int) (i : Nat) : Int := P / 2 ^ i % 2
theorem bitS_bd (P : Int) (i : Nat) : 0 ≤ bitS P i ∧ bitS P i ≤ 1 := by unfold bitS; omega
theorem ref01_bit.same {z0 z1 z2 z3 z4 z5 z6 z7 P : Int} (hz : Dig8 z0 z1 z2 z3 z4 z5 z6 z7) (hP : valS z0 z1 z2 z3 z4 z5 z6 z7 = P) (i : Nat) (hi : i < 128) (w : World) :
    Calls Try.prog 40 #[bigV z0 z1 z2 z3 z4 z5 z6 z7, .int .i64 (i : Int)] w (BitEnd (bitS P i) w) := by
  have h := ref01_bit.at z0 z1 z2 z3 z4 z5 z6 z7 hz (i / 16) (i % 16) (by omega) (by omega) (i : Int) (by omega) w
  rw [bit_val hz hP _ _ (by omega) (by omega), show 16 * (i / 16) + i % 16 = i by omega] at h
  exact h

def dq (P d : Int) (n : Nat) : Int := P / 2 ^ n / d
def dr (P d : Int) (n : Nat) : Int := P / 2 ^ n % d
theorem div_step (P d : Int) (hd : 0 < d) (m : Nat) :
    dq P d m = 2 * dq P d (m + 1) + (if d ≤ 2 * dr P d (m + 1) + bitS P m then 1 else 0) ∧ dr P d m = 2 * dr P d (m + 1) + bitS P m - (if d ≤ 2 * dr P d (m + 1) + bitS P m then d else 0) := by
  have e : P / 2 ^ (m + 1) = P / 2 ^ m / 2 := by rw [Int.pow_succ, Int.ediv_ediv_of_nonneg (Int.pow_nonneg (by decide))]
  unfold dq dr bitS
  rw [e]
  generalize P / 2 ^ m = X
  have h1 := Int.emod_add_mul_ediv (X / 2) d
  have h2 := Int.emod_nonneg (X / 2) (show d ≠ 0 by omega)
  have h3 := Int.emod_lt_of_pos (X / 2) hd
  obtain ⟨q, hq⟩ : ∃ q, q = X / 2 / d := ⟨_, rfl⟩
  obtain ⟨r, hr⟩ : ∃ r, r = X / 2 % d := ⟨_, rfl⟩
  rw [← hq] at h1 ⊢
  rw [← hr] at h1 h2 h3 ⊢
  have hX : X = 2 * (d * q) + (2 * r + X % 2) := by omega
  by_cases c : d ≤ 2 * r + X % 2
  · rw [if_pos c, if_pos c]
    exact div_uniq (by omega) (by omega) (by rw [Int.add_mul, Int.mul_assoc, Int.mul_comm q d]; omega)
  · rw [if_neg c, if_neg c]
    have := div_uniq (n := X) (d := d) (q := 2 * q + 0) (r := 2 * r + X % 2 - 0) (by omega) (by omega) (by rw [Int.add_mul, Int.mul_assoc, Int.mul_comm q d]; omega)
    exact this
theorem dq_nn (P d : Int) (hP : 0 ≤ P) (hd : 0 < d) (n : Nat) : 0 ≤ dq P d n := Int.ediv_nonneg (Int.ediv_nonneg hP (Int.pow_nonneg (by decide))) (by omega)
theorem dr_bd (P d : Int) (hd : 0 < d) (n : Nat) : 0 ≤ dr P d n ∧ dr P d n < d := ⟨Int.emod_nonneg _ (by omega), Int.emod_lt_of_pos _ hd⟩
/-- The state of the long division at n bits to come. -/
theorem val_bd {z0 z1 z2 z3 z4 z5 z6 z7 P : Int} (hz : Dig8 z0 z1 z2 z3 z4 z5 z6 z7) (hP : valS z0 z1 z2 z3 z4 z5 z6 z7 = P) : 0 ≤ P ∧ P < 340282366920938463463374607431768211456 := by
  obtain ⟨b0, b1, b2, b3, b4, b5, b6, b7⟩ := hz
  unfold valS at hP
  omega
structure DivSt (P d : Int) (n : Nat) (q r : Int) (s : Bool) : Prop where
  q : q = dq P d n % 18446744073709551616
  r : r = dr P d n
  s : s = decide (dq P d n < 18446744073709551616)
theorem DivSt.next {P d q r fw q2 r2 q3 : Int} {m : Nat} {s po pq pd : Bool} (hP : 0 ≤ P) (hd : 0 < d) (hd2 : d ≤ 18446744073709551615) (h : DivSt P d (m + 1) q r s) (h1 : decide (9223372036854775808 ≤ r) = po) (h2 : decide (9223372036854775808 ≤ q) = pq) (h3 : decide (d ≤ fw) = pd)
    (e1 : IntKind.u64.wrap (IntKind.u64.wrap (2 * r) + bitS P m) = fw) (e2 : IntKind.u64.wrap (2 * q) = q2) (e3 : IntKind.u64.wrap (fw - d) = r2) (e4 : IntKind.u64.wrap (q2 + 1) = q3) :
    DivSt P d m (if (po || pd) = true then q3 else q2) (if (po || pd) = true then r2 else fw) (s && !pq) := by
  obtain ⟨hq, hr, hs⟩ := h
  obtain ⟨s1, s2⟩ := div_step P d hd m
  have b := bitS_bd P m
  have rb := dr_bd P d hd (m + 1)
  have qn := dq_nn P d hP hd (m + 1)
  rw [← hr] at s1 s2 rb
  subst h1 h2 h3 e3 e4 e2
  simp only [IntKind.wrap_u64] at e1 ⊢
  generalize bitS P m = bt at *
  generalize dq P d (m + 1) = Q at *
  have key : (decide (9223372036854775808 ≤ r) || decide (d ≤ fw)) = decide (d ≤ 2 * r + bt) := by
    rw [Bool.eq_iff_iff]; simp; omega
  rw [key]
  by_cases c : d ≤ 2 * r + bt
  · rw [if_pos c] at s1 s2
    rw [decide_eq_true c, if_pos rfl, if_pos rfl]
    refine ⟨by rw [s1]; omega, by rw [s2]; omega, ?_⟩
    rw [s1, hs, Bool.eq_iff_iff]; simp; omega
  · rw [if_neg c] at s1 s2
    rw [decide_eq_false c, if_neg (by decide), if_neg (by decide)]
    refine ⟨by rw [s1]; omega, by rw [s2]; omega, ?_⟩
    rw [s1, hs, Bool.eq_iff_iff]; simp; omega
theorem bcell {W w1 : World} {B : Nat} (hb : Below B W w1) : (∀ b o, b < B → w1.cell? ⟨b, o, none⟩ = W.cell? ⟨b, o, none⟩) ∧ (∀ b o, b < B → w1.frozen? ⟨b, o, none⟩ = W.frozen? ⟨b, o, none⟩) :=
  ⟨fun b o h => hb.cell (p := ⟨b, o, none⟩) h, fun b o h => hb.frozen (p := ⟨b, o, none⟩) h⟩
theorem DivSt.start {P d : Int} (h0 : 0 ≤ P) (h1 : P < 340282366920938463463374607431768211456) : DivSt P d 128 0 0 true := by
  have e : P / 2 ^ 128 = 0 := Int.ediv_eq_zero_of_lt h0 (by simpa using h1)
  exact ⟨by unfold dq; rw [e]; simp, by unfold dr; rw [e]; simp, by unfold dq; rw [e]; simp⟩
def DivEnd (P d : Int) (w : World) (e : Ending) (w' : World) : Prop := ∃ q r s, DivSt P d 0 q r s ∧ e = .returned (.tuple #[.int .u64 q, .int .u64 r, .bool s]) ∧ Below w.heap.size w w'
set_option maxHeartbeats 4000000 in
set_option maxRecDepth 100000 in
theorem ref01_divide.same {z0 z1 z2 z3 z4 z5 z6 z7 P : Int} (hz : Dig8 z0 z1 z2 z3 z4 z5 z6 z7) (hP : valS z0 z1 z2 z3 z4 z5 z6 z7 = P) (d : Int) (hd : 0 < d ∧ d ≤ 18446744073709551615) (w : World) :
    Calls Try.prog 33 #[bigV z0 z1 z2 z3 z4 z5 z6 z7, .int .u64 d] w (DivEnd P d w) := by
  have HBit := Lib.hid (fun (i : Nat) (hi : i < 128) (w : World) => ref01_bit.same hz hP i hi w)
  have hd0 := Lib.hid hd
  have hv := Lib.hid (val_bd hz hP)
  clear hz hP hd
  simp only [bigV] at HBit ⊢
  go_enter Try.func33, Try.ntmps33
  go_wp2
  go_loopw [7, 8, 9, 10] (fun q r s i wr => ∃ (n : Nat) (qv rv iI : Int) (sv : Bool), n ≤ 128 ∧ iI + 1 = n ∧ q = .int .u64 qv ∧ r = .int .u64 rv ∧ s = .bool sv ∧ i = .int .i64 iI ∧ Hid (DivSt P d n qv rv sv) ∧ Below (w.heap.size + 1) (w.alloc (.cells #[.int .u64 z0, .int .u64 z1, .int .u64 z2, .int .u64 z3, .int .u64 z4, .int .u64 z5, .int .u64 z6, .int .u64 z7] 63)) wr) (fun _ _ _ i _ => (intOf i + 1).toNat)
  case atStart => exact ⟨128, 0, 0, 127, true, by omega, by omega, rfl, rfl, rfl, rfl, Lib.hid (DivSt.start hv.out.1 hv.out.2), Below.refl _ _⟩
  case round =>
    obtain ⟨n, qv, rv, iI, sv, hn, hi, rfl, rfl, rfl, rfl, hst, hb⟩ := hrel
    cases n with
    | zero =>
      obtain rfl : iI = -1 := by omega
      go_wp2
      go_ret3
      exact ⟨qv, rv, sv, hst.out, rfl, (below_alloc (Below.refl _ _) _).trans (hb.mono (by omega))⟩
    | succ m =>
      obtain rfl : iI = (m : Int) := by omega
      obtain ⟨po, h1⟩ : ∃ p, decide (9223372036854775808 ≤ rv) = p := ⟨_, rfl⟩
      obtain ⟨pq, h2⟩ : ∃ p, decide (9223372036854775808 ≤ qv) = p := ⟨_, rfl⟩
      obtain ⟨fw, e1⟩ : ∃ p, IntKind.u64.wrap (IntKind.u64.wrap (2 * rv) + bitS P m) = p := ⟨_, rfl⟩
      obtain ⟨pd, h3⟩ : ∃ p, decide (d ≤ fw) = p := ⟨_, rfl⟩
      obtain ⟨q2, e2⟩ : ∃ p, IntKind.u64.wrap (2 * qv) = p := ⟨_, rfl⟩
      obtain ⟨r2, e3⟩ : ∃ p, IntKind.u64.wrap (fw - d) = p := ⟨_, rfl⟩
      obtain ⟨q3, e4⟩ : ∃ p, IntKind.u64.wrap (q2 + 1) = p := ⟨_, rfl⟩
      have HN := Lib.hid (DivSt.next hv.out.1 hd0.out.1 hd0.out.2 hst.out h1 h2 h3 e1 e2 e3 e4)
      clear hst
      obtain ⟨hc, hf⟩ := bcell hb
      have hm : m < 128 := by omega
      have hsz := hb.size
      cases po <;> cases pq <;> cases pd
      case false.false.false =>
        go_wp2_with (go_at_call 40; refine (HBit.out m hm _).mono ?_; rintro e w' ⟨rfl, hb1⟩)
        exact ⟨⟨m, q2, fw, (m : Int) - 1, sv, by omega, by omega, rfl, rfl, rfl, rfl, Lib.hid (by simpa using HN.out), below_then hb (by simpa using hsz) hb1⟩, by simp [intOf]⟩
      case false.false.true =>
        go_wp2_with (go_at_call 40; refine (HBit.out m hm _).mono ?_; rintro e w' ⟨rfl, hb1⟩)
        exact ⟨⟨m, q3, r2, (m : Int) - 1, sv, by omega, by omega, rfl, rfl, rfl, rfl, Lib.hid (by simpa using HN.out), below_then hb (by simpa using hsz) hb1⟩, by simp [intOf]⟩
      case false.true.false =>
        go_wp2_with (go_at_call 40; refine (HBit.out m hm _).mono ?_; rintro e w' ⟨rfl, hb1⟩)
        exact ⟨⟨m, q2, fw, (m : Int) - 1, false, by omega, by omega, rfl, rfl, rfl, rfl, Lib.hid (by simpa using HN.out), below_then hb (by simpa using hsz) hb1⟩, by simp [intOf]⟩
      case false.true.true =>
        go_wp2_with (go_at_call 40; refine (HBit.out m hm _).mono ?_; rintro e w' ⟨rfl, hb1⟩)
        exact ⟨⟨m, q3, r2, (m : Int) - 1, false, by omega, by omega, rfl, rfl, rfl, rfl, Lib.hid (by simpa using HN.out), below_then hb (by simpa using hsz) hb1⟩, by simp [intOf]⟩
      case true.false.false =>
        go_wp2_with (go_at_call 40; refine (HBit.out m hm _).mono ?_; rintro e w' ⟨rfl, hb1⟩)
        exact ⟨⟨m, q3, r2, (m : Int) - 1, sv, by omega, by omega, rfl, rfl, rfl, rfl, Lib.hid (by simpa using HN.out), below_then hb (by simpa using hsz) hb1⟩, by simp [intOf]⟩
      case true.false.true =>
        go_wp2_with (go_at_call 40; refine (HBit.out m hm _).mono ?_; rintro e w' ⟨rfl, hb1⟩)
        exact ⟨⟨m, q3, r2, (m : Int) - 1, sv, by omega, by omega, rfl, rfl, rfl, rfl, Lib.hid (by simpa using HN.out), below_then hb (by simpa using hsz) hb1⟩, by simp [intOf]⟩
      case true.true.false =>
        go_wp2_with (go_at_call 40; refine (HBit.out m hm _).mono ?_; rintro e w' ⟨rfl, hb1⟩)
        exact ⟨⟨m, q3, r2, (m : Int) - 1, false, by omega, by omega, rfl, rfl, rfl, rfl, Lib.hid (by simpa using HN.out), below_then hb (by simpa using hsz) hb1⟩, by simp [intOf]⟩
      case true.true.true =>
        go_wp2_with (go_at_call 40; refine (HBit.out m hm _).mono ?_; rintro e w' ⟨rfl, hb1⟩)
        exact ⟨⟨m, q3, r2, (m : Int) - 1, false, by omega, by omega, rfl, rfl, rfl, rfl, Lib.hid (by simpa using HN.out), below_then hb (by simpa using hsz) hb1⟩, by simp [intOf]⟩
end Go.Proofs.Ytddooigcnbpliaa.Q
