-- PRINTED by print.py (a twelfth state) out of the translation. Not trusted: Lean checks it.
import Derived.Test.YtcbdcgghccjdpaaQ0
import Derived.Test.YtcbdcgghccjdpaaMspec
import Derived.Test.YtcbdcgghccjdpaaMbig2
namespace Go.Proofs.Ytcbdcgghccjdpaa.Q
open Go.RowKit Go.Proofs.YtcbdcgghccjdpaaW.PrintWords Go.Proofs.YtcbdcgghccjdpaaW.PrintLast Go.Proofs.YtcbdcgghccjdpaaW.PrintMore
attribute [local go_sem] max2_int min2_int max_two min_two max_three min_three max_four min_four   -- for this text's walks alone
set_option linter.unusedVariables false
set_option linter.unusedSimpArgs false

/-! ### billiardref01_Floor: function 44 -/
def billiardref01_Floor.f (a0 : Int) (a1 : Int) : Option (Int) := if a1 = 0 then (none) else (if (Int.tmod a0 a1) < 0 then (some (wrap64 ((wrap64 (Int.tdiv a0 a1)) - 1))) else (some (wrap64 (Int.tdiv a0 a1))))
set_option maxHeartbeats 8000000 in
set_option maxRecDepth 100000 in
theorem billiardref01_Floor.calls (a0 : Int) (a1 : Int) (r : Int) (w : World) (h : billiardref01_Floor.f a0 a1 = some r) :
  Calls Try.prog 44 #[.int .i64 a0, .int .i64 a1] w fun e w' => e = .returned (.int .i64 r) ∧ Drawn0 w w' := by
 have H : (if a1 = 0 then (none) else (if (Int.tmod a0 a1) < 0 then (some (wrap64 ((wrap64 (Int.tdiv a0 a1)) - 1))) else (some (wrap64 (Int.tdiv a0 a1))))) = some r := h
 clear h
 by_cases c3 : a1 = 0
 ·rw [if_pos c3] at H
  exact absurd H (by simp)
 ·rw [if_neg c3] at H
  have c3b0 : (a1 == 0) = false := beq_eq_false_iff_ne.mpr c3
  have c3b1 : (a1 != 0) = true := bne_iff_ne.mpr c3
  by_cases c4 : (Int.tmod a0 a1) < 0
  ·rw [if_pos c4] at H
   have c4b0 : decide ((Int.tmod a0 a1) < 0) = true := decide_eq_true c4
   clear c4
   obtain rfl := Option.some.inj H
   go_enter Try.func44, Try.ntmps44
   go_wp2
   go_ret
   exact ⟨by first | rfl | (simp; done) | (simp [*]; done), by repeat (first | exact Drawn0.refl _ | apply Drawn0.step)⟩
  ·rw [if_neg c4] at H
   have c4b0 : decide ((Int.tmod a0 a1) < 0) = false := decide_eq_false c4
   clear c4
   obtain rfl := Option.some.inj H
   go_enter Try.func44, Try.ntmps44
   go_wp2
   go_ret
   exact ⟨by first | rfl | (simp; done) | (simp [*]; done), by repeat (first | exact Drawn0.refl _ | apply Drawn0.step)⟩

/-! ### billiardref01_floor: function 56 -/
def billiardref01_floor.f (a0 : Int) (a1 : Int) (a2 : Bool) (a3 : Bool) : Option (Int × Bool) := if a3 = true then (if a1 > 0 then (if a0 = 18446744073709551615 then (some (0, false)) else (if a2 = true then (some (wrap64 (IntKind.u64.wrap (-(IntKind.u64.wrap (a0 + 1)))), decide ((IntKind.u64.wrap (a0 + 1)) ≤ 9223372036854775808))) else (some (wrap64 (IntKind.u64.wrap (-(IntKind.u64.wrap (a0 + 1)))), false)))) else (if a2 = true then (some (wrap64 (IntKind.u64.wrap (-a0)), decide (a0 ≤ 9223372036854775808))) else (some (wrap64 (IntKind.u64.wrap (-a0)), false)))) else (if a2 = true then (some (wrap64 (a0), decide (a0 < 9223372036854775808))) else (some (wrap64 (a0), false)))
set_option maxHeartbeats 8000000 in
set_option maxRecDepth 100000 in
theorem billiardref01_floor.calls (a0 : Int) (a1 : Int) (a2 : Bool) (a3 : Bool) (r1 : Int) (r2 : Bool) (w : World) (h : billiardref01_floor.f a0 a1 a2 a3 = some (r1, r2)) :
  Calls Try.prog 56 #[.int .u64 a0, .int .u64 a1, .bool a2, .bool a3] w fun e w' => e = .returned (.tuple #[.int .i64 r1, .bool r2]) ∧ Drawn0 w w' := by
 have H : (if a3 = true then (if a1 > 0 then (if a0 = 18446744073709551615 then (some (0, false)) else (if a2 = true then (some (wrap64 (IntKind.u64.wrap (-(IntKind.u64.wrap (a0 + 1)))), decide ((IntKind.u64.wrap (a0 + 1)) ≤ 9223372036854775808))) else (some (wrap64 (IntKind.u64.wrap (-(IntKind.u64.wrap (a0 + 1)))), false)))) else (if a2 = true then (some (wrap64 (IntKind.u64.wrap (-a0)), decide (a0 ≤ 9223372036854775808))) else (some (wrap64 (IntKind.u64.wrap (-a0)), false)))) else (if a2 = true then (some (wrap64 (a0), decide (a0 < 9223372036854775808))) else (some (wrap64 (a0), false)))) = some (r1, r2) := h
 clear h
 by_cases c5 : a3 = true
 ·subst c5
  rw [if_pos rfl] at H
  by_cases c6 : a1 > 0
  ·rw [if_pos c6] at H
   have c6b0 : decide (0 < a1) = true := decide_eq_true c6
   clear c6
   by_cases c7 : a0 = 18446744073709551615
   ·rw [if_pos c7] at H
    have c7b0 : (a0 == 18446744073709551615) = true := beq_iff_eq.mpr c7
    have c7b1 : (a0 != 18446744073709551615) = false := bne_eq_false_iff_eq.mpr c7
    clear c7
    simp only [Option.some.injEq, Prod.mk.injEq] at H
    obtain ⟨rfl, rfl⟩ := H
    go_enter Try.func56, Try.ntmps56
    go_wp2
    go_ret2
    exact ⟨by first | rfl | (simp; done) | (simp [*]; done), by repeat (first | exact Drawn0.refl _ | apply Drawn0.step)⟩
   ·rw [if_neg c7] at H
    have c7b0 : (a0 == 18446744073709551615) = false := beq_eq_false_iff_ne.mpr c7
    have c7b1 : (a0 != 18446744073709551615) = true := bne_iff_ne.mpr c7
    by_cases c8 : a2 = true
    ·subst c8
     rw [if_pos rfl] at H
     simp only [Option.some.injEq, Prod.mk.injEq] at H
     obtain ⟨rfl, rfl⟩ := H
     go_enter Try.func56, Try.ntmps56
     go_wp2
     go_ret2
     exact ⟨by first | rfl | (simp; done) | (simp [*]; done), by repeat (first | exact Drawn0.refl _ | apply Drawn0.step)⟩
    ·replace c8 := Bool.eq_false_iff.mpr c8
     subst c8
     rw [if_neg (show ¬ (false = true) by decide)] at H
     simp only [Option.some.injEq, Prod.mk.injEq] at H
     obtain ⟨rfl, rfl⟩ := H
     go_enter Try.func56, Try.ntmps56
     go_wp2
     go_ret2
     exact ⟨by first | rfl | (simp; done) | (simp [*]; done), by repeat (first | exact Drawn0.refl _ | apply Drawn0.step)⟩
  ·rw [if_neg c6] at H
   have c6b0 : decide (0 < a1) = false := decide_eq_false c6
   clear c6
   by_cases c9 : a2 = true
   ·subst c9
    rw [if_pos rfl] at H
    simp only [Option.some.injEq, Prod.mk.injEq] at H
    obtain ⟨rfl, rfl⟩ := H
    go_enter Try.func56, Try.ntmps56
    go_wp2
    go_ret2
    exact ⟨by first | rfl | (simp; done) | (simp [*]; done), by repeat (first | exact Drawn0.refl _ | apply Drawn0.step)⟩
   ·replace c9 := Bool.eq_false_iff.mpr c9
    subst c9
    rw [if_neg (show ¬ (false = true) by decide)] at H
    simp only [Option.some.injEq, Prod.mk.injEq] at H
    obtain ⟨rfl, rfl⟩ := H
    go_enter Try.func56, Try.ntmps56
    go_wp2
    go_ret2
    exact ⟨by first | rfl | (simp; done) | (simp [*]; done), by repeat (first | exact Drawn0.refl _ | apply Drawn0.step)⟩
 ·replace c5 := Bool.eq_false_iff.mpr c5
  subst c5
  rw [if_neg (show ¬ (false = true) by decide)] at H
  by_cases c10 : a2 = true
  ·subst c10
   rw [if_pos rfl] at H
   simp only [Option.some.injEq, Prod.mk.injEq] at H
   obtain ⟨rfl, rfl⟩ := H
   go_enter Try.func56, Try.ntmps56
   go_wp2
   go_ret2
   exact ⟨by first | rfl | (simp; done) | (simp [*]; done), by repeat (first | exact Drawn0.refl _ | apply Drawn0.step)⟩
  ·replace c10 := Bool.eq_false_iff.mpr c10
   subst c10
   rw [if_neg (show ¬ (false = true) by decide)] at H
   simp only [Option.some.injEq, Prod.mk.injEq] at H
   obtain ⟨rfl, rfl⟩ := H
   go_enter Try.func56, Try.ntmps56
   go_wp2
   go_ret2
   exact ⟨by first | rfl | (simp; done) | (simp [*]; done), by repeat (first | exact Drawn0.refl _ | apply Drawn0.step)⟩

/-! ### billiardref01_MulShift: function 45 (given) -/
-- IMPORT Derived.Test.YtcbdcgghccjdpaaMbig2
-- IMPORT Derived.Test.YtcbdcgghccjdpaaMfloor
-- NEEDS billiard/billiardref01.MulDiv
-- NEEDS billiard/billiardref01.floor
theorem mg_sign (a b : Int) (pa pb : Bool) (hpa : decide (a < 0) = pa) (hpb : decide (b < 0) = pb) : a * b = if (!pa == pb) = true then -(mg a * mg b) else mg a * mg b := by
 subst hpa hpb
 by_cases ca : a < 0 <;> by_cases cb : b < 0 <;> simp [mg, ca, cb, Int.neg_mul, Int.mul_neg]
theorem ref01_floor.same (q r : Int) (s p : Bool) (n : Int) (ok : Bool) (h : billiardref01_floor.f q r s p = some (n, ok)) (w : World) :
  Calls Try.prog 56 #[.int .u64 q, .int .u64 r, .bool s, .bool p] w fun e w' => e = .returned (.tuple #[.int .i64 n, .bool ok]) ∧ Drawn0 w w' := billiardref01_floor.calls q r s p n ok w h
theorem ref01_floor_tells {P d q r : Int} {s : Bool} (hst : DivSt P d 0 q r s) (hP : 0 ≤ P) (hd : 0 < d) (p : Bool) : ∃ n, billiardref01_floor.f q r s p = some (n, i64B (flS p (P / d) (P % d))) ∧ (i64B (flS p (P / d) (P % d)) = true → n = flS p (P / d) (P % d)) := by
 obtain ⟨hq, hr, hs⟩ := hst
 simp only [dq, dr, Int.pow_zero, Int.ediv_one] at hq hr hs
 have h0 : 0 ≤ P / d := Int.ediv_nonneg hP (by omega)
 have h1 : 0 ≤ P % d := Int.emod_nonneg _ (by omega)
 rw [← hr] at h1 ⊢
 generalize P / d = Q at *
 unfold billiardref01_floor.f flS i64B
 simp only [IntKind.wrap_u64, wrap64]
 cases p
 ·simp only [Bool.false_eq_true, if_false]
  subst hs
  by_cases c : Q < 18446744073709551616
  ·rw [decide_eq_true c, if_pos rfl]
   refine ⟨_, congrArg some (Prod.ext rfl ?_), fun h => ?_⟩
   ·rw [Bool.eq_iff_iff]; simp; omega
   ·simp at h; omega
  ·rw [decide_eq_false c, if_neg (by decide)]
   refine ⟨_, congrArg some (Prod.ext rfl ?_), fun h => ?_⟩
   ·rw [Bool.eq_iff_iff]; simp; omega
   ·simp at h; omega
 ·simp only [if_true]
  by_cases cr : r > 0
  ·rw [if_pos cr, if_neg (by omega : ¬ r = 0)]
   by_cases cq : q = 18446744073709551615
   ·rw [if_pos cq]
    refine ⟨_, congrArg some (Prod.ext rfl ?_), fun h => ?_⟩
    ·rw [Bool.eq_iff_iff]; simp; omega
    ·simp at h; omega
   ·rw [if_neg cq]
    subst hs
    by_cases c : Q < 18446744073709551616
    ·rw [decide_eq_true c, if_pos rfl]
     refine ⟨_, congrArg some (Prod.ext rfl ?_), fun h => ?_⟩
     ·rw [Bool.eq_iff_iff]; simp; omega
     ·simp at h; omega
    ·rw [decide_eq_false c, if_neg (by decide)]
     refine ⟨_, congrArg some (Prod.ext rfl ?_), fun h => ?_⟩
     ·rw [Bool.eq_iff_iff]; simp; omega
     ·simp at h; omega
  ·rw [if_neg cr, if_pos (by omega : r = 0)]
   subst hs
   by_cases c : Q < 18446744073709551616
   ·rw [decide_eq_true c, if_pos rfl]
    refine ⟨_, congrArg some (Prod.ext rfl ?_), fun h => ?_⟩
    ·rw [Bool.eq_iff_iff]; simp; omega
    ·simp at h; omega
   ·rw [decide_eq_false c, if_neg (by decide)]
    refine ⟨_, congrArg some (Prod.ext rfl ?_), fun h => ?_⟩
    ·rw [Bool.eq_iff_iff]; simp; omega
    ·simp at h; omega
def RDEnd (r : Int × Int) (w : World) (e : Ending) (w' : World) : Prop := e = .returned (.tuple #[.int .i64 r.1, .int .i64 r.2]) ∧ Below w.heap.size w w'
def flR (F : Int) : Int × Int := if i64B F = true then (F, 0) else (0, 3)
theorem flR_no {F : Int} (h : i64B F = false) : flR F = (0, 3) := by unfold flR; rw [h]; rfl
theorem flR_yes {F : Int} (h : i64B F = true) : flR F = (F, 0) := by unfold flR; rw [h]; rfl
def mulShiftS (a b n : Int) : Int × Int := if 0 ≤ n ∧ n ≤ 63 then flR (a * b / 2 ^ n.toNat) else (0, 1)
def billiardref01_MulShift.f (a b n : Int) : Option (Int × Int) := if i64B a = true ∧ i64B b = true ∧ i64B n = true then some (mulShiftS a b n) else none
theorem pow_all : ∀ s : Fin 64, 0 < (2 : Int) ^ s.val ∧ (2 : Int) ^ s.val ≤ 9223372036854775808 := by decide +kernel
theorem pow_bd (k : Nat) (hk : k ≤ 63) : 0 < (2 : Int) ^ k ∧ (2 : Int) ^ k ≤ 9223372036854775808 := pow_all ⟨k, by omega⟩
theorem pow_step (k : Nat) (hk : k < 63) : 0 < (2 : Int) ^ (k + 1) ∧ (2 : Int) ^ (k + 1) ≤ 9223372036854775808 := pow_bd (k + 1) (by omega)
theorem billiardref01_MulShift.low (a b n : Int) (hn : n < 0) (w : World) : Calls Try.prog 45 #[.int .i64 a, .int .i64 b, .int .i64 n] w (RDEnd (0, 1) w) := by
 have c1 : decide (n < 0) = true := decide_eq_true hn
 clear hn
 go_enter Try.func45, Try.ntmps45
 go_wp2
 go_ret2
 exact ⟨rfl, Below.refl _ _⟩
theorem billiardref01_MulShift.high (a b n : Int) (hn : ¬ n < 0) (hn2 : 63 < n) (w : World) : Calls Try.prog 45 #[.int .i64 a, .int .i64 b, .int .i64 n] w (RDEnd (0, 1) w) := by
 have c1 : decide (n < 0) = false := decide_eq_false hn
 have c2 : decide (63 < n) = true := decide_eq_true hn2
 clear hn hn2
 go_enter Try.func45, Try.ntmps45
 go_wp2
 go_ret2
 exact ⟨rfl, Below.refl _ _⟩
set_option maxHeartbeats 4000000 in
set_option maxRecDepth 100000 in
theorem billiardref01_MulShift.at (a b : Int) (m : Nat) (hm : m ≤ 63) (pa pb p : Bool) (hpa : decide (a < 0) = pa) (hpb : decide (b < 0) = pb) (hn : (!pa == pb) = p)
  (ha : -9223372036854775808 ≤ a ∧ a ≤ 9223372036854775807) (hb : -9223372036854775808 ≤ b ∧ b ≤ 9223372036854775807) (w : World) :
  Calls Try.prog 45 #[.int .i64 a, .int .i64 b, .int .i64 m] w (RDEnd (flR (flS p (mg a * mg b / 2 ^ m) (mg a * mg b % 2 ^ m))) w) := by
 have HP := Lib.hid (fun w => ref01_product.same a b ha hb w)
 have HM := Lib.hid (mg_mul a b ha hb)
 clear ha hb
 have b1 : decide ((m : Int) < 0) = false := decide_eq_false (by omega)
 have b2 : decide (63 < (m : Int)) = false := decide_eq_false (by omega)
 go_enter Try.func45, Try.ntmps45
 go_wp2
 go_loopw [8, 9] (fun d i wr => ∃ (k : Nat) (D : Int), k ≤ m ∧ Hid (D = 2 ^ k) ∧ d = .int .u64 D ∧ i = .int .i64 k ∧ Below w.heap.size w wr) (fun _ i _ => ((m : Int) - intOf i).toNat)
 case atStart => exact ⟨0, 1, by omega, Lib.hid rfl, rfl, rfl, Below.refl _ _⟩
 case round =>
  obtain ⟨k, D, hk, hD, rfl, rfl, hb⟩ := hrel
  by_cases c : k = m
  ·subst c
   have HD := Lib.hid (show 0 < D ∧ D ≤ 18446744073709551615 by rw [hD.out]; have := pow_bd k hm; omega)
   have HB0 := Lib.hid hb
   have c1 : decide ((k : Int) < (k : Int)) = false := decide_eq_false (by omega)
   go_wp2_with fail
   refine (HP.out _).mono ?_
   rintro e w1 ⟨z0, z1, z2, z3, z4, z5, z6, z7, hz, hv, rfl, hb1⟩
   have HZ := Lib.hid (And.intro hz hv)
   clear hz hv
   go_wp2_with fail
   refine (ref01_divide.same HZ.out.1 HZ.out.2 D HD.out _).mono ?_
   rintro e w2 ⟨q, r, s, hst, rfl, hb2⟩
   obtain ⟨n, hf, hok⟩ := ref01_floor_tells hst HM.out.1 HD.out.1 p
   have HF := Lib.hid hf
   have HK := Lib.hid hok
   clear hst hf hok
   obtain ⟨F, hF⟩ : ∃ F, flS p (mg a * mg b / D) (mg a * mg b % D) = F := ⟨_, rfl⟩
   rw [hF] at HF HK
   have HFF := Lib.hid hF
   clear hF
   have B1 := below_then hb hb.size hb1
   have B2 := below_then B1 B1.size hb2
   cases ho : i64B F
   ·rw [ho] at HF
    have HO := Lib.hid ho
    clear ho
    go_wp2_with fail
    refine (ref01_floor.same q r s p n _ HF.out _).mono ?_
    rintro e w3 ⟨rfl, hd3⟩
    go_wp2
    go_ret2
    refine ⟨?_, below_then B2 B2.size hd3.below⟩
    rw [← hD.out, HFF.out, flR_no HO.out]
    rfl
   ·rw [ho] at HF
    have HO := Lib.hid ho
    clear ho
    go_wp2_with fail
    refine (ref01_floor.same q r s p n _ HF.out _).mono ?_
    rintro e w3 ⟨rfl, hd3⟩
    go_wp2
    go_ret2
    refine ⟨?_, below_then B2 B2.size hd3.below⟩
    rw [← hD.out, HFF.out, flR_yes HO.out, ← HK.out HO.out]
    rfl
  ·have c1 : decide ((k : Int) < (m : Int)) = true := decide_eq_true (by omega)
   have hs : 2 * D = 2 ^ (k + 1) := by rw [hD.out, Int.pow_succ, Int.mul_comm]
   have hp := pow_step k (by omega)
   have e1 : IntKind.u64.wrap (2 * D) = 2 * D := u64_id (by omega) (by omega)
   have HS := Lib.hid hs
   have hk2 : k < m := by omega
   clear hs hp c hD
   go_wp2
   exact ⟨⟨k + 1, 2 * D, by omega, HS, rfl, by simp, hb⟩, by simp [intOf]; omega⟩
theorem billiardref01_MulShift.same (a b n : Int) (ha : -9223372036854775808 ≤ a ∧ a ≤ 9223372036854775807) (hb : -9223372036854775808 ≤ b ∧ b ≤ 9223372036854775807) (w : World) :
  Calls Try.prog 45 #[.int .i64 a, .int .i64 b, .int .i64 n] w (RDEnd (mulShiftS a b n) w) := by
 unfold mulShiftS
 by_cases h0 : n < 0
 ·rw [if_neg (by omega)]
  exact billiardref01_MulShift.low a b n h0 w
 by_cases h1 : 63 < n
 ·rw [if_neg (by omega)]
  exact billiardref01_MulShift.high a b n h0 h1 w
 rw [if_pos (by omega)]
 obtain ⟨m, rfl⟩ : ∃ m : Nat, n = m := ⟨n.toNat, by omega⟩
 have hm : m ≤ 63 := by omega
 rw [Int.toNat_natCast]
 obtain ⟨pa, hpa⟩ : ∃ p, decide (a < 0) = p := ⟨_, rfl⟩
 obtain ⟨pb, hpb⟩ : ∃ p, decide (b < 0) = p := ⟨_, rfl⟩
 have hp := pow_bd m hm
 have hF : a * b / 2 ^ m = flS (!pa == pb) (mg a * mg b / 2 ^ m) (mg a * mg b % 2 ^ m) := by
  rw [mg_sign a b pa pb hpa hpb]
  unfold flS
  split
  ·exact fl_neg hp.1 rfl rfl
  ·rfl
 rw [hF]
 exact billiardref01_MulShift.at a b m hm pa pb _ hpa hpb rfl ha hb w
theorem billiardref01_MulShift.calls (a b n r1 r2 : Int) (w : World) (h : billiardref01_MulShift.f a b n = some (r1, r2)) :
  Calls Try.prog 45 #[.int .i64 a, .int .i64 b, .int .i64 n] w fun e w' => e = .returned (.tuple #[.int .i64 r1, .int .i64 r2]) ∧ Below w.heap.size w w' := by
 unfold billiardref01_MulShift.f at h
 split at h
 ·rename_i k
  have h := Option.some.inj h
  have := billiardref01_MulShift.same a b n (i64B_iff.mp k.1) (i64B_iff.mp k.2.1) w
  rw [h] at this
  exact this
 ·cases h

end Go.Proofs.Ytcbdcgghccjdpaa.Q
