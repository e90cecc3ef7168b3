-- PRINTED by print.py (a twelfth state) out of the translation. Not trusted: Lean checks it.
import Derived.Test.YtddooigcnbpliaaQ0
import Derived.Test.YtddooigcnbpliaaMkeep
import Derived.Test.YtddooigcnbpliaaMbig2
import Derived.Test.YtddooigcnbpliaaMfloor
namespace Go.Proofs.Ytddooigcnbpliaa.Q
open Go.RowKit Go.Proofs.YtddooigcnbpliaaW.PrintWords Go.Proofs.YtddooigcnbpliaaW.PrintLast Go.Proofs.YtddooigcnbpliaaW.PrintMore
attribute [local go_sem] max2_int min2_int max_two min_two max_three min_three max_four min_four   -- for this text's walks alone
set_option linter.unusedVariables false
set_option linter.unusedSimpArgs false

/-! ### billiardref01_floor: function 35 -/
def billiardref01_floor.f (a0 : Int) (a1 : Int) (a2 : Bool) (a3 : Bool) : Option (Int × Bool) := if a3 = true then (if a1 > 0 then (if a0 = 18446744073709551615 then (some (0, false)) else (if a2 = true then (some (wrap64 (IntKind.u64.wrap (-(IntKind.u64.wrap (a0 + 1)))), decide ((IntKind.u64.wrap (a0 + 1)) ≤ 9223372036854775808))) else (some (wrap64 (IntKind.u64.wrap (-(IntKind.u64.wrap (a0 + 1)))), false)))) else (if a2 = true then (some (wrap64 (IntKind.u64.wrap (-a0)), decide (a0 ≤ 9223372036854775808))) else (some (wrap64 (IntKind.u64.wrap (-a0)), false)))) else (if a2 = true then (some (wrap64 (a0), decide (a0 < 9223372036854775808))) else (some (wrap64 (a0), false)))
set_option maxHeartbeats 8000000 in
set_option maxRecDepth 100000 in
theorem billiardref01_floor.calls (a0 : Int) (a1 : Int) (a2 : Bool) (a3 : Bool) (r1 : Int) (r2 : Bool) (w : World) (h : billiardref01_floor.f a0 a1 a2 a3 = some (r1, r2)) :
  Calls Try.prog 35 #[.int .u64 a0, .int .u64 a1, .bool a2, .bool a3] w fun e w' => e = .returned (.tuple #[.int .i64 r1, .bool r2]) ∧ Drawn0 w w' := by
 have H : (if a3 = true then (if a1 > 0 then (if a0 = 18446744073709551615 then (some (0, false)) else (if a2 = true then (some (wrap64 (IntKind.u64.wrap (-(IntKind.u64.wrap (a0 + 1)))), decide ((IntKind.u64.wrap (a0 + 1)) ≤ 9223372036854775808))) else (some (wrap64 (IntKind.u64.wrap (-(IntKind.u64.wrap (a0 + 1)))), false)))) else (if a2 = true then (some (wrap64 (IntKind.u64.wrap (-a0)), decide (a0 ≤ 9223372036854775808))) else (some (wrap64 (IntKind.u64.wrap (-a0)), false)))) else (if a2 = true then (some (wrap64 (a0), decide (a0 < 9223372036854775808))) else (some (wrap64 (a0), false)))) = some (r1, r2) := h
 clear h
 by_cases c5 : a3 = true
 ·subst c5
  rw [if_pos rfl] at H
  by_cases c6 : a1 > 0
  ·rw [if_pos c6] at H
   have c6b0 : decide (0 < a1) = true := decide_eq_true c6
   clear c6
   by_cases c7 : a0 = 18446744073709551615
   ·rw [if_pos c7] at H
    have c7b0 : (a0 == 18446744073709551615) = true := beq_iff_eq.mpr c7
    have c7b1 : (a0 != 18446744073709551615) = false := bne_eq_false_iff_eq.mpr c7
    clear c7
    simp only [Option.some.injEq, Prod.mk.injEq] at H
    obtain ⟨rfl, rfl⟩ := H
    go_enter Try.func35, Try.ntmps35
    go_wp2
    go_ret2
    exact ⟨by first | rfl | (simp; done) | (simp [*]; done), by repeat (first | exact Drawn0.refl _ | apply Drawn0.step)⟩
   ·rw [if_neg c7] at H
    have c7b0 : (a0 == 18446744073709551615) = false := beq_eq_false_iff_ne.mpr c7
    have c7b1 : (a0 != 18446744073709551615) = true := bne_iff_ne.mpr c7
    by_cases c8 : a2 = true
    ·subst c8
     rw [if_pos rfl] at H
     simp only [Option.some.injEq, Prod.mk.injEq] at H
     obtain ⟨rfl, rfl⟩ := H
     go_enter Try.func35, Try.ntmps35
     go_wp2
     go_ret2
     exact ⟨by first | rfl | (simp; done) | (simp [*]; done), by repeat (first | exact Drawn0.refl _ | apply Drawn0.step)⟩
    ·replace c8 := Bool.eq_false_iff.mpr c8
     subst c8
     rw [if_neg (show ¬ (false = true) by decide)] at H
     simp only [Option.some.injEq, Prod.mk.injEq] at H
     obtain ⟨rfl, rfl⟩ := H
     go_enter Try.func35, Try.ntmps35
     go_wp2
     go_ret2
     exact ⟨by first | rfl | (simp; done) | (simp [*]; done), by repeat (first | exact Drawn0.refl _ | apply Drawn0.step)⟩
  ·rw [if_neg c6] at H
   have c6b0 : decide (0 < a1) = false := decide_eq_false c6
   clear c6
   by_cases c9 : a2 = true
   ·subst c9
    rw [if_pos rfl] at H
    simp only [Option.some.injEq, Prod.mk.injEq] at H
    obtain ⟨rfl, rfl⟩ := H
    go_enter Try.func35, Try.ntmps35
    go_wp2
    go_ret2
    exact ⟨by first | rfl | (simp; done) | (simp [*]; done), by repeat (first | exact Drawn0.refl _ | apply Drawn0.step)⟩
   ·replace c9 := Bool.eq_false_iff.mpr c9
    subst c9
    rw [if_neg (show ¬ (false = true) by decide)] at H
    simp only [Option.some.injEq, Prod.mk.injEq] at H
    obtain ⟨rfl, rfl⟩ := H
    go_enter Try.func35, Try.ntmps35
    go_wp2
    go_ret2
    exact ⟨by first | rfl | (simp; done) | (simp [*]; done), by repeat (first | exact Drawn0.refl _ | apply Drawn0.step)⟩
 ·replace c5 := Bool.eq_false_iff.mpr c5
  subst c5
  rw [if_neg (show ¬ (false = true) by decide)] at H
  by_cases c10 : a2 = true
  ·subst c10
   rw [if_pos rfl] at H
   simp only [Option.some.injEq, Prod.mk.injEq] at H
   obtain ⟨rfl, rfl⟩ := H
   go_enter Try.func35, Try.ntmps35
   go_wp2
   go_ret2
   exact ⟨by first | rfl | (simp; done) | (simp [*]; done), by repeat (first | exact Drawn0.refl _ | apply Drawn0.step)⟩
  ·replace c10 := Bool.eq_false_iff.mpr c10
   subst c10
   rw [if_neg (show ¬ (false = true) by decide)] at H
   simp only [Option.some.injEq, Prod.mk.injEq] at H
   obtain ⟨rfl, rfl⟩ := H
   go_enter Try.func35, Try.ntmps35
   go_wp2
   go_ret2
   exact ⟨by first | rfl | (simp; done) | (simp [*]; done), by repeat (first | exact Drawn0.refl _ | apply Drawn0.step)⟩

/-! ### billiardref01_MulDiv: function 27 (given) -/
-- IMPORT Derived.Test.YtddooigcnbpliaaMbig2
-- IMPORT Derived.Test.YtddooigcnbpliaaMfloor
-- NEEDS billiard/billiardref01.floor
def billiardref01_MulDiv.f (a b c : Int) : Option (Int × Int) := if i64B a = true ∧ i64B b = true ∧ i64B c = true then some (mulDivS a b c) else none
theorem ref01_floor.same (q r : Int) (s p : Bool) (n : Int) (ok : Bool) (h : billiardref01_floor.f q r s p = some (n, ok)) (w : World) :
  Calls Try.prog 35 #[.int .u64 q, .int .u64 r, .bool s, .bool p] w fun e w' => e = .returned (.tuple #[.int .i64 n, .bool ok]) ∧ Drawn0 w w' := billiardref01_floor.calls q r s p n ok w h
theorem ref01_floor_tells {P d q r : Int} {s : Bool} (hst : DivSt P d 0 q r s) (hP : 0 ≤ P) (hd : 0 < d) (p : Bool) : ∃ n, billiardref01_floor.f q r s p = some (n, i64B (flS p (P / d) (P % d))) ∧ (i64B (flS p (P / d) (P % d)) = true → n = flS p (P / d) (P % d)) := by
 obtain ⟨hq, hr, hs⟩ := hst
 simp only [dq, dr, Int.pow_zero, Int.ediv_one] at hq hr hs
 have h0 : 0 ≤ P / d := Int.ediv_nonneg hP (by omega)
 have h1 : 0 ≤ P % d := Int.emod_nonneg _ (by omega)
 rw [← hr] at h1 ⊢
 generalize P / d = Q at *
 unfold billiardref01_floor.f flS i64B
 simp only [IntKind.wrap_u64, wrap64]
 cases p
 ·simp only [Bool.false_eq_true, if_false]
  subst hs
  by_cases c : Q < 18446744073709551616
  ·rw [decide_eq_true c, if_pos rfl]
   refine ⟨_, congrArg some (Prod.ext rfl ?_), fun h => ?_⟩
   ·rw [Bool.eq_iff_iff]; simp; omega
   ·simp at h; omega
  ·rw [decide_eq_false c, if_neg (by decide)]
   refine ⟨_, congrArg some (Prod.ext rfl ?_), fun h => ?_⟩
   ·rw [Bool.eq_iff_iff]; simp; omega
   ·simp at h; omega
 ·simp only [if_true]
  by_cases cr : r > 0
  ·rw [if_pos cr, if_neg (by omega : ¬ r = 0)]
   by_cases cq : q = 18446744073709551615
   ·rw [if_pos cq]
    refine ⟨_, congrArg some (Prod.ext rfl ?_), fun h => ?_⟩
    ·rw [Bool.eq_iff_iff]; simp; omega
    ·simp at h; omega
   ·rw [if_neg cq]
    subst hs
    by_cases c : Q < 18446744073709551616
    ·rw [decide_eq_true c, if_pos rfl]
     refine ⟨_, congrArg some (Prod.ext rfl ?_), fun h => ?_⟩
     ·rw [Bool.eq_iff_iff]; simp; omega
     ·simp at h; omega
    ·rw [decide_eq_false c, if_neg (by decide)]
     refine ⟨_, congrArg some (Prod.ext rfl ?_), fun h => ?_⟩
     ·rw [Bool.eq_iff_iff]; simp; omega
     ·simp at h; omega
  ·rw [if_neg cr, if_pos (by omega : r = 0)]
   subst hs
   by_cases c : Q < 18446744073709551616
   ·rw [decide_eq_true c, if_pos rfl]
    refine ⟨_, congrArg some (Prod.ext rfl ?_), fun h => ?_⟩
    ·rw [Bool.eq_iff_iff]; simp; omega
    ·simp at h; omega
   ·rw [decide_eq_false c, if_neg (by decide)]
    refine ⟨_, congrArg some (Prod.ext rfl ?_), fun h => ?_⟩
    ·rw [Bool.eq_iff_iff]; simp; omega
    ·simp at h; omega
def RDEnd (r : Int × Int) (w : World) (e : Ending) (w' : World) : Prop := e = .returned (.tuple #[.int .i64 r.1, .int .i64 r.2]) ∧ Below w.heap.size w w'
def flR (F : Int) : Int × Int := if i64B F = true then (F, 0) else (0, 3)
theorem flR_no {F : Int} (h : i64B F = false) : flR F = (0, 3) := by unfold flR; rw [h]; rfl
theorem flR_yes {F : Int} (h : i64B F = true) : flR F = (F, 0) := by unfold flR; rw [h]; rfl
theorem billiardref01_MulDiv.zero (a b : Int) (w : World) : Calls Try.prog 27 #[.int .i64 a, .int .i64 b, .int .i64 0] w (RDEnd (0, 2) w) := by
 go_enter Try.func27, Try.ntmps27
 go_wp2
 go_ret2
 exact ⟨rfl, Below.refl _ _⟩
set_option maxHeartbeats 2000000 in
set_option maxRecDepth 100000 in
theorem billiardref01_MulDiv.neg (a b c d : Int) (pa pb p : Bool) (hpa : decide (a < 0) = pa) (hpb : decide (b < 0) = pb) (hpc : decide (c < 0) = true) (hn : (pa == pb) = p) (c1 : (c == 0) = false) (e1 : IntKind.u64.wrap (-IntKind.u64.wrap c) = d) (hd0 : 0 < d ∧ d ≤ 18446744073709551615)
  (ha : -9223372036854775808 ≤ a ∧ a ≤ 9223372036854775807) (hb : -9223372036854775808 ≤ b ∧ b ≤ 9223372036854775807) (w : World) :
  Calls Try.prog 27 #[.int .i64 a, .int .i64 b, .int .i64 c] w (RDEnd (flR (flS p (mg a * mg b / d) (mg a * mg b % d))) w) := by
 have HP := Lib.hid (fun w => ref01_product.same a b ha hb w)
 have HD := Lib.hid hd0
 have HM := Lib.hid (mg_mul a b ha hb)
 clear ha hb hd0
 go_enter Try.func27, Try.ntmps27
 go_wp2_with fail
 refine (HP.out _).mono ?_
 rintro e w1 ⟨z0, z1, z2, z3, z4, z5, z6, z7, hz, hv, rfl, hb1⟩
 have HZ := Lib.hid (And.intro hz hv)
 clear hz hv
 go_wp2_with fail
 refine (ref01_divide.same HZ.out.1 HZ.out.2 d HD.out _).mono ?_
 rintro e w2 ⟨q, r, s, hst, rfl, hb2⟩
 obtain ⟨n, hf, hok⟩ := ref01_floor_tells hst HM.out.1 HD.out.1 p
 have HF := Lib.hid hf
 have HK := Lib.hid hok
 clear hst hf hok
 obtain ⟨F, hF⟩ : ∃ F, flS p (mg a * mg b / d) (mg a * mg b % d) = F := ⟨_, rfl⟩
 rw [hF] at HF HK
 have HFF := Lib.hid hF
 clear hF
 have B2 := below_then hb1 hb1.size hb2
 cases ho : i64B F
 ·rw [ho] at HF
  have HO := Lib.hid ho
  clear ho
  go_wp2_with fail
  refine (ref01_floor.same q r s p n _ HF.out _).mono ?_
  rintro e w3 ⟨rfl, hd3⟩
  go_wp2
  go_ret2
  refine ⟨?_, below_then B2 B2.size hd3.below⟩
  rw [HFF.out, flR_no HO.out]
  rfl
 ·rw [ho] at HF
  have HO := Lib.hid ho
  clear ho
  go_wp2_with fail
  refine (ref01_floor.same q r s p n _ HF.out _).mono ?_
  rintro e w3 ⟨rfl, hd3⟩
  go_wp2
  go_ret2
  refine ⟨?_, below_then B2 B2.size hd3.below⟩
  rw [HFF.out, flR_yes HO.out, ← HK.out HO.out]
  rfl
set_option maxHeartbeats 2000000 in
set_option maxRecDepth 100000 in
theorem billiardref01_MulDiv.pos (a b c d : Int) (pa pb p : Bool) (hpa : decide (a < 0) = pa) (hpb : decide (b < 0) = pb) (hpc : decide (c < 0) = false) (hn : (!pa == pb) = p) (c1 : (c == 0) = false) (e1 : IntKind.u64.wrap c = d) (hd0 : 0 < d ∧ d ≤ 18446744073709551615)
  (ha : -9223372036854775808 ≤ a ∧ a ≤ 9223372036854775807) (hb : -9223372036854775808 ≤ b ∧ b ≤ 9223372036854775807) (w : World) :
  Calls Try.prog 27 #[.int .i64 a, .int .i64 b, .int .i64 c] w (RDEnd (flR (flS p (mg a * mg b / d) (mg a * mg b % d))) w) := by
 have HP := Lib.hid (fun w => ref01_product.same a b ha hb w)
 have HD := Lib.hid hd0
 have HM := Lib.hid (mg_mul a b ha hb)
 clear ha hb hd0
 go_enter Try.func27, Try.ntmps27
 go_wp2_with fail
 refine (HP.out _).mono ?_
 rintro e w1 ⟨z0, z1, z2, z3, z4, z5, z6, z7, hz, hv, rfl, hb1⟩
 have HZ := Lib.hid (And.intro hz hv)
 clear hz hv
 go_wp2_with fail
 refine (ref01_divide.same HZ.out.1 HZ.out.2 d HD.out _).mono ?_
 rintro e w2 ⟨q, r, s, hst, rfl, hb2⟩
 obtain ⟨n, hf, hok⟩ := ref01_floor_tells hst HM.out.1 HD.out.1 p
 have HF := Lib.hid hf
 have HK := Lib.hid hok
 clear hst hf hok
 obtain ⟨F, hF⟩ : ∃ F, flS p (mg a * mg b / d) (mg a * mg b % d) = F := ⟨_, rfl⟩
 rw [hF] at HF HK
 have HFF := Lib.hid hF
 clear hF
 have B2 := below_then hb1 hb1.size hb2
 cases ho : i64B F
 ·rw [ho] at HF
  have HO := Lib.hid ho
  clear ho
  go_wp2_with fail
  refine (ref01_floor.same q r s p n _ HF.out _).mono ?_
  rintro e w3 ⟨rfl, hd3⟩
  go_wp2
  go_ret2
  refine ⟨?_, below_then B2 B2.size hd3.below⟩
  rw [HFF.out, flR_no HO.out]
  rfl
 ·rw [ho] at HF
  have HO := Lib.hid ho
  clear ho
  go_wp2_with fail
  refine (ref01_floor.same q r s p n _ HF.out _).mono ?_
  rintro e w3 ⟨rfl, hd3⟩
  go_wp2
  go_ret2
  refine ⟨?_, below_then B2 B2.size hd3.below⟩
  rw [HFF.out, flR_yes HO.out, ← HK.out HO.out]
  rfl
theorem billiardref01_MulDiv.same (a b c : Int) (ha : -9223372036854775808 ≤ a ∧ a ≤ 9223372036854775807) (hb : -9223372036854775808 ≤ b ∧ b ≤ 9223372036854775807) (hcc : -9223372036854775808 ≤ c ∧ c ≤ 9223372036854775807) (w : World) :
  Calls Try.prog 27 #[.int .i64 a, .int .i64 b, .int .i64 c] w (RDEnd (mulDivS a b c) w) := by
 unfold mulDivS
 by_cases hc : c = 0
 ·subst hc
  exact billiardref01_MulDiv.zero a b w
 ·rw [if_neg hc]
  have c1 : (c == 0) = false := by simpa using hc
  obtain ⟨pa, hpa⟩ : ∃ p, decide (a < 0) = p := ⟨_, rfl⟩
  obtain ⟨pb, hpb⟩ : ∃ p, decide (b < 0) = p := ⟨_, rfl⟩
  obtain ⟨pc, hpc⟩ : ∃ p, decide (c < 0) = p := ⟨_, rfl⟩
  have m4 : 0 < mg c ∧ mg c ≤ 9223372036854775808 := by unfold mg; split <;> omega
  have hf := fl_mg a b c hc pa pb pc hpa hpb hpc
  rw [fl_neg m4.1 rfl rfl] at hf
  have hF : fl (a * b) c = flS (!(!pa == pb) == pc) (mg a * mg b / mg c) (mg a * mg b % mg c) := by rw [hf]; rfl
  rw [hF]
  change Calls _ _ _ _ (RDEnd (flR (flS (!(!pa == pb) == pc) (mg a * mg b / mg c) (mg a * mg b % mg c))) w)
  cases pc
  ·have hcn : ¬ c < 0 := by simpa using hpc
   have e : mg c = c := by simp [mg, hcn]
   exact billiardref01_MulDiv.pos a b c (mg c) pa pb _ hpa hpb hpc (by cases pa <;> cases pb <;> rfl) c1 (by rw [e]; exact u64_id (by omega) (by omega)) (by omega) ha hb w
  ·have hcn : c < 0 := by simpa using hpc
   exact billiardref01_MulDiv.neg a b c (mg c) pa pb _ hpa hpb hpc (by cases pa <;> cases pb <;> rfl) c1 (by simp only [IntKind.wrap_u64, mg, if_pos hcn]; omega) (by omega) ha hb w
theorem billiardref01_MulDiv.calls (a b c r1 r2 : Int) (w : World) (h : billiardref01_MulDiv.f a b c = some (r1, r2)) :
  Calls Try.prog 27 #[.int .i64 a, .int .i64 b, .int .i64 c] w fun e w' => e = .returned (.tuple #[.int .i64 r1, .int .i64 r2]) ∧ Below w.heap.size w w' := by
 unfold billiardref01_MulDiv.f at h
 split at h
 ·rename_i k
  have h := Option.some.inj h
  have := billiardref01_MulDiv.same a b c (i64B_iff.mp k.1) (i64B_iff.mp k.2.1) (i64B_iff.mp k.2.2) w
  rw [h] at this
  exact this
 ·cases h

end Go.Proofs.Ytddooigcnbpliaa.Q
