-- PRINTED by print.py (a twelfth state) out of the translation. Not trusted: Lean checks it.
import Derived.Test.YtddooigcnbpliaaQ0
import Derived.Test.YtddooigcnbpliaaQbits
import Derived.Test.YtddooigcnbpliaaMdiv64
import Derived.Test.YtddooigcnbpliaaMfloor
import Derived.Test.YtddooigcnbpliaaMspec
namespace Go.Proofs.Ytddooigcnbpliaa.Q
open Go.RowKit Go.Proofs.YtddooigcnbpliaaW.PrintWords Go.Proofs.YtddooigcnbpliaaW.PrintLast Go.Proofs.YtddooigcnbpliaaW.PrintMore
open Go.Proofs.YtddooigcnbpliaaW.PrintWords renaming below_alloc → lA, pw_below_drewN → lN
open Bool renaming true → T, false → F
attribute [local go_sem] max2_int min2_int max_two min_two max_three min_three max_four min_four   -- for this text's walks alone
set_option linter.unusedVariables false
set_option linter.unusedSimpArgs false

/-! ### wide_magnitude: function 37 (given) -/
-- IMPORT Derived.Test.YtddooigcnbpliaaMspec
def wide_magnitude.f (a : Int) : Option Int := if i64B a = true then some (mg a) else none
theorem wide_magnitude.same (a : Int) (ha : -9223372036854775808 ≤ a ∧ a ≤ 9223372036854775807) (w : World) :
  Calls Try.prog 37 #[.int .i64 a] w fun e w' => e = .returned (.int .u64 (mg a)) ∧ w = w' := by
 by_cases c : a < 0
 ·have c1 : decide (a < 0) = true := decide_eq_true c
  have e : IntKind.u64.wrap (-IntKind.u64.wrap a) = mg a := by simp only [IntKind.wrap_u64, mg, if_pos c]; omega
  go_enter Try.func37, Try.ntmps37
  go_wp2
  go_ret
  exact ⟨ret_int rfl, rfl⟩
 ·have c1 : decide (a < 0) = false := decide_eq_false c
  go_enter Try.func37, Try.ntmps37
  go_wp2
  go_ret
  exact ⟨ret_int (by unfold mg; omega), rfl⟩
theorem wide_magnitude.calls (a r : Int) (w : World) (h : wide_magnitude.f a = some r) :
  Calls Try.prog 37 #[.int .i64 a] w fun e w' => e = .returned (.int .u64 r) ∧ Drawn0 w w' := by
 unfold wide_magnitude.f at h
 split at h
 ·rename_i c
  obtain rfl := Option.some.inj h
  exact (wide_magnitude.same a (i64B_iff.mp c) w).mono fun e w' ⟨h1, h2⟩ => ⟨h1, Drawn0.of_eq h2⟩
 ·cases h

/-! ### wide_MulDiv: function 31 (given) -/
-- IMPORT Derived.Test.YtddooigcnbpliaaMdiv64
-- IMPORT Derived.Test.YtddooigcnbpliaaMfloor
-- NEEDS math/bits.Mul64
-- NEEDS math/bits.Div64
-- NEEDS billiard/wide.magnitude
def wide_MulDiv.f (a b c : Int) : Option (Int × Int) := if i64B a = true ∧ i64B b = true ∧ i64B c = true then some (mulDivS a b c) else none
theorem bits_Div64.same (hi lo y : Int) (h0 : 0 ≤ hi) (h1 : hi < y) (y1 : y ≤ 18446744073709551615) (hl : 0 ≤ lo ∧ lo ≤ 18446744073709551615) (w : World) :
  Calls Try.prog 38 #[.int .u64 hi, .int .u64 lo, .int .u64 y] w fun e w' => e = .returned (.tuple #[.int .u64 ((hi * 18446744073709551616 + lo) / y), .int .u64 ((hi * 18446744073709551616 + lo) % y)]) ∧ Drawn0 w w' :=
 bits_Div64.calls 12 hi lo y _ _ w (bits_Div64.is hi lo y h0 h1 y1 hl.1 hl.2 12 (by omega))
def MDEnd (r1 r2 : Int) (w : World) (e : Ending) (w' : World) : Prop := e = .returned (.tuple #[.int .i64 r1, .int .i64 r2]) ∧ Below w.heap.size w w'
theorem wide_MulDiv.zero (a b : Int) (w : World) : Calls Try.prog 31 #[.int .i64 a, .int .i64 b, .int .i64 0] w (MDEnd 0 2 w) := by
 go_enter Try.func31, Try.ntmps31
 go_wp2
 go_ret2
 exact ⟨rfl, Below.refl _ _⟩
theorem wide_MulDiv.great (a b c : Int) (hc : c ≠ 0) (ha : -9223372036854775808 ≤ a ∧ a ≤ 9223372036854775807) (hb : -9223372036854775808 ≤ b ∧ b ≤ 9223372036854775807) (hcc : -9223372036854775808 ≤ c ∧ c ≤ 9223372036854775807) (hg : mg c ≤ hi64 (mg a * mg b)) (w : World) :
  Calls Try.prog 31 #[.int .i64 a, .int .i64 b, .int .i64 c] w (MDEnd 0 3 w) := by
 have m1 := mg_bd ha
 have m2 := mg_bd hb
 have m4 := mg_bd hcc
 have c1 : (c == 0) = false := by simpa using hc
 have c2 : decide (mg c ≤ hi64 (mg a * mg b)) = true := decide_eq_true hg
 clear hc hg
 go_enter Try.func31, Try.ntmps31
 go_wp2_with (first | (go_at_call 37; refine (wide_magnitude.same _ (by omega) _).mono ?_; rintro e w' ⟨rfl, rfl⟩) | (go_at_call 36; refine (bits_Mul64.same _ _ (by omega) (by omega) _).mono ?_; rintro e w' ⟨rfl, rfl⟩))
 go_ret2
 exact ⟨rfl, Below.refl _ _⟩
def outS (n : Bool) (q : Int) : Int := if n = true then wrap64 (IntKind.u64.wrap (-q)) else wrap64 q
def okS (n : Bool) (q : Int) : Bool := if n = true then decide (q ≤ 9223372036854775808) else decide (q < 9223372036854775808)
theorem wide_signer.same (n : Bool) (w : World) :
  Calls Try.prog 39 #[.bool n] w fun e w' => e = .returned (.func (.func 43) #[] #[.pointer (some ⟨w.heap.size, 0, none⟩)]) ∧ w.alloc (.cells #[.bool n] 4) = w' := by
 go_enter Try.func39, Try.ntmps39
 go_wp2
 go_ret
 exact ⟨rfl, rfl⟩
theorem wide_signer1.same (n : Bool) (q : Int) (hq : 0 ≤ q ∧ q ≤ 18446744073709551615) (a : Addr) (w : World) (hc : w.cell? a = some (.bool n)) :
  Calls Try.prog 43 #[.int .u64 q, .pointer (some a)] w fun e w' => e = .returned (.tuple #[.int .i64 (outS n q), .bool (okS n q)]) ∧ w = w' := by
 cases n
 ·have e1 : wrap64 q = outS false q := rfl
  have e2 : decide (q < 9223372036854775808) = okS false q := rfl
  go_enter Try.func43, Try.ntmps43
  go_wp2
  trace_state
  go_ret2
  exact ⟨rfl, rfl⟩
 ·have e1 : wrap64 (IntKind.u64.wrap (-q)) = outS true q := rfl
  have e2 : decide (q ≤ 9223372036854775808) = okS true q := rfl
  go_enter Try.func43, Try.ntmps43
  go_wp2
  trace_state
  go_ret2
  exact ⟨rfl, rfl⟩
theorem box_cell (w : World) (m : Nat) (n : Bool) : ((w.drewN m).alloc (.cells #[.bool n] 4)).cell? ⟨w.heap.size, 0, none⟩ = some (.bool n) :=
 (World.cell?_alloc_at (w := w.drewN m) #[.bool n] 4 w.heap.size 0 rfl).trans rfl
theorem md_quot (a b c : Int) (ha : -9223372036854775808 ≤ a ∧ a ≤ 9223372036854775807) (hb : -9223372036854775808 ≤ b ∧ b ≤ 9223372036854775807) (hg : hi64 (mg a * mg b) < mg c) :
  0 ≤ hi64 (mg a * mg b) ∧ hi64 (mg a * mg b) * 18446744073709551616 + lo64 (mg a * mg b) = mg a * mg b ∧ 0 ≤ mg a * mg b / mg c ∧ mg a * mg b / mg c ≤ 18446744073709551615 ∧ 0 ≤ mg a * mg b % mg c ∧ mg a * mg b % mg c < mg c := by
 have hm := mg_mul a b ha hb
 have h3 : 0 ≤ hi64 (mg a * mg b) := by unfold hi64; omega
 have eP : hi64 (mg a * mg b) * 18446744073709551616 + lo64 (mg a * mg b) = mg a * mg b := by unfold hi64 lo64; omega
 have h2 := lo64_bd (mg a * mg b)
 have h0 : 0 < mg c := by omega
 have k : hi64 (mg a * mg b) * 18446744073709551616 + 18446744073709551616 ≤ mg c * 18446744073709551616 := by omega
 have : mg a * mg b / mg c < 18446744073709551616 := Int.ediv_lt_of_lt_mul h0 (by omega)
 exact ⟨h3, eP, Int.ediv_nonneg hm.1 (by omega), by omega, Int.emod_nonneg _ (by omega), Int.emod_lt_of_pos _ h0⟩
theorem wide_MulDiv.plus_yes (a b c : Int) (hc : c ≠ 0) (ha : -9223372036854775808 ≤ a ∧ a ≤ 9223372036854775807) (hb : -9223372036854775808 ≤ b ∧ b ≤ 9223372036854775807) (hcc : -9223372036854775808 ≤ c ∧ c ≤ 9223372036854775807) (hg : hi64 (mg a * mg b) < mg c)
  (pa pb pc : Bool) (hpa : decide (a < 0) = pa) (hpb : decide (b < 0) = pb) (hpc : decide (c < 0) = pc) (q r : Int) (hq : mg a * mg b / mg c = q) (hr : mg a * mg b % mg c = r) (hn : (!(!pa == pb) == pc) = false) (hok : okS false q = true) (w : World) :
  Calls Try.prog 31 #[.int .i64 a, .int .i64 b, .int .i64 c] w (MDEnd (outS false q) 0 w) := by
 have m1 := mg_bd ha
 have m2 := mg_bd hb
 have m4 := mg_bd hcc
 have h2 := lo64_bd (mg a * mg b)
 obtain ⟨h3, eP, q0, q1, r0, r1⟩ := md_quot a b c ha hb hg
 have c1 : (c == 0) = false := by simpa using hc
 have c2 : decide (mg c ≤ hi64 (mg a * mg b)) = false := decide_eq_false (by omega)
 have hD := fun w => bits_Div64.same (hi64 (mg a * mg b)) (lo64 (mg a * mg b)) (mg c) h3 hg (by omega) h2 w
 rw [eP, hq, hr] at hD
 rw [hq] at q0 q1
 rw [hr] at r0 r1
 have HD := Lib.hid hD
 clear hD hc hq hr hg eP h3
 go_enter Try.func31, Try.ntmps31
 go_wp2_with (first | (go_at_call 37; refine (wide_magnitude.same _ (by omega) _).mono ?_; rintro e w' ⟨rfl, rfl⟩) | (go_at_call 36; refine (bits_Mul64.same _ _ (by omega) (by omega) _).mono ?_; rintro e w' ⟨rfl, rfl⟩) | (go_at_call 38; refine (HD.out _).mono ?_; rintro e w' ⟨rfl, ⟨m, rfl⟩⟩) | (go_at_call 39; refine (wide_signer.same _ _).mono ?_; rintro e w' ⟨rfl, rfl⟩) | (go_at_call 43; refine (wide_signer1.same _ _ (by omega) _ _ (box_cell _ _ _)).mono ?_; rintro e w' ⟨rfl, rfl⟩))
 go_ret2
 exact ⟨rfl, lA (lN (Below.refl _ _) _) _⟩
theorem wide_MulDiv.even_yes (a b c : Int) (hc : c ≠ 0) (ha : -9223372036854775808 ≤ a ∧ a ≤ 9223372036854775807) (hb : -9223372036854775808 ≤ b ∧ b ≤ 9223372036854775807) (hcc : -9223372036854775808 ≤ c ∧ c ≤ 9223372036854775807) (hg : hi64 (mg a * mg b) < mg c)
  (pa pb pc : Bool) (hpa : decide (a < 0) = pa) (hpb : decide (b < 0) = pb) (hpc : decide (c < 0) = pc) (q r : Int) (hq : mg a * mg b / mg c = q) (hr : mg a * mg b % mg c = r) (hn : (!(!pa == pb) == pc) = true) (hz : r = 0) (hok : okS true q = true) (w : World) :
  Calls Try.prog 31 #[.int .i64 a, .int .i64 b, .int .i64 c] w (MDEnd (outS true q) 0 w) := by
 have m1 := mg_bd ha
 have m2 := mg_bd hb
 have m4 := mg_bd hcc
 have h2 := lo64_bd (mg a * mg b)
 obtain ⟨h3, eP, q0, q1, r0, r1⟩ := md_quot a b c ha hb hg
 have c1 : (c == 0) = false := by simpa using hc
 have c2 : decide (mg c ≤ hi64 (mg a * mg b)) = false := decide_eq_false (by omega)
 have hD := fun w => bits_Div64.same (hi64 (mg a * mg b)) (lo64 (mg a * mg b)) (mg c) h3 hg (by omega) h2 w
 rw [eP, hq, hr] at hD
 rw [hq] at q0 q1
 rw [hr] at r0 r1
 have HD := Lib.hid hD
 have z1 : (r != 0) = false := by simp [hz]
 clear hz
 clear hD hc hq hr hg eP h3
 go_enter Try.func31, Try.ntmps31
 go_wp2_with (first | (go_at_call 37; refine (wide_magnitude.same _ (by omega) _).mono ?_; rintro e w' ⟨rfl, rfl⟩) | (go_at_call 36; refine (bits_Mul64.same _ _ (by omega) (by omega) _).mono ?_; rintro e w' ⟨rfl, rfl⟩) | (go_at_call 38; refine (HD.out _).mono ?_; rintro e w' ⟨rfl, ⟨m, rfl⟩⟩) | (go_at_call 39; refine (wide_signer.same _ _).mono ?_; rintro e w' ⟨rfl, rfl⟩) | (go_at_call 43; refine (wide_signer1.same _ _ (by omega) _ _ (box_cell _ _ _)).mono ?_; rintro e w' ⟨rfl, rfl⟩))
 go_ret2
 exact ⟨rfl, lA (lN (Below.refl _ _) _) _⟩
theorem wide_MulDiv.odd_yes (a b c : Int) (hc : c ≠ 0) (ha : -9223372036854775808 ≤ a ∧ a ≤ 9223372036854775807) (hb : -9223372036854775808 ≤ b ∧ b ≤ 9223372036854775807) (hcc : -9223372036854775808 ≤ c ∧ c ≤ 9223372036854775807) (hg : hi64 (mg a * mg b) < mg c)
  (pa pb pc : Bool) (hpa : decide (a < 0) = pa) (hpb : decide (b < 0) = pb) (hpc : decide (c < 0) = pc) (q r : Int) (hq : mg a * mg b / mg c = q) (hr : mg a * mg b % mg c = r) (hn : (!(!pa == pb) == pc) = true) (hz : r ≠ 0) (hl : q < 18446744073709551615) (hok : okS true (q + 1) = true) (w : World) :
  Calls Try.prog 31 #[.int .i64 a, .int .i64 b, .int .i64 c] w (MDEnd (outS true (q + 1)) 0 w) := by
 have m1 := mg_bd ha
 have m2 := mg_bd hb
 have m4 := mg_bd hcc
 have h2 := lo64_bd (mg a * mg b)
 obtain ⟨h3, eP, q0, q1, r0, r1⟩ := md_quot a b c ha hb hg
 have c1 : (c == 0) = false := by simpa using hc
 have c2 : decide (mg c ≤ hi64 (mg a * mg b)) = false := decide_eq_false (by omega)
 have hD := fun w => bits_Div64.same (hi64 (mg a * mg b)) (lo64 (mg a * mg b)) (mg c) h3 hg (by omega) h2 w
 rw [eP, hq, hr] at hD
 rw [hq] at q0 q1
 rw [hr] at r0 r1
 have HD := Lib.hid hD
 have z1 : (r != 0) = true := by simp [hz]
 have z2 : (q + 1 == 0) = false := by simp; omega
 have z3 : q + 1 ≤ 18446744073709551615 := by omega
 clear hz
 clear hD hc hq hr hg eP h3
 go_enter Try.func31, Try.ntmps31
 go_wp2_with (first | (go_at_call 37; refine (wide_magnitude.same _ (by omega) _).mono ?_; rintro e w' ⟨rfl, rfl⟩) | (go_at_call 36; refine (bits_Mul64.same _ _ (by omega) (by omega) _).mono ?_; rintro e w' ⟨rfl, rfl⟩) | (go_at_call 38; refine (HD.out _).mono ?_; rintro e w' ⟨rfl, ⟨m, rfl⟩⟩) | (go_at_call 39; refine (wide_signer.same _ _).mono ?_; rintro e w' ⟨rfl, rfl⟩) | (go_at_call 43; refine (wide_signer1.same _ _ (by omega) _ _ (box_cell _ _ _)).mono ?_; rintro e w' ⟨rfl, rfl⟩))
 go_ret2
 exact ⟨rfl, lA (lN (Below.refl _ _) _) _⟩
theorem wide_MulDiv.plus_no (a b c : Int) (hc : c ≠ 0) (ha : -9223372036854775808 ≤ a ∧ a ≤ 9223372036854775807) (hb : -9223372036854775808 ≤ b ∧ b ≤ 9223372036854775807) (hcc : -9223372036854775808 ≤ c ∧ c ≤ 9223372036854775807) (hg : hi64 (mg a * mg b) < mg c)
  (pa pb pc : Bool) (hpa : decide (a < 0) = pa) (hpb : decide (b < 0) = pb) (hpc : decide (c < 0) = pc) (q r : Int) (hq : mg a * mg b / mg c = q) (hr : mg a * mg b % mg c = r) (hn : (!(!pa == pb) == pc) = false) (hok : okS false q = false) (w : World) :
  Calls Try.prog 31 #[.int .i64 a, .int .i64 b, .int .i64 c] w (MDEnd 0 3 w) := by
 have m1 := mg_bd ha
 have m2 := mg_bd hb
 have m4 := mg_bd hcc
 have h2 := lo64_bd (mg a * mg b)
 obtain ⟨h3, eP, q0, q1, r0, r1⟩ := md_quot a b c ha hb hg
 have c1 : (c == 0) = false := by simpa using hc
 have c2 : decide (mg c ≤ hi64 (mg a * mg b)) = false := decide_eq_false (by omega)
 have hD := fun w => bits_Div64.same (hi64 (mg a * mg b)) (lo64 (mg a * mg b)) (mg c) h3 hg (by omega) h2 w
 rw [eP, hq, hr] at hD
 rw [hq] at q0 q1
 rw [hr] at r0 r1
 have HD := Lib.hid hD
 clear hD hc hq hr hg eP h3
 go_enter Try.func31, Try.ntmps31
 go_wp2_with (first | (go_at_call 37; refine (wide_magnitude.same _ (by omega) _).mono ?_; rintro e w' ⟨rfl, rfl⟩) | (go_at_call 36; refine (bits_Mul64.same _ _ (by omega) (by omega) _).mono ?_; rintro e w' ⟨rfl, rfl⟩) | (go_at_call 38; refine (HD.out _).mono ?_; rintro e w' ⟨rfl, ⟨m, rfl⟩⟩) | (go_at_call 39; refine (wide_signer.same _ _).mono ?_; rintro e w' ⟨rfl, rfl⟩) | (go_at_call 43; refine (wide_signer1.same _ _ (by omega) _ _ (box_cell _ _ _)).mono ?_; rintro e w' ⟨rfl, rfl⟩))
 go_ret2
 exact ⟨rfl, lA (lN (Below.refl _ _) _) _⟩
theorem wide_MulDiv.even_no (a b c : Int) (hc : c ≠ 0) (ha : -9223372036854775808 ≤ a ∧ a ≤ 9223372036854775807) (hb : -9223372036854775808 ≤ b ∧ b ≤ 9223372036854775807) (hcc : -9223372036854775808 ≤ c ∧ c ≤ 9223372036854775807) (hg : hi64 (mg a * mg b) < mg c)
  (pa pb pc : Bool) (hpa : decide (a < 0) = pa) (hpb : decide (b < 0) = pb) (hpc : decide (c < 0) = pc) (q r : Int) (hq : mg a * mg b / mg c = q) (hr : mg a * mg b % mg c = r) (hn : (!(!pa == pb) == pc) = true) (hz : r = 0) (hok : okS true q = false) (w : World) :
  Calls Try.prog 31 #[.int .i64 a, .int .i64 b, .int .i64 c] w (MDEnd 0 3 w) := by
 have m1 := mg_bd ha
 have m2 := mg_bd hb
 have m4 := mg_bd hcc
 have h2 := lo64_bd (mg a * mg b)
 obtain ⟨h3, eP, q0, q1, r0, r1⟩ := md_quot a b c ha hb hg
 have c1 : (c == 0) = false := by simpa using hc
 have c2 : decide (mg c ≤ hi64 (mg a * mg b)) = false := decide_eq_false (by omega)
 have hD := fun w => bits_Div64.same (hi64 (mg a * mg b)) (lo64 (mg a * mg b)) (mg c) h3 hg (by omega) h2 w
 rw [eP, hq, hr] at hD
 rw [hq] at q0 q1
 rw [hr] at r0 r1
 have HD := Lib.hid hD
 have z1 : (r != 0) = false := by simp [hz]
 clear hz
 clear hD hc hq hr hg eP h3
 go_enter Try.func31, Try.ntmps31
 go_wp2_with (first | (go_at_call 37; refine (wide_magnitude.same _ (by omega) _).mono ?_; rintro e w' ⟨rfl, rfl⟩) | (go_at_call 36; refine (bits_Mul64.same _ _ (by omega) (by omega) _).mono ?_; rintro e w' ⟨rfl, rfl⟩) | (go_at_call 38; refine (HD.out _).mono ?_; rintro e w' ⟨rfl, ⟨m, rfl⟩⟩) | (go_at_call 39; refine (wide_signer.same _ _).mono ?_; rintro e w' ⟨rfl, rfl⟩) | (go_at_call 43; refine (wide_signer1.same _ _ (by omega) _ _ (box_cell _ _ _)).mono ?_; rintro e w' ⟨rfl, rfl⟩))
 go_ret2
 exact ⟨rfl, lA (lN (Below.refl _ _) _) _⟩
theorem wide_MulDiv.odd_no (a b c : Int) (hc : c ≠ 0) (ha : -9223372036854775808 ≤ a ∧ a ≤ 9223372036854775807) (hb : -9223372036854775808 ≤ b ∧ b ≤ 9223372036854775807) (hcc : -9223372036854775808 ≤ c ∧ c ≤ 9223372036854775807) (hg : hi64 (mg a * mg b) < mg c)
  (pa pb pc : Bool) (hpa : decide (a < 0) = pa) (hpb : decide (b < 0) = pb) (hpc : decide (c < 0) = pc) (q r : Int) (hq : mg a * mg b / mg c = q) (hr : mg a * mg b % mg c = r) (hn : (!(!pa == pb) == pc) = true) (hz : r ≠ 0) (hl : q < 18446744073709551615) (hok : okS true (q + 1) = false) (w : World) :
  Calls Try.prog 31 #[.int .i64 a, .int .i64 b, .int .i64 c] w (MDEnd 0 3 w) := by
 have m1 := mg_bd ha
 have m2 := mg_bd hb
 have m4 := mg_bd hcc
 have h2 := lo64_bd (mg a * mg b)
 obtain ⟨h3, eP, q0, q1, r0, r1⟩ := md_quot a b c ha hb hg
 have c1 : (c == 0) = false := by simpa using hc
 have c2 : decide (mg c ≤ hi64 (mg a * mg b)) = false := decide_eq_false (by omega)
 have hD := fun w => bits_Div64.same (hi64 (mg a * mg b)) (lo64 (mg a * mg b)) (mg c) h3 hg (by omega) h2 w
 rw [eP, hq, hr] at hD
 rw [hq] at q0 q1
 rw [hr] at r0 r1
 have HD := Lib.hid hD
 have z1 : (r != 0) = true := by simp [hz]
 have z2 : (q + 1 == 0) = false := by simp; omega
 have z3 : q + 1 ≤ 18446744073709551615 := by omega
 clear hz
 clear hD hc hq hr hg eP h3
 go_enter Try.func31, Try.ntmps31
 go_wp2_with (first | (go_at_call 37; refine (wide_magnitude.same _ (by omega) _).mono ?_; rintro e w' ⟨rfl, rfl⟩) | (go_at_call 36; refine (bits_Mul64.same _ _ (by omega) (by omega) _).mono ?_; rintro e w' ⟨rfl, rfl⟩) | (go_at_call 38; refine (HD.out _).mono ?_; rintro e w' ⟨rfl, ⟨m, rfl⟩⟩) | (go_at_call 39; refine (wide_signer.same _ _).mono ?_; rintro e w' ⟨rfl, rfl⟩) | (go_at_call 43; refine (wide_signer1.same _ _ (by omega) _ _ (box_cell _ _ _)).mono ?_; rintro e w' ⟨rfl, rfl⟩))
 go_ret2
 exact ⟨rfl, lA (lN (Below.refl _ _) _) _⟩
theorem wide_MulDiv.last (a b c : Int) (hc : c ≠ 0) (ha : -9223372036854775808 ≤ a ∧ a ≤ 9223372036854775807) (hb : -9223372036854775808 ≤ b ∧ b ≤ 9223372036854775807) (hcc : -9223372036854775808 ≤ c ∧ c ≤ 9223372036854775807) (hg : hi64 (mg a * mg b) < mg c)
  (pa pb pc : Bool) (hpa : decide (a < 0) = pa) (hpb : decide (b < 0) = pb) (hpc : decide (c < 0) = pc) (q r : Int) (hq : mg a * mg b / mg c = q) (hr : mg a * mg b % mg c = r) (hn : (!(!pa == pb) == pc) = true) (hz : r ≠ 0) (hl : q = 18446744073709551615) (w : World) :
  Calls Try.prog 31 #[.int .i64 a, .int .i64 b, .int .i64 c] w (MDEnd 0 3 w) := by
 have m1 := mg_bd ha
 have m2 := mg_bd hb
 have m4 := mg_bd hcc
 have h2 := lo64_bd (mg a * mg b)
 obtain ⟨h3, eP, q0, q1, r0, r1⟩ := md_quot a b c ha hb hg
 have c1 : (c == 0) = false := by simpa using hc
 have c2 : decide (mg c ≤ hi64 (mg a * mg b)) = false := decide_eq_false (by omega)
 have hD := fun w => bits_Div64.same (hi64 (mg a * mg b)) (lo64 (mg a * mg b)) (mg c) h3 hg (by omega) h2 w
 rw [eP, hq, hr] at hD
 rw [hq] at q0 q1
 rw [hr] at r0 r1
 have HD := Lib.hid hD
 have z1 : (r != 0) = true := by simp [hz]
 have z2 : (IntKind.u64.wrap (q + 1) == 0) = true := by subst hl; decide
 clear hz hl
 clear hD hc hq hr hg eP h3
 go_enter Try.func31, Try.ntmps31
 go_wp2_with (first | (go_at_call 37; refine (wide_magnitude.same _ (by omega) _).mono ?_; rintro e w' ⟨rfl, rfl⟩) | (go_at_call 36; refine (bits_Mul64.same _ _ (by omega) (by omega) _).mono ?_; rintro e w' ⟨rfl, rfl⟩) | (go_at_call 38; refine (HD.out _).mono ?_; rintro e w' ⟨rfl, ⟨m, rfl⟩⟩) | (go_at_call 39; refine (wide_signer.same _ _).mono ?_; rintro e w' ⟨rfl, rfl⟩) | (go_at_call 43; refine (wide_signer1.same _ _ (by omega) _ _ (box_cell _ _ _)).mono ?_; rintro e w' ⟨rfl, rfl⟩))
 go_ret2
 exact ⟨rfl, lN (Below.refl _ _) _⟩
theorem outS_true {q : Int} (h0 : 0 ≤ q) (h : okS true q = true) : outS true q = -q := by
 simp only [okS, if_true, decide_eq_true_eq] at h
 simp only [outS, if_true, IntKind.wrap_u64, wrap64]
 omega
theorem outS_false {q : Int} (h0 : 0 ≤ q) (h : okS false q = true) : outS false q = q := by
 simp only [okS, Bool.false_eq_true, if_false, decide_eq_true_eq] at h
 simp only [outS, Bool.false_eq_true, if_false, wrap64]
 omega
theorem wide_MulDiv.same (a b c : Int) (ha : -9223372036854775808 ≤ a ∧ a ≤ 9223372036854775807) (hb : -9223372036854775808 ≤ b ∧ b ≤ 9223372036854775807) (hcc : -9223372036854775808 ≤ c ∧ c ≤ 9223372036854775807) (w : World) :
  Calls Try.prog 31 #[.int .i64 a, .int .i64 b, .int .i64 c] w (MDEnd (mulDivS a b c).1 (mulDivS a b c).2 w) := by
 unfold mulDivS
 by_cases hc : c = 0
 ·subst hc
  exact wide_MulDiv.zero a b w
 ·rw [if_neg hc]
  have m1 := mg_bd ha
  have m2 := mg_bd hb
  have m3 := mg_mul a b ha hb
  have m4 : 0 < mg c ∧ mg c ≤ 9223372036854775808 := by unfold mg; split <;> omega
  obtain ⟨pa, hpa⟩ : ∃ p, decide (a < 0) = p := ⟨_, rfl⟩
  obtain ⟨pb, hpb⟩ : ∃ p, decide (b < 0) = p := ⟨_, rfl⟩
  obtain ⟨pc, hpc⟩ : ∃ p, decide (c < 0) = p := ⟨_, rfl⟩
  obtain ⟨q, hq⟩ : ∃ p, mg a * mg b / mg c = p := ⟨_, rfl⟩
  obtain ⟨r, hr⟩ : ∃ p, mg a * mg b % mg c = p := ⟨_, rfl⟩
  have hf := fl_mg a b c hc pa pb pc hpa hpb hpc
  rw [fl_neg m4.1 hq hr, hq] at hf
  obtain ⟨e, r0, r1⟩ := div_parts m4.1 hq hr
  have q0 : 0 ≤ q := by rw [← hq]; exact Int.ediv_nonneg m3.1 (by omega)
  by_cases hg : mg c ≤ hi64 (mg a * mg b)
  ·have big : 18446744073709551616 ≤ q := by
    rw [← hq]
    refine (Int.le_ediv_iff_mul_le m4.1).mpr ?_
    unfold hi64 at hg
    omega
   have : i64B (fl (a * b) c) = false := by
    rw [i64B_neg, hf]
    split <;> (try split) <;> omega
   rw [this]
   exact wide_MulDiv.great a b c hc ha hb hcc hg w
  ·have hg' : hi64 (mg a * mg b) < mg c := by omega
   have q1 := (md_quot a b c ha hb hg').2.2.2.1
   rw [hq] at q1
   cases hn : (!(!pa == pb) == pc)
   ·rw [hn] at hf
    simp only [Bool.false_eq_true, if_false] at hf
    rw [hf]
    cases hok : okS false q
    ·have : i64B q = false := by
      simp only [okS, Bool.false_eq_true, if_false, decide_eq_false_iff_not] at hok
      rw [i64B_neg]; omega
     rw [this]
     exact wide_MulDiv.plus_no a b c hc ha hb hcc hg' pa pb pc hpa hpb hpc q r hq hr hn hok w
    ·have : i64B q = true := by
      simp only [okS, Bool.false_eq_true, if_false, decide_eq_true_eq] at hok
      rw [i64B_iff]; omega
     rw [this]
     have k := wide_MulDiv.plus_yes a b c hc ha hb hcc hg' pa pb pc hpa hpb hpc q r hq hr hn hok w
     rw [outS_false q0 hok] at k
     exact k
   ·rw [hn] at hf
    simp only [if_true] at hf
    by_cases hz : r = 0
    ·rw [if_pos hz] at hf
     rw [hf]
     cases hok : okS true q
     ·have : i64B (-q) = false := by
       simp only [okS, if_true, decide_eq_false_iff_not] at hok
       rw [i64B_neg]; omega
      rw [this]
      exact wide_MulDiv.even_no a b c hc ha hb hcc hg' pa pb pc hpa hpb hpc q r hq hr hn hz hok w
     ·have : i64B (-q) = true := by
       simp only [okS, if_true, decide_eq_true_eq] at hok
       rw [i64B_iff]; omega
      rw [this]
      have k := wide_MulDiv.even_yes a b c hc ha hb hcc hg' pa pb pc hpa hpb hpc q r hq hr hn hz hok w
      rw [outS_true q0 hok] at k
      exact k
    ·rw [if_neg hz] at hf
     rw [hf]
     by_cases hl : q < 18446744073709551615
     ·cases hok : okS true (q + 1)
      ·have : i64B (-(q + 1)) = false := by
        simp only [okS, if_true, decide_eq_false_iff_not] at hok
        rw [i64B_neg]; omega
       rw [this]
       exact wide_MulDiv.odd_no a b c hc ha hb hcc hg' pa pb pc hpa hpb hpc q r hq hr hn hz hl hok w
      ·have : i64B (-(q + 1)) = true := by
        simp only [okS, if_true, decide_eq_true_eq] at hok
        rw [i64B_iff]; omega
       rw [this]
       have k := wide_MulDiv.odd_yes a b c hc ha hb hcc hg' pa pb pc hpa hpb hpc q r hq hr hn hz hl hok w
       rw [outS_true (by omega) hok] at k
       exact k
     ·have : i64B (-(q + 1)) = false := by rw [i64B_neg]; omega
      rw [this]
      exact wide_MulDiv.last a b c hc ha hb hcc hg' pa pb pc hpa hpb hpc q r hq hr hn hz (by omega) w
theorem wide_MulDiv.calls (a b c r1 r2 : Int) (w : World) (h : wide_MulDiv.f a b c = some (r1, r2)) :
  Calls Try.prog 31 #[.int .i64 a, .int .i64 b, .int .i64 c] w fun e w' => e = .returned (.tuple #[.int .i64 r1, .int .i64 r2]) ∧ Below w.heap.size w w' := by
 unfold wide_MulDiv.f at h
 split at h
 ·rename_i k
  have h := Option.some.inj h
  have := wide_MulDiv.same a b c (i64B_iff.mp k.1) (i64B_iff.mp k.2.1) (i64B_iff.mp k.2.2) w
  rw [h] at this
  exact this
 ·cases h

end Go.Proofs.Ytddooigcnbpliaa.Q
