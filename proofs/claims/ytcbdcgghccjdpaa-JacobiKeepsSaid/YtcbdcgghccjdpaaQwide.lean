-- PRINTED by print.py (a twelfth state) out of the translation. Not trusted: Lean checks it.
import Derived.Test.YtcbdcgghccjdpaaQ0
import Derived.Test.YtcbdcgghccjdpaaMspec
import Derived.Test.YtcbdcgghccjdpaaQbits
import Derived.Laws.Externs
import Derived.Test.YtcbdcgghccjdpaaMdiv64
namespace Go.Proofs.Ytcbdcgghccjdpaa.Q
open Go.RowKit Go.Proofs.YtcbdcgghccjdpaaW.PrintWords Go.Proofs.YtcbdcgghccjdpaaW.PrintLast Go.Proofs.YtcbdcgghccjdpaaW.PrintMore
open Go.Proofs.YtcbdcgghccjdpaaW.PrintWords renaming below_alloc → lA, pw_below_drewN → lN, Aside0.mk → aM
open Bool renaming true → T, false → F
attribute [local go_sem] max2_int min2_int max_two min_two max_three min_three max_four min_four   -- for this text's walks alone
set_option linter.unusedVariables false
set_option linter.unusedSimpArgs false

/-! ### wide_magnitude: function 50 (given) -/
-- IMPORT Derived.Test.YtcbdcgghccjdpaaMspec
def wide_magnitude.f (a : Int) : Option Int := if i64B a = true then some (mg a) else none
theorem wide_magnitude.same (a : Int) (ha : -9223372036854775808 ≤ a ∧ a ≤ 9223372036854775807) (w : World) :
  Calls Try.prog 50 #[.int .i64 a] w fun e w' => e = .returned (.int .u64 (mg a)) ∧ w = w' := by
 by_cases c : a < 0
 ·have c1 : decide (a < 0) = true := decide_eq_true c
  have e : IntKind.u64.wrap (-IntKind.u64.wrap a) = mg a := by simp only [IntKind.wrap_u64, mg, if_pos c]; omega
  go_enter Try.func50, Try.ntmps50
  go_wp2
  go_ret
  exact ⟨ret_int rfl, rfl⟩
 ·have c1 : decide (a < 0) = false := decide_eq_false c
  go_enter Try.func50, Try.ntmps50
  go_wp2
  go_ret
  exact ⟨ret_int (by unfold mg; omega), rfl⟩
theorem wide_magnitude.calls (a r : Int) (w : World) (h : wide_magnitude.f a = some r) :
  Calls Try.prog 50 #[.int .i64 a] w fun e w' => e = .returned (.int .u64 r) ∧ Drawn0 w w' := by
 unfold wide_magnitude.f at h
 split at h
 ·rename_i c
  obtain rfl := Option.some.inj h
  exact (wide_magnitude.same a (i64B_iff.mp c) w).mono fun e w' ⟨h1, h2⟩ => ⟨h1, Drawn0.of_eq h2⟩
 ·cases h

/-! ### wide_MulDiv: function 39 (given) -/
-- IMPORT Derived.Test.YtcbdcgghccjdpaaMdiv64
-- IMPORT Derived.Test.YtcbdcgghccjdpaaMfloor
-- NEEDS math/bits.Mul64
-- NEEDS math/bits.Div64
-- NEEDS billiard/wide.magnitude
def wide_MulDiv.f (a b c : Int) : Option (Int × Int) := if i64B a = true ∧ i64B b = true ∧ i64B c = true then some (mulDivS a b c) else none
theorem bits_Div64.same (hi lo y : Int) (h0 : 0 ≤ hi) (h1 : hi < y) (y1 : y ≤ 18446744073709551615) (hl : 0 ≤ lo ∧ lo ≤ 18446744073709551615) (w : World) :
  Calls Try.prog 51 #[.int .u64 hi, .int .u64 lo, .int .u64 y] w fun e w' => e = .returned (.tuple #[.int .u64 ((hi * 18446744073709551616 + lo) / y), .int .u64 ((hi * 18446744073709551616 + lo) % y)]) ∧ Drawn0 w w' :=
 bits_Div64.calls 12 hi lo y _ _ w (bits_Div64.is hi lo y h0 h1 y1 hl.1 hl.2 12 (by omega))
def MDEnd (r1 r2 : Int) (w : World) (e : Ending) (w' : World) : Prop := e = .returned (.tuple #[.int .i64 r1, .int .i64 r2]) ∧ Below w.heap.size w w'
theorem wide_MulDiv.zero (a b : Int) (w : World) : Calls Try.prog 39 #[.int .i64 a, .int .i64 b, .int .i64 0] w (MDEnd 0 2 w) := by
 go_enter Try.func39, Try.ntmps39
 go_wp2
 go_ret2
 exact ⟨rfl, Below.refl _ _⟩
theorem wide_MulDiv.great (a b c : Int) (hc : c ≠ 0) (ha : -9223372036854775808 ≤ a ∧ a ≤ 9223372036854775807) (hb : -9223372036854775808 ≤ b ∧ b ≤ 9223372036854775807) (hcc : -9223372036854775808 ≤ c ∧ c ≤ 9223372036854775807) (hg : mg c ≤ hi64 (mg a * mg b)) (w : World) :
  Calls Try.prog 39 #[.int .i64 a, .int .i64 b, .int .i64 c] w (MDEnd 0 3 w) := by
 have m1 := mg_bd ha
 have m2 := mg_bd hb
 have m4 := mg_bd hcc
 have c1 : (c == 0) = false := by simpa using hc
 have c2 : decide (mg c ≤ hi64 (mg a * mg b)) = true := decide_eq_true hg
 clear hc hg
 go_enter Try.func39, Try.ntmps39
 go_wp2_with (first | (go_at_call 50; refine (wide_magnitude.same _ (by omega) _).mono ?_; rintro e w' ⟨rfl, rfl⟩) | (go_at_call 49; refine (bits_Mul64.same _ _ (by omega) (by omega) _).mono ?_; rintro e w' ⟨rfl, rfl⟩))
 go_ret2
 exact ⟨rfl, Below.refl _ _⟩
def outS (n : Bool) (q : Int) : Int := if n = true then wrap64 (IntKind.u64.wrap (-q)) else wrap64 q
def okS (n : Bool) (q : Int) : Bool := if n = true then decide (q ≤ 9223372036854775808) else decide (q < 9223372036854775808)
theorem wide_signer.same (n : Bool) (w : World) :
  Calls Try.prog 52 #[.bool n] w fun e w' => e = .returned (.func (.func 58) #[] #[.pointer (some ⟨w.heap.size, 0, none⟩)]) ∧ w.alloc (.cells #[.bool n] 4) = w' := by
 go_enter Try.func52, Try.ntmps52
 go_wp2
 go_ret
 exact ⟨rfl, rfl⟩
theorem wide_signer1.same (n : Bool) (q : Int) (hq : 0 ≤ q ∧ q ≤ 18446744073709551615) (a : Addr) (w : World) (hc : w.cell? a = some (.bool n)) :
  Calls Try.prog 58 #[.int .u64 q, .pointer (some a)] w fun e w' => e = .returned (.tuple #[.int .i64 (outS n q), .bool (okS n q)]) ∧ w = w' := by
 cases n
 ·have e1 : wrap64 q = outS false q := rfl
  have e2 : decide (q < 9223372036854775808) = okS false q := rfl
  go_enter Try.func58, Try.ntmps58
  go_wp2
  trace_state
  go_ret2
  exact ⟨rfl, rfl⟩
 ·have e1 : wrap64 (IntKind.u64.wrap (-q)) = outS true q := rfl
  have e2 : decide (q ≤ 9223372036854775808) = okS true q := rfl
  go_enter Try.func58, Try.ntmps58
  go_wp2
  trace_state
  go_ret2
  exact ⟨rfl, rfl⟩
theorem box_cell (w : World) (m : Nat) (n : Bool) : ((w.drewN m).alloc (.cells #[.bool n] 4)).cell? ⟨w.heap.size, 0, none⟩ = some (.bool n) :=
 (World.cell?_alloc_at (w := w.drewN m) #[.bool n] 4 w.heap.size 0 rfl).trans rfl
theorem md_quot (a b c : Int) (ha : -9223372036854775808 ≤ a ∧ a ≤ 9223372036854775807) (hb : -9223372036854775808 ≤ b ∧ b ≤ 9223372036854775807) (hg : hi64 (mg a * mg b) < mg c) :
  0 ≤ hi64 (mg a * mg b) ∧ hi64 (mg a * mg b) * 18446744073709551616 + lo64 (mg a * mg b) = mg a * mg b ∧ 0 ≤ mg a * mg b / mg c ∧ mg a * mg b / mg c ≤ 18446744073709551615 ∧ 0 ≤ mg a * mg b % mg c ∧ mg a * mg b % mg c < mg c := by
 have hm := mg_mul a b ha hb
 have h3 : 0 ≤ hi64 (mg a * mg b) := by unfold hi64; omega
 have eP : hi64 (mg a * mg b) * 18446744073709551616 + lo64 (mg a * mg b) = mg a * mg b := by unfold hi64 lo64; omega
 have h2 := lo64_bd (mg a * mg b)
 have h0 : 0 < mg c := by omega
 have k : hi64 (mg a * mg b) * 18446744073709551616 + 18446744073709551616 ≤ mg c * 18446744073709551616 := by omega
 have : mg a * mg b / mg c < 18446744073709551616 := Int.ediv_lt_of_lt_mul h0 (by omega)
 exact ⟨h3, eP, Int.ediv_nonneg hm.1 (by omega), by omega, Int.emod_nonneg _ (by omega), Int.emod_lt_of_pos _ h0⟩
theorem wide_MulDiv.plus_yes (a b c : Int) (hc : c ≠ 0) (ha : -9223372036854775808 ≤ a ∧ a ≤ 9223372036854775807) (hb : -9223372036854775808 ≤ b ∧ b ≤ 9223372036854775807) (hcc : -9223372036854775808 ≤ c ∧ c ≤ 9223372036854775807) (hg : hi64 (mg a * mg b) < mg c)
  (pa pb pc : Bool) (hpa : decide (a < 0) = pa) (hpb : decide (b < 0) = pb) (hpc : decide (c < 0) = pc) (q r : Int) (hq : mg a * mg b / mg c = q) (hr : mg a * mg b % mg c = r) (hn : (!(!pa == pb) == pc) = false) (hok : okS false q = true) (w : World) :
  Calls Try.prog 39 #[.int .i64 a, .int .i64 b, .int .i64 c] w (MDEnd (outS false q) 0 w) := by
 have m1 := mg_bd ha
 have m2 := mg_bd hb
 have m4 := mg_bd hcc
 have h2 := lo64_bd (mg a * mg b)
 obtain ⟨h3, eP, q0, q1, r0, r1⟩ := md_quot a b c ha hb hg
 have c1 : (c == 0) = false := by simpa using hc
 have c2 : decide (mg c ≤ hi64 (mg a * mg b)) = false := decide_eq_false (by omega)
 have hD := fun w => bits_Div64.same (hi64 (mg a * mg b)) (lo64 (mg a * mg b)) (mg c) h3 hg (by omega) h2 w
 rw [eP, hq, hr] at hD
 rw [hq] at q0 q1
 rw [hr] at r0 r1
 have HD := Lib.hid hD
 clear hD hc hq hr hg eP h3
 go_enter Try.func39, Try.ntmps39
 go_wp2_with (first | (go_at_call 50; refine (wide_magnitude.same _ (by omega) _).mono ?_; rintro e w' ⟨rfl, rfl⟩) | (go_at_call 49; refine (bits_Mul64.same _ _ (by omega) (by omega) _).mono ?_; rintro e w' ⟨rfl, rfl⟩) | (go_at_call 51; refine (HD.out _).mono ?_; rintro e w' ⟨rfl, ⟨m, rfl⟩⟩) | (go_at_call 52; refine (wide_signer.same _ _).mono ?_; rintro e w' ⟨rfl, rfl⟩) | (go_at_call 58; refine (wide_signer1.same _ _ (by omega) _ _ (box_cell _ _ _)).mono ?_; rintro e w' ⟨rfl, rfl⟩))
 go_ret2
 exact ⟨rfl, lA (lN (Below.refl _ _) _) _⟩
theorem wide_MulDiv.even_yes (a b c : Int) (hc : c ≠ 0) (ha : -9223372036854775808 ≤ a ∧ a ≤ 9223372036854775807) (hb : -9223372036854775808 ≤ b ∧ b ≤ 9223372036854775807) (hcc : -9223372036854775808 ≤ c ∧ c ≤ 9223372036854775807) (hg : hi64 (mg a * mg b) < mg c)
  (pa pb pc : Bool) (hpa : decide (a < 0) = pa) (hpb : decide (b < 0) = pb) (hpc : decide (c < 0) = pc) (q r : Int) (hq : mg a * mg b / mg c = q) (hr : mg a * mg b % mg c = r) (hn : (!(!pa == pb) == pc) = true) (hz : r = 0) (hok : okS true q = true) (w : World) :
  Calls Try.prog 39 #[.int .i64 a, .int .i64 b, .int .i64 c] w (MDEnd (outS true q) 0 w) := by
 have m1 := mg_bd ha
 have m2 := mg_bd hb
 have m4 := mg_bd hcc
 have h2 := lo64_bd (mg a * mg b)
 obtain ⟨h3, eP, q0, q1, r0, r1⟩ := md_quot a b c ha hb hg
 have c1 : (c == 0) = false := by simpa using hc
 have c2 : decide (mg c ≤ hi64 (mg a * mg b)) = false := decide_eq_false (by omega)
 have hD := fun w => bits_Div64.same (hi64 (mg a * mg b)) (lo64 (mg a * mg b)) (mg c) h3 hg (by omega) h2 w
 rw [eP, hq, hr] at hD
 rw [hq] at q0 q1
 rw [hr] at r0 r1
 have HD := Lib.hid hD
 have z1 : (r != 0) = false := by simp [hz]
 clear hz
 clear hD hc hq hr hg eP h3
 go_enter Try.func39, Try.ntmps39
 go_wp2_with (first | (go_at_call 50; refine (wide_magnitude.same _ (by omega) _).mono ?_; rintro e w' ⟨rfl, rfl⟩) | (go_at_call 49; refine (bits_Mul64.same _ _ (by omega) (by omega) _).mono ?_; rintro e w' ⟨rfl, rfl⟩) | (go_at_call 51; refine (HD.out _).mono ?_; rintro e w' ⟨rfl, ⟨m, rfl⟩⟩) | (go_at_call 52; refine (wide_signer.same _ _).mono ?_; rintro e w' ⟨rfl, rfl⟩) | (go_at_call 58; refine (wide_signer1.same _ _ (by omega) _ _ (box_cell _ _ _)).mono ?_; rintro e w' ⟨rfl, rfl⟩))
 go_ret2
 exact ⟨rfl, lA (lN (Below.refl _ _) _) _⟩
theorem wide_MulDiv.odd_yes (a b c : Int) (hc : c ≠ 0) (ha : -9223372036854775808 ≤ a ∧ a ≤ 9223372036854775807) (hb : -9223372036854775808 ≤ b ∧ b ≤ 9223372036854775807) (hcc : -9223372036854775808 ≤ c ∧ c ≤ 9223372036854775807) (hg : hi64 (mg a * mg b) < mg c)
  (pa pb pc : Bool) (hpa : decide (a < 0) = pa) (hpb : decide (b < 0) = pb) (hpc : decide (c < 0) = pc) (q r : Int) (hq : mg a * mg b / mg c = q) (hr : mg a * mg b % mg c = r) (hn : (!(!pa == pb) == pc) = true) (hz : r ≠ 0) (hl : q < 18446744073709551615) (hok : okS true (q + 1) = true) (w : World) :
  Calls Try.prog 39 #[.int .i64 a, .int .i64 b, .int .i64 c] w (MDEnd (outS true (q + 1)) 0 w) := by
 have m1 := mg_bd ha
 have m2 := mg_bd hb
 have m4 := mg_bd hcc
 have h2 := lo64_bd (mg a * mg b)
 obtain ⟨h3, eP, q0, q1, r0, r1⟩ := md_quot a b c ha hb hg
 have c1 : (c == 0) = false := by simpa using hc
 have c2 : decide (mg c ≤ hi64 (mg a * mg b)) = false := decide_eq_false (by omega)
 have hD := fun w => bits_Div64.same (hi64 (mg a * mg b)) (lo64 (mg a * mg b)) (mg c) h3 hg (by omega) h2 w
 rw [eP, hq, hr] at hD
 rw [hq] at q0 q1
 rw [hr] at r0 r1
 have HD := Lib.hid hD
 have z1 : (r != 0) = true := by simp [hz]
 have z2 : (q + 1 == 0) = false := by simp; omega
 have z3 : q + 1 ≤ 18446744073709551615 := by omega
 clear hz
 clear hD hc hq hr hg eP h3
 go_enter Try.func39, Try.ntmps39
 go_wp2_with (first | (go_at_call 50; refine (wide_magnitude.same _ (by omega) _).mono ?_; rintro e w' ⟨rfl, rfl⟩) | (go_at_call 49; refine (bits_Mul64.same _ _ (by omega) (by omega) _).mono ?_; rintro e w' ⟨rfl, rfl⟩) | (go_at_call 51; refine (HD.out _).mono ?_; rintro e w' ⟨rfl, ⟨m, rfl⟩⟩) | (go_at_call 52; refine (wide_signer.same _ _).mono ?_; rintro e w' ⟨rfl, rfl⟩) | (go_at_call 58; refine (wide_signer1.same _ _ (by omega) _ _ (box_cell _ _ _)).mono ?_; rintro e w' ⟨rfl, rfl⟩))
 go_ret2
 exact ⟨rfl, lA (lN (Below.refl _ _) _) _⟩
theorem wide_MulDiv.plus_no (a b c : Int) (hc : c ≠ 0) (ha : -9223372036854775808 ≤ a ∧ a ≤ 9223372036854775807) (hb : -9223372036854775808 ≤ b ∧ b ≤ 9223372036854775807) (hcc : -9223372036854775808 ≤ c ∧ c ≤ 9223372036854775807) (hg : hi64 (mg a * mg b) < mg c)
  (pa pb pc : Bool) (hpa : decide (a < 0) = pa) (hpb : decide (b < 0) = pb) (hpc : decide (c < 0) = pc) (q r : Int) (hq : mg a * mg b / mg c = q) (hr : mg a * mg b % mg c = r) (hn : (!(!pa == pb) == pc) = false) (hok : okS false q = false) (w : World) :
  Calls Try.prog 39 #[.int .i64 a, .int .i64 b, .int .i64 c] w (MDEnd 0 3 w) := by
 have m1 := mg_bd ha
 have m2 := mg_bd hb
 have m4 := mg_bd hcc
 have h2 := lo64_bd (mg a * mg b)
 obtain ⟨h3, eP, q0, q1, r0, r1⟩ := md_quot a b c ha hb hg
 have c1 : (c == 0) = false := by simpa using hc
 have c2 : decide (mg c ≤ hi64 (mg a * mg b)) = false := decide_eq_false (by omega)
 have hD := fun w => bits_Div64.same (hi64 (mg a * mg b)) (lo64 (mg a * mg b)) (mg c) h3 hg (by omega) h2 w
 rw [eP, hq, hr] at hD
 rw [hq] at q0 q1
 rw [hr] at r0 r1
 have HD := Lib.hid hD
 clear hD hc hq hr hg eP h3
 go_enter Try.func39, Try.ntmps39
 go_wp2_with (first | (go_at_call 50; refine (wide_magnitude.same _ (by omega) _).mono ?_; rintro e w' ⟨rfl, rfl⟩) | (go_at_call 49; refine (bits_Mul64.same _ _ (by omega) (by omega) _).mono ?_; rintro e w' ⟨rfl, rfl⟩) | (go_at_call 51; refine (HD.out _).mono ?_; rintro e w' ⟨rfl, ⟨m, rfl⟩⟩) | (go_at_call 52; refine (wide_signer.same _ _).mono ?_; rintro e w' ⟨rfl, rfl⟩) | (go_at_call 58; refine (wide_signer1.same _ _ (by omega) _ _ (box_cell _ _ _)).mono ?_; rintro e w' ⟨rfl, rfl⟩))
 go_ret2
 exact ⟨rfl, lA (lN (Below.refl _ _) _) _⟩
theorem wide_MulDiv.even_no (a b c : Int) (hc : c ≠ 0) (ha : -9223372036854775808 ≤ a ∧ a ≤ 9223372036854775807) (hb : -9223372036854775808 ≤ b ∧ b ≤ 9223372036854775807) (hcc : -9223372036854775808 ≤ c ∧ c ≤ 9223372036854775807) (hg : hi64 (mg a * mg b) < mg c)
  (pa pb pc : Bool) (hpa : decide (a < 0) = pa) (hpb : decide (b < 0) = pb) (hpc : decide (c < 0) = pc) (q r : Int) (hq : mg a * mg b / mg c = q) (hr : mg a * mg b % mg c = r) (hn : (!(!pa == pb) == pc) = true) (hz : r = 0) (hok : okS true q = false) (w : World) :
  Calls Try.prog 39 #[.int .i64 a, .int .i64 b, .int .i64 c] w (MDEnd 0 3 w) := by
 have m1 := mg_bd ha
 have m2 := mg_bd hb
 have m4 := mg_bd hcc
 have h2 := lo64_bd (mg a * mg b)
 obtain ⟨h3, eP, q0, q1, r0, r1⟩ := md_quot a b c ha hb hg
 have c1 : (c == 0) = false := by simpa using hc
 have c2 : decide (mg c ≤ hi64 (mg a * mg b)) = false := decide_eq_false (by omega)
 have hD := fun w => bits_Div64.same (hi64 (mg a * mg b)) (lo64 (mg a * mg b)) (mg c) h3 hg (by omega) h2 w
 rw [eP, hq, hr] at hD
 rw [hq] at q0 q1
 rw [hr] at r0 r1
 have HD := Lib.hid hD
 have z1 : (r != 0) = false := by simp [hz]
 clear hz
 clear hD hc hq hr hg eP h3
 go_enter Try.func39, Try.ntmps39
 go_wp2_with (first | (go_at_call 50; refine (wide_magnitude.same _ (by omega) _).mono ?_; rintro e w' ⟨rfl, rfl⟩) | (go_at_call 49; refine (bits_Mul64.same _ _ (by omega) (by omega) _).mono ?_; rintro e w' ⟨rfl, rfl⟩) | (go_at_call 51; refine (HD.out _).mono ?_; rintro e w' ⟨rfl, ⟨m, rfl⟩⟩) | (go_at_call 52; refine (wide_signer.same _ _).mono ?_; rintro e w' ⟨rfl, rfl⟩) | (go_at_call 58; refine (wide_signer1.same _ _ (by omega) _ _ (box_cell _ _ _)).mono ?_; rintro e w' ⟨rfl, rfl⟩))
 go_ret2
 exact ⟨rfl, lA (lN (Below.refl _ _) _) _⟩
theorem wide_MulDiv.odd_no (a b c : Int) (hc : c ≠ 0) (ha : -9223372036854775808 ≤ a ∧ a ≤ 9223372036854775807) (hb : -9223372036854775808 ≤ b ∧ b ≤ 9223372036854775807) (hcc : -9223372036854775808 ≤ c ∧ c ≤ 9223372036854775807) (hg : hi64 (mg a * mg b) < mg c)
  (pa pb pc : Bool) (hpa : decide (a < 0) = pa) (hpb : decide (b < 0) = pb) (hpc : decide (c < 0) = pc) (q r : Int) (hq : mg a * mg b / mg c = q) (hr : mg a * mg b % mg c = r) (hn : (!(!pa == pb) == pc) = true) (hz : r ≠ 0) (hl : q < 18446744073709551615) (hok : okS true (q + 1) = false) (w : World) :
  Calls Try.prog 39 #[.int .i64 a, .int .i64 b, .int .i64 c] w (MDEnd 0 3 w) := by
 have m1 := mg_bd ha
 have m2 := mg_bd hb
 have m4 := mg_bd hcc
 have h2 := lo64_bd (mg a * mg b)
 obtain ⟨h3, eP, q0, q1, r0, r1⟩ := md_quot a b c ha hb hg
 have c1 : (c == 0) = false := by simpa using hc
 have c2 : decide (mg c ≤ hi64 (mg a * mg b)) = false := decide_eq_false (by omega)
 have hD := fun w => bits_Div64.same (hi64 (mg a * mg b)) (lo64 (mg a * mg b)) (mg c) h3 hg (by omega) h2 w
 rw [eP, hq, hr] at hD
 rw [hq] at q0 q1
 rw [hr] at r0 r1
 have HD := Lib.hid hD
 have z1 : (r != 0) = true := by simp [hz]
 have z2 : (q + 1 == 0) = false := by simp; omega
 have z3 : q + 1 ≤ 18446744073709551615 := by omega
 clear hz
 clear hD hc hq hr hg eP h3
 go_enter Try.func39, Try.ntmps39
 go_wp2_with (first | (go_at_call 50; refine (wide_magnitude.same _ (by omega) _).mono ?_; rintro e w' ⟨rfl, rfl⟩) | (go_at_call 49; refine (bits_Mul64.same _ _ (by omega) (by omega) _).mono ?_; rintro e w' ⟨rfl, rfl⟩) | (go_at_call 51; refine (HD.out _).mono ?_; rintro e w' ⟨rfl, ⟨m, rfl⟩⟩) | (go_at_call 52; refine (wide_signer.same _ _).mono ?_; rintro e w' ⟨rfl, rfl⟩) | (go_at_call 58; refine (wide_signer1.same _ _ (by omega) _ _ (box_cell _ _ _)).mono ?_; rintro e w' ⟨rfl, rfl⟩))
 go_ret2
 exact ⟨rfl, lA (lN (Below.refl _ _) _) _⟩
theorem wide_MulDiv.last (a b c : Int) (hc : c ≠ 0) (ha : -9223372036854775808 ≤ a ∧ a ≤ 9223372036854775807) (hb : -9223372036854775808 ≤ b ∧ b ≤ 9223372036854775807) (hcc : -9223372036854775808 ≤ c ∧ c ≤ 9223372036854775807) (hg : hi64 (mg a * mg b) < mg c)
  (pa pb pc : Bool) (hpa : decide (a < 0) = pa) (hpb : decide (b < 0) = pb) (hpc : decide (c < 0) = pc) (q r : Int) (hq : mg a * mg b / mg c = q) (hr : mg a * mg b % mg c = r) (hn : (!(!pa == pb) == pc) = true) (hz : r ≠ 0) (hl : q = 18446744073709551615) (w : World) :
  Calls Try.prog 39 #[.int .i64 a, .int .i64 b, .int .i64 c] w (MDEnd 0 3 w) := by
 have m1 := mg_bd ha
 have m2 := mg_bd hb
 have m4 := mg_bd hcc
 have h2 := lo64_bd (mg a * mg b)
 obtain ⟨h3, eP, q0, q1, r0, r1⟩ := md_quot a b c ha hb hg
 have c1 : (c == 0) = false := by simpa using hc
 have c2 : decide (mg c ≤ hi64 (mg a * mg b)) = false := decide_eq_false (by omega)
 have hD := fun w => bits_Div64.same (hi64 (mg a * mg b)) (lo64 (mg a * mg b)) (mg c) h3 hg (by omega) h2 w
 rw [eP, hq, hr] at hD
 rw [hq] at q0 q1
 rw [hr] at r0 r1
 have HD := Lib.hid hD
 have z1 : (r != 0) = true := by simp [hz]
 have z2 : (IntKind.u64.wrap (q + 1) == 0) = true := by subst hl; decide
 clear hz hl
 clear hD hc hq hr hg eP h3
 go_enter Try.func39, Try.ntmps39
 go_wp2_with (first | (go_at_call 50; refine (wide_magnitude.same _ (by omega) _).mono ?_; rintro e w' ⟨rfl, rfl⟩) | (go_at_call 49; refine (bits_Mul64.same _ _ (by omega) (by omega) _).mono ?_; rintro e w' ⟨rfl, rfl⟩) | (go_at_call 51; refine (HD.out _).mono ?_; rintro e w' ⟨rfl, ⟨m, rfl⟩⟩) | (go_at_call 52; refine (wide_signer.same _ _).mono ?_; rintro e w' ⟨rfl, rfl⟩) | (go_at_call 58; refine (wide_signer1.same _ _ (by omega) _ _ (box_cell _ _ _)).mono ?_; rintro e w' ⟨rfl, rfl⟩))
 go_ret2
 exact ⟨rfl, lN (Below.refl _ _) _⟩
theorem outS_true {q : Int} (h0 : 0 ≤ q) (h : okS true q = true) : outS true q = -q := by
 simp only [okS, if_true, decide_eq_true_eq] at h
 simp only [outS, if_true, IntKind.wrap_u64, wrap64]
 omega
theorem outS_false {q : Int} (h0 : 0 ≤ q) (h : okS false q = true) : outS false q = q := by
 simp only [okS, Bool.false_eq_true, if_false, decide_eq_true_eq] at h
 simp only [outS, Bool.false_eq_true, if_false, wrap64]
 omega
theorem wide_MulDiv.same (a b c : Int) (ha : -9223372036854775808 ≤ a ∧ a ≤ 9223372036854775807) (hb : -9223372036854775808 ≤ b ∧ b ≤ 9223372036854775807) (hcc : -9223372036854775808 ≤ c ∧ c ≤ 9223372036854775807) (w : World) :
  Calls Try.prog 39 #[.int .i64 a, .int .i64 b, .int .i64 c] w (MDEnd (mulDivS a b c).1 (mulDivS a b c).2 w) := by
 unfold mulDivS
 by_cases hc : c = 0
 ·subst hc
  exact wide_MulDiv.zero a b w
 ·rw [if_neg hc]
  have m1 := mg_bd ha
  have m2 := mg_bd hb
  have m3 := mg_mul a b ha hb
  have m4 : 0 < mg c ∧ mg c ≤ 9223372036854775808 := by unfold mg; split <;> omega
  obtain ⟨pa, hpa⟩ : ∃ p, decide (a < 0) = p := ⟨_, rfl⟩
  obtain ⟨pb, hpb⟩ : ∃ p, decide (b < 0) = p := ⟨_, rfl⟩
  obtain ⟨pc, hpc⟩ : ∃ p, decide (c < 0) = p := ⟨_, rfl⟩
  obtain ⟨q, hq⟩ : ∃ p, mg a * mg b / mg c = p := ⟨_, rfl⟩
  obtain ⟨r, hr⟩ : ∃ p, mg a * mg b % mg c = p := ⟨_, rfl⟩
  have hf := fl_mg a b c hc pa pb pc hpa hpb hpc
  rw [fl_neg m4.1 hq hr, hq] at hf
  obtain ⟨e, r0, r1⟩ := div_parts m4.1 hq hr
  have q0 : 0 ≤ q := by rw [← hq]; exact Int.ediv_nonneg m3.1 (by omega)
  by_cases hg : mg c ≤ hi64 (mg a * mg b)
  ·have big : 18446744073709551616 ≤ q := by
    rw [← hq]
    refine (Int.le_ediv_iff_mul_le m4.1).mpr ?_
    unfold hi64 at hg
    omega
   have : i64B (fl (a * b) c) = false := by
    rw [i64B_neg, hf]
    split <;> (try split) <;> omega
   rw [this]
   exact wide_MulDiv.great a b c hc ha hb hcc hg w
  ·have hg' : hi64 (mg a * mg b) < mg c := by omega
   have q1 := (md_quot a b c ha hb hg').2.2.2.1
   rw [hq] at q1
   cases hn : (!(!pa == pb) == pc)
   ·rw [hn] at hf
    simp only [Bool.false_eq_true, if_false] at hf
    rw [hf]
    cases hok : okS false q
    ·have : i64B q = false := by
      simp only [okS, Bool.false_eq_true, if_false, decide_eq_false_iff_not] at hok
      rw [i64B_neg]; omega
     rw [this]
     exact wide_MulDiv.plus_no a b c hc ha hb hcc hg' pa pb pc hpa hpb hpc q r hq hr hn hok w
    ·have : i64B q = true := by
      simp only [okS, Bool.false_eq_true, if_false, decide_eq_true_eq] at hok
      rw [i64B_iff]; omega
     rw [this]
     have k := wide_MulDiv.plus_yes a b c hc ha hb hcc hg' pa pb pc hpa hpb hpc q r hq hr hn hok w
     rw [outS_false q0 hok] at k
     exact k
   ·rw [hn] at hf
    simp only [if_true] at hf
    by_cases hz : r = 0
    ·rw [if_pos hz] at hf
     rw [hf]
     cases hok : okS true q
     ·have : i64B (-q) = false := by
       simp only [okS, if_true, decide_eq_false_iff_not] at hok
       rw [i64B_neg]; omega
      rw [this]
      exact wide_MulDiv.even_no a b c hc ha hb hcc hg' pa pb pc hpa hpb hpc q r hq hr hn hz hok w
     ·have : i64B (-q) = true := by
       simp only [okS, if_true, decide_eq_true_eq] at hok
       rw [i64B_iff]; omega
      rw [this]
      have k := wide_MulDiv.even_yes a b c hc ha hb hcc hg' pa pb pc hpa hpb hpc q r hq hr hn hz hok w
      rw [outS_true q0 hok] at k
      exact k
    ·rw [if_neg hz] at hf
     rw [hf]
     by_cases hl : q < 18446744073709551615
     ·cases hok : okS true (q + 1)
      ·have : i64B (-(q + 1)) = false := by
        simp only [okS, if_true, decide_eq_false_iff_not] at hok
        rw [i64B_neg]; omega
       rw [this]
       exact wide_MulDiv.odd_no a b c hc ha hb hcc hg' pa pb pc hpa hpb hpc q r hq hr hn hz hl hok w
      ·have : i64B (-(q + 1)) = true := by
        simp only [okS, if_true, decide_eq_true_eq] at hok
        rw [i64B_iff]; omega
       rw [this]
       have k := wide_MulDiv.odd_yes a b c hc ha hb hcc hg' pa pb pc hpa hpb hpc q r hq hr hn hz hl hok w
       rw [outS_true (by omega) hok] at k
       exact k
     ·have : i64B (-(q + 1)) = false := by rw [i64B_neg]; omega
      rw [this]
      exact wide_MulDiv.last a b c hc ha hb hcc hg' pa pb pc hpa hpb hpc q r hq hr hn hz (by omega) w
theorem wide_MulDiv.calls (a b c r1 r2 : Int) (w : World) (h : wide_MulDiv.f a b c = some (r1, r2)) :
  Calls Try.prog 39 #[.int .i64 a, .int .i64 b, .int .i64 c] w fun e w' => e = .returned (.tuple #[.int .i64 r1, .int .i64 r2]) ∧ Below w.heap.size w w' := by
 unfold wide_MulDiv.f at h
 split at h
 ·rename_i k
  have h := Option.some.inj h
  have := wide_MulDiv.same a b c (i64B_iff.mp k.1) (i64B_iff.mp k.2.1) (i64B_iff.mp k.2.2) w
  rw [h] at this
  exact this
 ·cases h

/-! ### wide_Mul: function 59 (given) -/
-- IMPORT Derived.Test.YtcbdcgghccjdpaaMspec
-- IMPORT Derived.Laws.Externs
-- NEEDS math/bits.Mul64
-- NEEDS billiard/wide.magnitude
def wide_Mul.f (a b : Int) : Option (Int × Int) := if i64B a = true ∧ i64B b = true then some (hi64 (a * b), lo64 (a * b)) else none
theorem add64_run (x y c : Int) (hx : 0 ≤ x) (hy : 0 ≤ y) (hc0 : 0 ≤ c) (hc : c ≤ 1) (w : World) :
  (callFunc 63 #[.int .u64 x, .int .u64 y, .int .u64 c]).run Try.prog w = .ok (.value (.tuple #[.int .u64 (lo64 (x + y + c)), .int .u64 (hi64 (x + y + c))])) w := by
 rw [run_callFunc_extern Try.func63 (by kernel_rfl) (by kernel_rfl) (by kernel_rfl) (e := add64Entry) (by kernel_rfl), run_add64 x y c hx hy hc0 hc]
 rfl
theorem wide_Mul.plus (a b : Int) (p : Bool) (ha : -9223372036854775808 ≤ a ∧ a ≤ 9223372036854775807) (hb : -9223372036854775808 ≤ b ∧ b ≤ 9223372036854775807) (c1 : decide (a < 0) = p) (c2 : decide (b < 0) = p) (w : World) :
  Calls Try.prog 59 #[.int .i64 a, .int .i64 b] w fun e w' => e = .returned (.tuple #[.int .i64 (hi64 (mg a * mg b)), .int .u64 (lo64 (mg a * mg b))]) ∧ w = w' := by
 have m1 := mg_bd ha
 have m2 := mg_bd hb
 have m3 := mg_mul a b ha hb
 have h1 : 0 ≤ hi64 (mg a * mg b) ∧ hi64 (mg a * mg b) ≤ 4611686018427387904 := by unfold hi64; omega
 have h2 := lo64_bd (mg a * mg b)
 clear m3
 go_enter Try.func59, Try.ntmps59
 go_wp2_with (first | (go_at_call 50; refine (wide_magnitude.same _ (by omega) _).mono ?_; rintro e w' ⟨rfl, rfl⟩) | (go_at_call 49; refine (bits_Mul64.same _ _ (by omega) (by omega) _).mono ?_; rintro e w' ⟨rfl, rfl⟩))
 go_ret2
 exact ⟨rfl, rfl⟩
theorem wide_Mul.minus (a b : Int) (p q : Bool) (hpq : q = !p) (ha : -9223372036854775808 ≤ a ∧ a ≤ 9223372036854775807) (hb : -9223372036854775808 ≤ b ∧ b ≤ 9223372036854775807) (c1 : decide (a < 0) = p) (c2 : decide (b < 0) = q) (w : World) :
  Calls Try.prog 59 #[.int .i64 a, .int .i64 b] w fun e w' => e = .returned (.tuple #[.int .i64 (hi64 (-(mg a * mg b))), .int .u64 (lo64 (-(mg a * mg b)))]) ∧ w = w' := by
 have m1 := mg_bd ha
 have m2 := mg_bd hb
 have m3 := mg_mul a b ha hb
 have h1 : 0 ≤ hi64 (mg a * mg b) ∧ hi64 (mg a * mg b) ≤ 4611686018427387904 := by unfold hi64; omega
 have h2 := lo64_bd (mg a * mg b)
 have x1 := not_u64 (x := lo64 (mg a * mg b)) h2
 have x2 := not_u64 (x := hi64 (mg a * mg b)) (by omega)
 have n1 := not64_bd (x := lo64 (mg a * mg b)) h2
 have n2 := not64_bd (x := hi64 (mg a * mg b)) (by omega)
 have k1 : lo64 (not64 (lo64 (mg a * mg b)) + 1 + 0) = lo64 (-(mg a * mg b)) := by unfold not64 lo64; omega
 have k2 : 0 ≤ hi64 (not64 (lo64 (mg a * mg b)) + 1 + 0) ∧ hi64 (not64 (lo64 (mg a * mg b)) + 1 + 0) ≤ 1 := by unfold hi64; omega
 have k3 : wrap64 (IntKind.u64.wrap (not64 (hi64 (mg a * mg b)) + hi64 (not64 (lo64 (mg a * mg b)) + 1 + 0))) = hi64 (-(mg a * mg b)) := by
  simp only [IntKind.wrap_u64, wrap64, not64, hi64, lo64]
  omega
 have hadd := add64_run (not64 (lo64 (mg a * mg b))) 1 0 n1.1 (by decide) (by decide) (by decide) w
 clear m3
 have K1 := Lib.hid k1
 have K3 := Lib.hid k3
 clear k1 k3
 generalize hi64 (not64 (lo64 (mg a * mg b)) + 1 + 0) = cc at *
 generalize lo64 (not64 (lo64 (mg a * mg b)) + 1 + 0) = ll at *
 subst hpq
 cases p
 all_goals
  go_enter Try.func59, Try.ntmps59
  go_wp2_with (first | (go_at_call 50; refine (wide_magnitude.same _ (by omega) _).mono ?_; rintro e w' ⟨rfl, rfl⟩) | (go_at_call 49; refine (bits_Mul64.same _ _ (by omega) (by omega) _).mono ?_; rintro e w' ⟨rfl, rfl⟩))
  go_ret2
  exact ⟨ret_two K3.out K1.out, rfl⟩
theorem wide_Mul.same (a b : Int) (ha : -9223372036854775808 ≤ a ∧ a ≤ 9223372036854775807) (hb : -9223372036854775808 ≤ b ∧ b ≤ 9223372036854775807) (w : World) :
  Calls Try.prog 59 #[.int .i64 a, .int .i64 b] w fun e w' => e = .returned (.tuple #[.int .i64 (hi64 (a * b)), .int .u64 (lo64 (a * b))]) ∧ w = w' := by
 by_cases ca : a < 0 <;> by_cases cb : b < 0
 ·have e : mg a * mg b = a * b := by simp [mg, ca, cb, Int.neg_mul, Int.mul_neg]
  have := wide_Mul.plus a b true ha hb (decide_eq_true ca) (decide_eq_true cb) w
  rwa [e] at this
 ·have e : mg a * mg b = -(a * b) := by simp [mg, ca, cb, Int.neg_mul]
  have := wide_Mul.minus a b true false rfl ha hb (decide_eq_true ca) (decide_eq_false cb) w
  rwa [e, Int.neg_neg] at this
 ·have e : mg a * mg b = -(a * b) := by simp [mg, ca, cb, Int.mul_neg]
  have := wide_Mul.minus a b false true rfl ha hb (decide_eq_false ca) (decide_eq_true cb) w
  rwa [e, Int.neg_neg] at this
 ·have e : mg a * mg b = a * b := by simp [mg, ca, cb, Int.neg_mul, Int.mul_neg]
  have := wide_Mul.plus a b false ha hb (decide_eq_false ca) (decide_eq_false cb) w
  rwa [e] at this
theorem wide_Mul.calls (a b r1 r2 : Int) (w : World) (h : wide_Mul.f a b = some (r1, r2)) :
  Calls Try.prog 59 #[.int .i64 a, .int .i64 b] w fun e w' => e = .returned (.tuple #[.int .i64 r1, .int .u64 r2]) ∧ Drawn0 w w' := by
 unfold wide_Mul.f at h
 split at h
 ·rename_i c
  simp only [Option.some.injEq, Prod.mk.injEq] at h
  obtain ⟨rfl, rfl⟩ := h
  exact (wide_Mul.same a b (i64B_iff.mp c.1) (i64B_iff.mp c.2) w).mono fun e w' ⟨h1, h2⟩ => ⟨h1, Drawn0.of_eq h2⟩
 ·cases h

/-! ### wide_MulShift: function 53 -/
def wide_MulShift.j0 : Nat → Int → Int → Int → Bool → Option (Int × Int)
 | 0, _, _, _, _ => none
 | k + 1, x0, x1, x2, x16 => if x16 = true then (some (0, 1)) else ((wide_Mul.f x0 x1).bind fun bt164 => (if 0 ≤ (IntKind.u64.wrap (x2)) then (if 0 ≤ (IntKind.u64.wrap (wrap64 (64 - x2))) then (if x2 = 0 then (if (shr .i64 bt164.1 (IntKind.u64.wrap (x2))) = ((wrap64 (bt164.2)) / 9223372036854775808) then (some (wrap64 (bt164.2), 0)) else (some (0, 3))) else (if (shr .i64 bt164.1 (IntKind.u64.wrap (x2))) = ((wrap64 (Go.bits .or .u64 (shr .u64 bt164.2 (IntKind.u64.wrap (x2))) (shl .u64 (IntKind.u64.wrap (bt164.1)) (IntKind.u64.wrap (wrap64 (64 - x2)))))) / 9223372036854775808) then (some (wrap64 (Go.bits .or .u64 (shr .u64 bt164.2 (IntKind.u64.wrap (x2))) (shl .u64 (IntKind.u64.wrap (bt164.1)) (IntKind.u64.wrap (wrap64 (64 - x2))))), 0)) else (some (0, 3)))) else (none)) else (none)))
def wide_MulShift.f (k : Nat) (a0 : Int) (a1 : Int) (a2 : Int) : Option (Int × Int) := if a2 < 0 then (wide_MulShift.j0 k a0 a1 a2 true) else (wide_MulShift.j0 k a0 a1 a2 (decide (a2 ≥ 64)))
theorem wide_MulShift.mono_l : ∀ k, (∀ y0 y1 y2 y3, LeO (wide_MulShift.j0 k y0 y1 y2 y3) (wide_MulShift.j0 (k + 1) y0 y1 y2 y3))
 | 0 => fun _ _ _ _ r h => by simp [wide_MulShift.j0] at h
 | k + 1 => by
  have ih0 := wide_MulShift.mono_l k
  ·intro y0 y1 y2 y3
   unfold wide_MulShift.j0
   repeat' first
   | (with_reducible exact ih0 _ _ _ _)
   | (with_reducible exact LeO.refl _)
   | (with_reducible exact LeO.none _)
   | (with_reducible refine LeO.ite ?_ ?_)
   | (with_reducible refine LeO.bind ?_ (fun _ => ?_))
   | exact ih0 _ _ _ _
   | exact LeO.none _
   | refine LeO.ite ?_ ?_
   | refine LeO.bind ?_ (fun _ => ?_)
theorem wide_MulShift.mono : ∀ a0 a1 a2 k, LeO (wide_MulShift.f k a0 a1 a2) (wide_MulShift.f (k + 1) a0 a1 a2) := by
 intro a0 a1 a2 k
 have ih0 := wide_MulShift.mono_l k
 unfold wide_MulShift.f
 repeat' first
   | (with_reducible exact ih0 _ _ _ _)
   | (with_reducible exact LeO.refl _)
   | (with_reducible exact LeO.none _)
   | (with_reducible refine LeO.ite ?_ ?_)
   | (with_reducible refine LeO.bind ?_ (fun _ => ?_))
   | exact ih0 _ _ _ _
   | exact LeO.none _
   | refine LeO.ite ?_ ?_
   | refine LeO.bind ?_ (fun _ => ?_)
set_option maxHeartbeats 8000000 in
set_option maxRecDepth 100000 in
theorem wide_MulShift.calls (k : Nat) (a0 : Int) (a1 : Int) (a2 : Int) (r1 : Int) (r2 : Int) (w : World) (h : wide_MulShift.f k a0 a1 a2 = some (r1, r2)) :
  Calls Try.prog 53 #[.int .i64 a0, .int .i64 a1, .int .i64 a2] w fun e w' => e = .returned (.tuple #[.int .i64 r1, .int .i64 r2]) ∧ Drawn0 w w' := by
 have H : (if a2 < 0 then (wide_MulShift.j0 k a0 a1 a2 true) else (wide_MulShift.j0 k a0 a1 a2 (decide (a2 ≥ 64)))) = some (r1, r2) := h
 clear h
 have HC4 := aM H
 clear H
 go_enter Try.func53, Try.ntmps53
 go_upto_region 1 with (fail)
 go_cut [16] (fun v16 wc => ∃ (kq : Nat) (x16_3 : Bool), v16 = .bool x16_3 ∧ Aside0 (wide_MulShift.j0 kq a0 a1 a2 x16_3 = some (r1, r2)) ∧ Aside0 (kq ≤ k) ∧ Drawn0 w wc)
 case first =>
  have H := HC4.out
  clear HC4
  by_cases c5 : a2 < 0
  ·rw [if_pos c5] at H
   have c5b0 : decide (a2 < 0) = true := decide_eq_true c5
   clear c5
   (first | rw [c5b0] | (simp only [i64_w, i32_w]; rw [c5b0]) | skip)
   have H' := aM H
   clear H
   go_wp2
   go_meet
   case rel => exact ⟨_, (true), (by first | rfl | (simp; done) | (simp [*]; done)), H', ⟨by first | omega | exact Nat.le_refl _⟩, by repeat (first | exact Drawn0.refl _ | apply Drawn0.step)⟩
  ·rw [if_neg c5] at H
   have c5b0 : decide (a2 < 0) = false := decide_eq_false c5
   clear c5
   (first | rw [c5b0] | (simp only [i64_w, i32_w]; rw [c5b0]) | skip)
   have H' := aM H
   clear H
   go_wp2
   go_meet
   case rel => exact ⟨_, (decide (a2 ≥ 64)), (by first | rfl | (simp; done) | (simp [*]; done)), H', ⟨by first | omega | exact Nat.le_refl _⟩, by repeat (first | exact Drawn0.refl _ | apply Drawn0.step)⟩
 case rest =>
  clear HC4
  try clear p2
  try clear c5
  try clear c5b0
  obtain ⟨kq, x16_3, rfl, HA, HJ3, ⟨mc3, rfl⟩⟩ := hcut
  cases kq with
  | zero => exact absurd HA.out (by simp [wide_MulShift.j0])
  | succ kj3 =>
   have H := HA.out
   clear HA
   simp only [wide_MulShift.j0] at H
   by_cases c6 : x16_3 = true
   ·subst c6
    rw [if_pos rfl] at H
    simp only [Option.some.injEq, Prod.mk.injEq] at H
    obtain ⟨rfl, rfl⟩ := H
    go_wp2
    go_ret2
    exact ⟨by first | rfl | (simp; done) | (simp [*]; done), by repeat (first | exact Drawn0.refl _ | apply Drawn0.step)⟩
   ·replace c6 := Bool.eq_false_iff.mpr c6
    subst c6
    rw [if_neg (show ¬ (false = true) by decide)] at H
    replace H := Option.bind_eq_some_iff.mp H
    obtain ⟨⟨t164, t165⟩, A70, H⟩ := H
    try dsimp only at H
    have A7 := aM A70
    clear A70
    obtain ⟨ji8, hji8⟩ : ∃ j_ : Int, (IntKind.u64.wrap (a2)) = j_ := ⟨_, rfl⟩
    replace H : (if 0 ≤ (ji8) then (if 0 ≤ (IntKind.u64.wrap (wrap64 (64 - a2))) then (if a2 = 0 then (if (shr .i64 t164 (ji8)) = ((wrap64 (t165)) / 9223372036854775808) then (some (wrap64 (t165), 0)) else (some (0, 3))) else (if (shr .i64 t164 (ji8)) = ((wrap64 (Go.bits .or .u64 (shr .u64 t165 (ji8)) (shl .u64 (IntKind.u64.wrap (t164)) (IntKind.u64.wrap (wrap64 (64 - a2)))))) / 9223372036854775808) then (some (wrap64 (Go.bits .or .u64 (shr .u64 t165 (ji8)) (shl .u64 (IntKind.u64.wrap (t164)) (IntKind.u64.wrap (wrap64 (64 - a2))))), 0)) else (some (0, 3)))) else (none)) else (none)) = some (r1, r2) := by first | (rw [hji8] at H; exact H) | (simp only [hji8] at H ⊢; exact H)
    (try rw [hji8] at A7)
    by_cases c9 : 0 ≤ (ji8)
    ·rw [if_pos c9] at H
     have c9b0 := eq_true c9
     have c9b1 : decide (0 ≤ (ji8)) = true := decide_eq_true c9
     clear c9
     obtain ⟨ji10, hji10⟩ : ∃ j_ : Int, (shr .u64 t165 (ji8)) = j_ := ⟨_, rfl⟩
     replace H : (if 0 ≤ (IntKind.u64.wrap (wrap64 (64 - a2))) then (if a2 = 0 then (if (shr .i64 t164 (ji8)) = ((wrap64 (t165)) / 9223372036854775808) then (some (wrap64 (t165), 0)) else (some (0, 3))) else (if (shr .i64 t164 (ji8)) = ((wrap64 (Go.bits .or .u64 (ji10) (shl .u64 (IntKind.u64.wrap (t164)) (IntKind.u64.wrap (wrap64 (64 - a2)))))) / 9223372036854775808) then (some (wrap64 (Go.bits .or .u64 (ji10) (shl .u64 (IntKind.u64.wrap (t164)) (IntKind.u64.wrap (wrap64 (64 - a2))))), 0)) else (some (0, 3)))) else (none)) = some (r1, r2) := by first | (rw [hji10] at H; exact H) | (simp only [hji10] at H ⊢; exact H)
     (try rw [hji10] at A7)
     have hji10_ : (t165 / 2 ^ min (ji8).toNat 64) = ji10 := hji10
     have hji10z : (ji8) ≤ 64 → (t165 / 2 ^ (ji8).toNat) = ji10 := shr_small hji10
     obtain ⟨ji11, hji11⟩ : ∃ j_ : Int, (IntKind.u64.wrap (wrap64 (64 - a2))) = j_ := ⟨_, rfl⟩
     replace H : (if 0 ≤ (ji11) then (if a2 = 0 then (if (shr .i64 t164 (ji8)) = ((wrap64 (t165)) / 9223372036854775808) then (some (wrap64 (t165), 0)) else (some (0, 3))) else (if (shr .i64 t164 (ji8)) = ((wrap64 (Go.bits .or .u64 (ji10) (shl .u64 (IntKind.u64.wrap (t164)) (ji11)))) / 9223372036854775808) then (some (wrap64 (Go.bits .or .u64 (ji10) (shl .u64 (IntKind.u64.wrap (t164)) (ji11))), 0)) else (some (0, 3)))) else (none)) = some (r1, r2) := by first | (rw [hji11] at H; exact H) | (simp only [hji11] at H ⊢; exact H)
     (try rw [hji11] at A7)
     by_cases c12 : 0 ≤ (ji11)
     ·rw [if_pos c12] at H
      have c12b0 := eq_true c12
      have c12b1 : decide (0 ≤ (ji11)) = true := decide_eq_true c12
      clear c12
      obtain ⟨ji13, hji13⟩ : ∃ j_ : Int, (shl .u64 (IntKind.u64.wrap (t164)) (ji11)) = j_ := ⟨_, rfl⟩
      replace H : (if a2 = 0 then (if (shr .i64 t164 (ji8)) = ((wrap64 (t165)) / 9223372036854775808) then (some (wrap64 (t165), 0)) else (some (0, 3))) else (if (shr .i64 t164 (ji8)) = ((wrap64 (Go.bits .or .u64 (ji10) (ji13))) / 9223372036854775808) then (some (wrap64 (Go.bits .or .u64 (ji10) (ji13)), 0)) else (some (0, 3)))) = some (r1, r2) := by first | (rw [hji13] at H; exact H) | (simp only [hji13] at H ⊢; exact H)
      (try rw [hji13] at A7)
      have hji13_ : (IntKind.u64.wrap ((IntKind.u64.wrap (t164)) * 2 ^ min (ji11).toNat 64)) = ji13 := hji13
      have hji13z : (ji11) ≤ 64 → (IntKind.u64.wrap ((IntKind.u64.wrap (t164)) * 2 ^ (ji11).toNat)) = ji13 := shl_small hji13
      by_cases c14 : a2 = 0
      ·rw [if_pos c14] at H
       have c14b0 : (a2 == 0) = true := beq_iff_eq.mpr c14
       have c14b1 : (a2 != 0) = false := bne_eq_false_iff_eq.mpr c14
       clear c14
       have c15b0 := eq_true (of_decide_eq_true (by first | (with_reducible assumption) | assumption) : 0 ≤ (ji8))
       obtain ⟨ji16, hji16⟩ : ∃ j_ : Int, (shr .i64 t164 (ji8)) = j_ := ⟨_, rfl⟩
       replace H : (if (ji16) = ((wrap64 (t165)) / 9223372036854775808) then (some (wrap64 (t165), 0)) else (some (0, 3))) = some (r1, r2) := by first | (rw [hji16] at H; exact H) | (simp only [hji16] at H ⊢; exact H)
       (try rw [hji16] at A7)
       have hji16_ : (t164 / 2 ^ min (ji8).toNat 64) = ji16 := hji16
       have hji16z : (ji8) ≤ 64 → (t164 / 2 ^ (ji8).toNat) = ji16 := shr_small hji16
       by_cases c17 : (ji16) = ((wrap64 (t165)) / 9223372036854775808)
       ·rw [if_pos c17] at H
        have c17b0 : ((ji16) == ((wrap64 (t165)) / 9223372036854775808)) = true := beq_iff_eq.mpr c17
        have c17b1 : ((ji16) != ((wrap64 (t165)) / 9223372036854775808)) = false := bne_eq_false_iff_eq.mpr c17
        clear c17
        simp only [Option.some.injEq, Prod.mk.injEq] at H
        obtain ⟨rfl, rfl⟩ := H
        go_wp2_with (first | ((with_reducible refine gate_callee (f := 59) rfl ?_); refine goesL_ (some 20) rfl rfl Try.func59 (by kernel_rfl) rfl #[.int .i64 a0, .int .i64 a1] rfl (by (try simp only [List.map_toArray, List.map_cons, List.map_nil]); first | done | rfl | (simp only [List.length_drop, List.length_take]; rfl)) ?_; (with_reducible refine (wide_Mul.calls a0 a1 t164 t165 _ A7.out).mono ?_); rintro e w' ⟨rfl, ⟨nd, rfl⟩⟩; refine ⟨_, rfl, ?_⟩))
        go_ret2
        exact ⟨by first | rfl | (simp; done) | (simp only [← hji8, ← hji10, ← hji11, ← hji13, ← hji16] <;> (first | rfl | simp)) | (simp [*]; done), by repeat (first | exact Drawn0.refl _ | apply Drawn0.step)⟩
       ·rw [if_neg c17] at H
        have c17b0 : ((ji16) == ((wrap64 (t165)) / 9223372036854775808)) = false := beq_eq_false_iff_ne.mpr c17
        have c17b1 : ((ji16) != ((wrap64 (t165)) / 9223372036854775808)) = true := bne_iff_ne.mpr c17
        simp only [Option.some.injEq, Prod.mk.injEq] at H
        obtain ⟨rfl, rfl⟩ := H
        go_wp2_with (first | ((with_reducible refine gate_callee (f := 59) rfl ?_); refine goesL_ (some 20) rfl rfl Try.func59 (by kernel_rfl) rfl #[.int .i64 a0, .int .i64 a1] rfl (by (try simp only [List.map_toArray, List.map_cons, List.map_nil]); first | done | rfl | (simp only [List.length_drop, List.length_take]; rfl)) ?_; (with_reducible refine (wide_Mul.calls a0 a1 t164 t165 _ A7.out).mono ?_); rintro e w' ⟨rfl, ⟨nd, rfl⟩⟩; refine ⟨_, rfl, ?_⟩))
        go_ret2
        exact ⟨by first | rfl | (simp; done) | (simp only [← hji8, ← hji10, ← hji11, ← hji13, ← hji16] <;> (first | rfl | simp)) | (simp [*]; done), by repeat (first | exact Drawn0.refl _ | apply Drawn0.step)⟩
      ·rw [if_neg c14] at H
       have c14b0 : (a2 == 0) = false := beq_eq_false_iff_ne.mpr c14
       have c14b1 : (a2 != 0) = true := bne_iff_ne.mpr c14
       have c18b0 := eq_true (of_decide_eq_true (by first | (with_reducible assumption) | assumption) : 0 ≤ (ji8))
       obtain ⟨ji19, hji19⟩ : ∃ j_ : Int, (shr .i64 t164 (ji8)) = j_ := ⟨_, rfl⟩
       replace H : (if (ji19) = ((wrap64 (Go.bits .or .u64 (ji10) (ji13))) / 9223372036854775808) then (some (wrap64 (Go.bits .or .u64 (ji10) (ji13)), 0)) else (some (0, 3))) = some (r1, r2) := by first | (rw [hji19] at H; exact H) | (simp only [hji19] at H ⊢; exact H)
       (try rw [hji19] at A7)
       have hji19_ : (t164 / 2 ^ min (ji8).toNat 64) = ji19 := hji19
       have hji19z : (ji8) ≤ 64 → (t164 / 2 ^ (ji8).toNat) = ji19 := shr_small hji19
       by_cases c20 : (ji19) = ((wrap64 (Go.bits .or .u64 (ji10) (ji13))) / 9223372036854775808)
       ·rw [if_pos c20] at H
        have c20b0 : ((ji19) == ((wrap64 (Go.bits .or .u64 (ji10) (ji13))) / 9223372036854775808)) = true := beq_iff_eq.mpr c20
        have c20b1 : ((ji19) != ((wrap64 (Go.bits .or .u64 (ji10) (ji13))) / 9223372036854775808)) = false := bne_eq_false_iff_eq.mpr c20
        clear c20
        simp only [Option.some.injEq, Prod.mk.injEq] at H
        obtain ⟨rfl, rfl⟩ := H
        go_wp2_with (first | ((with_reducible refine gate_callee (f := 59) rfl ?_); refine goesL_ (some 20) rfl rfl Try.func59 (by kernel_rfl) rfl #[.int .i64 a0, .int .i64 a1] rfl (by (try simp only [List.map_toArray, List.map_cons, List.map_nil]); first | done | rfl | (simp only [List.length_drop, List.length_take]; rfl)) ?_; (with_reducible refine (wide_Mul.calls a0 a1 t164 t165 _ A7.out).mono ?_); rintro e w' ⟨rfl, ⟨nd, rfl⟩⟩; refine ⟨_, rfl, ?_⟩))
        go_ret2
        exact ⟨by first | rfl | (simp; done) | (simp only [← hji8, ← hji10, ← hji11, ← hji13, ← hji19] <;> (first | rfl | simp)) | (simp [*]; done), by repeat (first | exact Drawn0.refl _ | apply Drawn0.step)⟩
       ·rw [if_neg c20] at H
        have c20b0 : ((ji19) == ((wrap64 (Go.bits .or .u64 (ji10) (ji13))) / 9223372036854775808)) = false := beq_eq_false_iff_ne.mpr c20
        have c20b1 : ((ji19) != ((wrap64 (Go.bits .or .u64 (ji10) (ji13))) / 9223372036854775808)) = true := bne_iff_ne.mpr c20
        simp only [Option.some.injEq, Prod.mk.injEq] at H
        obtain ⟨rfl, rfl⟩ := H
        go_wp2_with (first | ((with_reducible refine gate_callee (f := 59) rfl ?_); refine goesL_ (some 20) rfl rfl Try.func59 (by kernel_rfl) rfl #[.int .i64 a0, .int .i64 a1] rfl (by (try simp only [List.map_toArray, List.map_cons, List.map_nil]); first | done | rfl | (simp only [List.length_drop, List.length_take]; rfl)) ?_; (with_reducible refine (wide_Mul.calls a0 a1 t164 t165 _ A7.out).mono ?_); rintro e w' ⟨rfl, ⟨nd, rfl⟩⟩; refine ⟨_, rfl, ?_⟩))
        go_ret2
        exact ⟨by first | rfl | (simp; done) | (simp only [← hji8, ← hji10, ← hji11, ← hji13, ← hji19] <;> (first | rfl | simp)) | (simp [*]; done), by repeat (first | exact Drawn0.refl _ | apply Drawn0.step)⟩
     ·rw [if_neg c12] at H
      exact absurd H (by simp)
    ·rw [if_neg c9] at H
     exact absurd H (by simp)

end Go.Proofs.Ytcbdcgghccjdpaa.Q
