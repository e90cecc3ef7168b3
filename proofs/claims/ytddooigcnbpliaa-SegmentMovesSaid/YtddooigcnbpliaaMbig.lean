/- The walks of the reference's wide numbers: digits, product. -/
import Derived.Test.YtddooigcnbpliaaMspec
import Derived.LoopN
import Derived.Deep.Draws
import Derived.Outline
import Derived.Deep.QuietTactic
import Derived.BigQuiet
namespace Go.Proofs.Ytddooigcnbpliaa.Q
open Go.RowKit Go.Proofs.YtddooigcnbpliaaW.PrintWords Go.Proofs.YtddooigcnbpliaaW.PrintLast Go.Proofs.YtddooigcnbpliaaW.PrintMore
set_option linter.unusedVariables false
set_option linter.unusedSimpArgs false

/-- Four digits of base 2^16, and their number. -/
structure Dig4 (x0 x1 x2 x3 m : Int) : Prop where
  b0 : 0 ≤ x0 ∧ x0 ≤ 65535
  b1 : 0 ≤ x1 ∧ x1 ≤ 65535
  b2 : 0 ≤ x2 ∧ x2 ≤ 65535
  b3 : 0 ≤ x3 ∧ x3 ≤ 65535
  sum : x0 + x1 * 65536 + x2 * 4294967296 + x3 * 281474976710656 = m
/-- A big number's value: its eight digits. -/
def bigV (z0 z1 z2 z3 z4 z5 z6 z7 : Int) : Value := .agg #[.int .u64 z0, .int .u64 z1, .int .u64 z2, .int .u64 z3, .int .u64 z4, .int .u64 z5, .int .u64 z6, .int .u64 z7]
def bigO (z0 z1 z2 z3 z4 z5 z6 z7 : Int) : Obj := .cells #[.int .u64 z0, .int .u64 z1, .int .u64 z2, .int .u64 z3, .int .u64 z4, .int .u64 z5, .int .u64 z6, .int .u64 z7] 63
def DigEnd (m : Int) (w : World) (e : Ending) (w' : World) : Prop := ∃ x0 x1 x2 x3, Dig4 x0 x1 x2 x3 m ∧ e = .returned (bigV x0 x1 x2 x3 0 0 0 0) ∧ (w.alloc (bigO x0 x1 x2 x3 0 0 0 0)).alloc (bigO x0 x1 x2 x3 0 0 0 0) = w'
theorem dig4_of (m : Int) (h0 : 0 ≤ m) (h1 : m ≤ 18446744073709551615) : Dig4 (m % 65536) (m / 65536 % 65536) (m / 65536 / 65536 % 65536) (m / 65536 / 65536 / 65536 % 65536) m :=
  ⟨by omega, by omega, by omega, by omega, by omega⟩
set_option maxHeartbeats 1000000 in
theorem ref01_digits.plus (m : Int) (hm : 0 ≤ m ∧ m ≤ 9223372036854775807) (w : World) : Calls Try.prog 41 #[.int .i64 m] w (DigEnd m w) := by
  have c1 : decide (m < 0) = false := decide_eq_false (by omega)
  go_enter Try.func41, Try.ntmps41
  go_wp2
  refine wp_loop_rounds 5 ?_
  rw [rounds_succ]; go_wp2
  rw [rounds_succ]; go_wp2
  rw [rounds_succ]; go_wp2
  rw [rounds_succ]; go_wp2
  rw [rounds_succ]; go_wp2
  exact bodyPost_ret (v := bigV (m % 65536) (m / 65536 % 65536) (m / 65536 / 65536 % 65536) (m / 65536 / 65536 / 65536 % 65536) 0 0 0 0) (by simp [results, Try.results41, go_sem, bigV]) rfl ⟨_, _, _, _, dig4_of m (by omega) (by omega), rfl, rfl⟩
set_option maxHeartbeats 1000000 in
theorem ref01_digits.minus (a m : Int) (hm : 0 < m ∧ m ≤ 9223372036854775808) (ha : a = -m) (w : World) : Calls Try.prog 41 #[.int .i64 a] w (DigEnd m w) := by
  have c1 : decide (a < 0) = true := decide_eq_true (by omega)
  have e : IntKind.u64.wrap (-IntKind.u64.wrap a) = m := by simp only [IntKind.wrap_u64]; omega
  clear ha
  go_enter Try.func41, Try.ntmps41
  go_wp2
  refine wp_loop_rounds 5 ?_
  rw [rounds_succ]; go_wp2
  rw [rounds_succ]; go_wp2
  rw [rounds_succ]; go_wp2
  rw [rounds_succ]; go_wp2
  rw [rounds_succ]; go_wp2
  exact bodyPost_ret (v := bigV (m % 65536) (m / 65536 % 65536) (m / 65536 / 65536 % 65536) (m / 65536 / 65536 / 65536 % 65536) 0 0 0 0) (by simp [results, Try.results41, go_sem, bigV]) rfl ⟨_, _, _, _, dig4_of m (by omega) (by omega), rfl, rfl⟩
theorem ref01_digits.same (a : Int) (ha : -9223372036854775808 ≤ a ∧ a ≤ 9223372036854775807) (w : World) : Calls Try.prog 41 #[.int .i64 a] w (DigEnd (mg a) w) := by
  by_cases c : a < 0
  · have e : mg a = -a := by simp [mg, c]
    rw [e]
    exact ref01_digits.minus a (-a) (by omega) (by omega) w
  · have e : mg a = a := by simp [mg, c]
    rw [e]
    exact ref01_digits.plus a (by omega) w

/-- A row of the product, its first k terms. -/
def rowS (x y0 y1 y2 y3 : Int) : Nat → Int
  | 0 => 0
  | 1 => x * y0
  | 2 => x * y0 + x * y1 * 65536
  | 3 => x * y0 + x * y1 * 65536 + x * y2 * 4294967296
  | _ => x * y0 + x * y1 * 65536 + x * y2 * 4294967296 + x * y3 * 281474976710656
/-- The first i rows. -/
def accS (x0 x1 x2 x3 y0 y1 y2 y3 : Int) : Nat → Int
  | 0 => 0
  | 1 => rowS x0 y0 y1 y2 y3 4
  | 2 => rowS x0 y0 y1 y2 y3 4 + rowS x1 y0 y1 y2 y3 4 * 65536
  | 3 => rowS x0 y0 y1 y2 y3 4 + rowS x1 y0 y1 y2 y3 4 * 65536 + rowS x2 y0 y1 y2 y3 4 * 4294967296
  | _ => rowS x0 y0 y1 y2 y3 4 + rowS x1 y0 y1 y2 y3 4 * 65536 + rowS x2 y0 y1 y2 y3 4 * 4294967296 + rowS x3 y0 y1 y2 y3 4 * 281474976710656
def valS (z0 z1 z2 z3 z4 z5 z6 z7 : Int) : Int := z0 + z1 * 65536 + z2 * 4294967296 + z3 * 281474976710656 + z4 * 18446744073709551616 + z5 * 1208925819614629174706176 + z6 * 79228162514264337593543950336 + z7 * 5192296858534827628530496329220096
structure Dig8 (z0 z1 z2 z3 z4 z5 z6 z7 : Int) : Prop where
  b0 : 0 ≤ z0 ∧ z0 ≤ 65535
  b1 : 0 ≤ z1 ∧ z1 ≤ 65535
  b2 : 0 ≤ z2 ∧ z2 ≤ 65535
  b3 : 0 ≤ z3 ∧ z3 ≤ 65535
  b4 : 0 ≤ z4 ∧ z4 ≤ 65535
  b5 : 0 ≤ z5 ∧ z5 ≤ 65535
  b6 : 0 ≤ z6 ∧ z6 ≤ 65535
  b7 : 0 ≤ z7 ∧ z7 ≤ 65535
theorem set_drewN (w : World) (n : Nat) (a : Addr) (v : Value) : (w.drewN n).setCell a v = (w.setCell a v).drewN n := rfl
theorem set_draw (B : World) (cs : Array Value) (t : TypeId) (n blk j : Nat) (v : Value) (hb : blk = B.heap.size) : ((B.alloc (.cells cs t)).drewN n).setCell ⟨blk, j, none⟩ v = (B.alloc (.cells (cs.setIfInBounds j v) t)).drewN n := by
  subst hb
  exact congrArg (fun w => World.drewN w n) (World.setCell_alloc_at (w := B) cs t B.heap.size j v rfl)
theorem mul_dig {x y : Int} (hx : 0 ≤ x ∧ x ≤ 65535) (hy : 0 ≤ y ∧ y ≤ 65535) : 0 ≤ x * y ∧ x * y ≤ 4294836225 :=
  ⟨Int.mul_nonneg hx.1 hy.1, by have := Int.mul_le_mul hx.2 hy.2 hy.1 (by omega : (0 : Int) ≤ 65535); omega⟩
/-- The powers of 2^16. -/
def pw : Nat → Int
  | 0 => 1
  | 1 => 65536
  | 2 => 4294967296
  | 3 => 281474976710656
  | 4 => 18446744073709551616
  | 5 => 1208925819614629174706176
  | 6 => 79228162514264337593543950336
  | _ => 5192296858534827628530496329220096
def kI : Nat → Int
  | 0 => 0
  | 1 => 1
  | 2 => 2
  | 3 => 3
  | _ => 4
/-- The world ahead of the product's loops. -/
def prodBase (w : World) (x0 x1 x2 x3 y0 y1 y2 y3 : Int) : World :=
  ((((((w.alloc (bigO 0 0 0 0 0 0 0 0)).alloc (bigO x0 x1 x2 x3 0 0 0 0)).alloc (bigO x0 x1 x2 x3 0 0 0 0)).alloc (bigO x0 x1 x2 x3 0 0 0 0)).alloc (bigO y0 y1 y2 y3 0 0 0 0)).alloc (bigO y0 y1 y2 y3 0 0 0 0)).alloc (bigO y0 y1 y2 y3 0 0 0 0)
theorem prodBase_size (w : World) (x0 x1 x2 x3 y0 y1 y2 y3 : Int) : (prodBase w x0 x1 x2 x3 y0 y1 y2 y3).heap.size = w.heap.size + 1 + 1 + 1 + 1 + 1 + 1 + 1 := by simp [prodBase]
theorem prodBase_x (w : World) (x0 x1 x2 x3 y0 y1 y2 y3 : Int) (j : Nat) : (prodBase w x0 x1 x2 x3 y0 y1 y2 y3).cell? ⟨w.heap.size + 1 + 1 + 1, j, none⟩ = (#[Value.int .u64 x0, .int .u64 x1, .int .u64 x2, .int .u64 x3, .int .u64 0, .int .u64 0, .int .u64 0, .int .u64 0] : Array Value)[j]? := by
  simp only [prodBase, bigO]
  go_simp
theorem prodBase_y (w : World) (x0 x1 x2 x3 y0 y1 y2 y3 : Int) (j : Nat) : (prodBase w x0 x1 x2 x3 y0 y1 y2 y3).cell? ⟨w.heap.size + 1 + 1 + 1 + 1 + 1 + 1, j, none⟩ = (#[Value.int .u64 y0, .int .u64 y1, .int .u64 y2, .int .u64 y3, .int .u64 0, .int .u64 0, .int .u64 0, .int .u64 0] : Array Value)[j]? := by
  simp only [prodBase, bigO]
  go_simp
theorem prodBase_below (w : World) (x0 x1 x2 x3 y0 y1 y2 y3 : Int) : Below w.heap.size w (prodBase w x0 x1 x2 x3 y0 y1 y2 y3) :=
  below_alloc (below_alloc (below_alloc (below_alloc (below_alloc (below_alloc (below_alloc (Below.refl _ _) _) _) _) _) _) _) _
theorem prodBase_eq (w : World) (x0 x1 x2 x3 y0 y1 y2 y3 : Int) :
  ((((((w.alloc (.cells #[.int .u64 0, .int .u64 0, .int .u64 0, .int .u64 0, .int .u64 0, .int .u64 0, .int .u64 0, .int .u64 0] 63)).alloc (.cells #[.int .u64 x0, .int .u64 x1, .int .u64 x2, .int .u64 x3, .int .u64 0, .int .u64 0, .int .u64 0, .int .u64 0] 63)).alloc (.cells #[.int .u64 x0, .int .u64 x1, .int .u64 x2, .int .u64 x3, .int .u64 0, .int .u64 0, .int .u64 0, .int .u64 0] 63)).alloc (.cells #[.int .u64 x0, .int .u64 x1, .int .u64 x2, .int .u64 x3, .int .u64 0, .int .u64 0, .int .u64 0, .int .u64 0] 63)).alloc (.cells #[.int .u64 y0, .int .u64 y1, .int .u64 y2, .int .u64 y3, .int .u64 0, .int .u64 0, .int .u64 0, .int .u64 0] 63)).alloc (.cells #[.int .u64 y0, .int .u64 y1, .int .u64 y2, .int .u64 y3, .int .u64 0, .int .u64 0, .int .u64 0, .int .u64 0] 63)).alloc (.cells #[.int .u64 y0, .int .u64 y1, .int .u64 y2, .int .u64 y3, .int .u64 0, .int .u64 0, .int .u64 0, .int .u64 0] 63) = prodBase w x0 x1 x2 x3 y0 y1 y2 y3 := rfl
theorem prod_val {x0 x1 x2 x3 y0 y1 y2 y3 X Y V : Int} (hx : x0 + x1 * 65536 + x2 * 4294967296 + x3 * 281474976710656 = X) (hy : y0 + y1 * 65536 + y2 * 4294967296 + y3 * 281474976710656 = Y) (h : V = accS x0 x1 x2 x3 y0 y1 y2 y3 4) : V = X * Y := by
  subst hx hy h
  simp only [accS, rowS]
  grind
def ProdEnd (P : Int) (w : World) (e : Ending) (w' : World) : Prop := ∃ z0 z1 z2 z3 z4 z5 z6 z7, Dig8 z0 z1 z2 z3 z4 z5 z6 z7 ∧ valS z0 z1 z2 z3 z4 z5 z6 z7 = P ∧ e = .returned (bigV z0 z1 z2 z3 z4 z5 z6 z7) ∧ Below w.heap.size w w'
set_option maxHeartbeats 8000000 in
set_option maxRecDepth 100000 in
theorem ref01_product.same (a b : Int) (ha : -9223372036854775808 ≤ a ∧ a ≤ 9223372036854775807) (hb : -9223372036854775808 ≤ b ∧ b ≤ 9223372036854775807) (w : World) :
    Calls Try.prog 34 #[.int .i64 a, .int .i64 b] w (ProdEnd (mg a * mg b) w) := by
  have HA := Lib.hid (fun w => ref01_digits.same a ha w)
  have HB := Lib.hid (fun w => ref01_digits.same b hb w)
  go_enter Try.func34, Try.ntmps34
  go_wp2_with fail
  refine (HA.out _).mono ?_
  rintro e w' ⟨x0, x1, x2, x3, hx, rfl, rfl⟩
  simp only [bigV, bigO]
  go_wp2_with fail
  refine (HB.out _).mono ?_
  rintro e w' ⟨y0, y1, y2, y3, hy, rfl, rfl⟩
  simp only [bigV, bigO]
  go_wp2
  rw [prodBase_eq]
  have hs := prodBase_size w x0 x1 x2 x3 y0 y1 y2 y3
  have cx0 := prodBase_x w x0 x1 x2 x3 y0 y1 y2 y3 0
  have cx1 := prodBase_x w x0 x1 x2 x3 y0 y1 y2 y3 1
  have cx2 := prodBase_x w x0 x1 x2 x3 y0 y1 y2 y3 2
  have cx3 := prodBase_x w x0 x1 x2 x3 y0 y1 y2 y3 3
  have cy0 := prodBase_y w x0 x1 x2 x3 y0 y1 y2 y3 0
  have cy1 := prodBase_y w x0 x1 x2 x3 y0 y1 y2 y3 1
  have cy2 := prodBase_y w x0 x1 x2 x3 y0 y1 y2 y3 2
  have cy3 := prodBase_y w x0 x1 x2 x3 y0 y1 y2 y3 3
  have hbl := prodBase_below w x0 x1 x2 x3 y0 y1 y2 y3
  obtain ⟨B, hBq⟩ : ∃ B, prodBase w x0 x1 x2 x3 y0 y1 y2 y3 = B := ⟨_, rfl⟩
  rw [hBq]
  rw [hBq] at hs cx0 cx1 cx2 cx3 cy0 cy1 cy2 cy3 hbl
  have HBq := Lib.hid hBq
  clear hBq hbl
  refine wp_loop_rounds 5 ?_
  rw [rounds_succ]; go_wp2
  go_loopw [9, 10] (fun c k wr => ∃ (kN : Nat) (z0_0 z0_1 z0_2 z0_3 z0_4 z0_5 z0_6 z0_7 c0 : Int) (n : Nat), kN ≤ 4 ∧ k = .int .i64 (kI kN) ∧ c = .int .u64 c0 ∧ (0 ≤ c0 ∧ c0 ≤ 65535) ∧ Dig8 z0_0 z0_1 z0_2 z0_3 z0_4 z0_5 z0_6 z0_7 ∧ (z0_4 = 0 ∧ z0_5 = 0 ∧ z0_6 = 0 ∧ z0_7 = 0) ∧ Aside0 (valS z0_0 z0_1 z0_2 z0_3 z0_4 z0_5 z0_6 z0_7 + c0 * pw (0 + kN) = accS x0 x1 x2 x3 y0 y1 y2 y3 0 + pw 0 * rowS x0 y0 y1 y2 y3 kN) ∧ wr = (B.alloc (.cells #[.int .u64 z0_0, .int .u64 z0_1, .int .u64 z0_2, .int .u64 z0_3, .int .u64 z0_4, .int .u64 z0_5, .int .u64 z0_6, .int .u64 z0_7] 63)).drewN n) (fun _ k _ => 4 - (intOf k).toNat)
  case atStart => exact ⟨0, 0, 0, 0, 0, 0, 0, 0, 0, 0, 0, by omega, rfl, rfl, by omega, ⟨by omega, by omega, by omega, by omega, by omega, by omega, by omega, by omega⟩, ⟨rfl, rfl, rfl, rfl⟩, ⟨by simp [valS, pw, accS, rowS]⟩, rfl⟩
  case round =>
    obtain ⟨kN, z0_0, z0_1, z0_2, z0_3, z0_4, z0_5, z0_6, z0_7, c0, n0, hk, rfl, rfl, hc0, hz0, ⟨rfl, rfl, rfl, rfl⟩, hE0, rfl⟩ := hrel
    rcases (by omega : kN = 0 ∨ kN = 1 ∨ kN = 2 ∨ kN = 3 ∨ kN = 4) with rfl | rfl | rfl | rfl | rfl
    · have hp := mul_dig hx.b0 hy.b0
      have hzk := hz0.b0
      have w1 : IntKind.u64.wrap (x0 * y0) = x0 * y0 := u64_id (by omega) (by omega)
      have w2 : IntKind.u64.wrap (z0_0 + x0 * y0) = z0_0 + x0 * y0 := u64_id (by omega) (by omega)
      have w3 : IntKind.u64.wrap (z0_0 + x0 * y0 + c0) = z0_0 + x0 * y0 + c0 := u64_id (by omega) (by omega)
      simp only [kI]
      go_wp2
      go_quiet (fail)
      go_wp2
      exact ⟨⟨1, (z0_0 + x0 * y0 + c0) % 65536, z0_1, z0_2, z0_3, 0, 0, 0, 0, (z0_0 + x0 * y0 + c0) / 65536, _, by omega, rfl, rfl, by omega, ⟨by omega, hz0.b1, hz0.b2, hz0.b3, by omega, by omega, by omega, by omega⟩, ⟨rfl, rfl, rfl, rfl⟩, ⟨by have := hE0.out; simp only [valS, pw, accS, rowS, Nat.reduceAdd] at this ⊢; omega⟩, set_draw _ _ _ _ _ _ _ hs.symm⟩, by simp [intOf]⟩
    · have hp := mul_dig hx.b0 hy.b1
      have hzk := hz0.b1
      have w1 : IntKind.u64.wrap (x0 * y1) = x0 * y1 := u64_id (by omega) (by omega)
      have w2 : IntKind.u64.wrap (z0_1 + x0 * y1) = z0_1 + x0 * y1 := u64_id (by omega) (by omega)
      have w3 : IntKind.u64.wrap (z0_1 + x0 * y1 + c0) = z0_1 + x0 * y1 + c0 := u64_id (by omega) (by omega)
      simp only [kI]
      go_wp2
      go_quiet (fail)
      go_wp2
      exact ⟨⟨2, z0_0, (z0_1 + x0 * y1 + c0) % 65536, z0_2, z0_3, 0, 0, 0, 0, (z0_1 + x0 * y1 + c0) / 65536, _, by omega, rfl, rfl, by omega, ⟨hz0.b0, by omega, hz0.b2, hz0.b3, by omega, by omega, by omega, by omega⟩, ⟨rfl, rfl, rfl, rfl⟩, ⟨by have := hE0.out; simp only [valS, pw, accS, rowS, Nat.reduceAdd] at this ⊢; omega⟩, set_draw _ _ _ _ _ _ _ hs.symm⟩, by simp [intOf]⟩
    · have hp := mul_dig hx.b0 hy.b2
      have hzk := hz0.b2
      have w1 : IntKind.u64.wrap (x0 * y2) = x0 * y2 := u64_id (by omega) (by omega)
      have w2 : IntKind.u64.wrap (z0_2 + x0 * y2) = z0_2 + x0 * y2 := u64_id (by omega) (by omega)
      have w3 : IntKind.u64.wrap (z0_2 + x0 * y2 + c0) = z0_2 + x0 * y2 + c0 := u64_id (by omega) (by omega)
      simp only [kI]
      go_wp2
      go_quiet (fail)
      go_wp2
      exact ⟨⟨3, z0_0, z0_1, (z0_2 + x0 * y2 + c0) % 65536, z0_3, 0, 0, 0, 0, (z0_2 + x0 * y2 + c0) / 65536, _, by omega, rfl, rfl, by omega, ⟨hz0.b0, hz0.b1, by omega, hz0.b3, by omega, by omega, by omega, by omega⟩, ⟨rfl, rfl, rfl, rfl⟩, ⟨by have := hE0.out; simp only [valS, pw, accS, rowS, Nat.reduceAdd] at this ⊢; omega⟩, set_draw _ _ _ _ _ _ _ hs.symm⟩, by simp [intOf]⟩
    · have hp := mul_dig hx.b0 hy.b3
      have hzk := hz0.b3
      have w1 : IntKind.u64.wrap (x0 * y3) = x0 * y3 := u64_id (by omega) (by omega)
      have w2 : IntKind.u64.wrap (z0_3 + x0 * y3) = z0_3 + x0 * y3 := u64_id (by omega) (by omega)
      have w3 : IntKind.u64.wrap (z0_3 + x0 * y3 + c0) = z0_3 + x0 * y3 + c0 := u64_id (by omega) (by omega)
      simp only [kI]
      go_wp2
      go_quiet (fail)
      go_wp2
      exact ⟨⟨4, z0_0, z0_1, z0_2, (z0_3 + x0 * y3 + c0) % 65536, 0, 0, 0, 0, (z0_3 + x0 * y3 + c0) / 65536, _, by omega, rfl, rfl, by omega, ⟨hz0.b0, hz0.b1, hz0.b2, by omega, by omega, by omega, by omega, by omega⟩, ⟨rfl, rfl, rfl, rfl⟩, ⟨by have := hE0.out; simp only [valS, pw, accS, rowS, Nat.reduceAdd] at this ⊢; omega⟩, set_draw _ _ _ _ _ _ _ hs.symm⟩, by simp [intOf]⟩
    · simp only [kI]
      go_wp2
      rw [rounds_succ]; go_wp2
      go_loopw [9, 10] (fun c k wr => ∃ (kN : Nat) (z1_0 z1_1 z1_2 z1_3 z1_4 z1_5 z1_6 z1_7 c1 : Int) (n : Nat), kN ≤ 4 ∧ k = .int .i64 (kI kN) ∧ c = .int .u64 c1 ∧ (0 ≤ c1 ∧ c1 ≤ 65535) ∧ Dig8 z1_0 z1_1 z1_2 z1_3 z1_4 z1_5 z1_6 z1_7 ∧ (z1_5 = 0 ∧ z1_6 = 0 ∧ z1_7 = 0) ∧ Aside0 (valS z1_0 z1_1 z1_2 z1_3 z1_4 z1_5 z1_6 z1_7 + c1 * pw (1 + kN) = accS x0 x1 x2 x3 y0 y1 y2 y3 1 + pw 1 * rowS x1 y0 y1 y2 y3 kN) ∧ wr = (B.alloc (.cells #[.int .u64 z1_0, .int .u64 z1_1, .int .u64 z1_2, .int .u64 z1_3, .int .u64 z1_4, .int .u64 z1_5, .int .u64 z1_6, .int .u64 z1_7] 63)).drewN n) (fun _ k _ => 4 - (intOf k).toNat)
      case atStart => exact ⟨0, z0_0, z0_1, z0_2, z0_3, c0, 0, 0, 0, 0, n0, by omega, rfl, rfl, by omega, ⟨hz0.b0, hz0.b1, hz0.b2, hz0.b3, hc0, by omega, by omega, by omega⟩, ⟨rfl, rfl, rfl⟩, ⟨by have := hE0.out; simp only [valS, pw, accS, rowS, Nat.reduceAdd] at this ⊢; omega⟩, set_draw _ _ _ _ _ _ _ hs.symm⟩
      case round =>
        obtain ⟨kN, z1_0, z1_1, z1_2, z1_3, z1_4, z1_5, z1_6, z1_7, c1, n1, hk, rfl, rfl, hc1, hz1, ⟨rfl, rfl, rfl⟩, hE1, rfl⟩ := hrel
        rcases (by omega : kN = 0 ∨ kN = 1 ∨ kN = 2 ∨ kN = 3 ∨ kN = 4) with rfl | rfl | rfl | rfl | rfl
        · have hp := mul_dig hx.b1 hy.b0
          have hzk := hz1.b1
          have w1 : IntKind.u64.wrap (x1 * y0) = x1 * y0 := u64_id (by omega) (by omega)
          have w2 : IntKind.u64.wrap (z1_1 + x1 * y0) = z1_1 + x1 * y0 := u64_id (by omega) (by omega)
          have w3 : IntKind.u64.wrap (z1_1 + x1 * y0 + c1) = z1_1 + x1 * y0 + c1 := u64_id (by omega) (by omega)
          simp only [kI]
          go_wp2
          go_quiet (fail)
          go_wp2
          exact ⟨⟨1, z1_0, (z1_1 + x1 * y0 + c1) % 65536, z1_2, z1_3, z1_4, 0, 0, 0, (z1_1 + x1 * y0 + c1) / 65536, _, by omega, rfl, rfl, by omega, ⟨hz1.b0, by omega, hz1.b2, hz1.b3, hz1.b4, by omega, by omega, by omega⟩, ⟨rfl, rfl, rfl⟩, ⟨by have := hE1.out; simp only [valS, pw, accS, rowS, Nat.reduceAdd] at this ⊢; omega⟩, set_draw _ _ _ _ _ _ _ hs.symm⟩, by simp [intOf]⟩
        · have hp := mul_dig hx.b1 hy.b1
          have hzk := hz1.b2
          have w1 : IntKind.u64.wrap (x1 * y1) = x1 * y1 := u64_id (by omega) (by omega)
          have w2 : IntKind.u64.wrap (z1_2 + x1 * y1) = z1_2 + x1 * y1 := u64_id (by omega) (by omega)
          have w3 : IntKind.u64.wrap (z1_2 + x1 * y1 + c1) = z1_2 + x1 * y1 + c1 := u64_id (by omega) (by omega)
          simp only [kI]
          go_wp2
          go_quiet (fail)
          go_wp2
          exact ⟨⟨2, z1_0, z1_1, (z1_2 + x1 * y1 + c1) % 65536, z1_3, z1_4, 0, 0, 0, (z1_2 + x1 * y1 + c1) / 65536, _, by omega, rfl, rfl, by omega, ⟨hz1.b0, hz1.b1, by omega, hz1.b3, hz1.b4, by omega, by omega, by omega⟩, ⟨rfl, rfl, rfl⟩, ⟨by have := hE1.out; simp only [valS, pw, accS, rowS, Nat.reduceAdd] at this ⊢; omega⟩, set_draw _ _ _ _ _ _ _ hs.symm⟩, by simp [intOf]⟩
        · have hp := mul_dig hx.b1 hy.b2
          have hzk := hz1.b3
          have w1 : IntKind.u64.wrap (x1 * y2) = x1 * y2 := u64_id (by omega) (by omega)
          have w2 : IntKind.u64.wrap (z1_3 + x1 * y2) = z1_3 + x1 * y2 := u64_id (by omega) (by omega)
          have w3 : IntKind.u64.wrap (z1_3 + x1 * y2 + c1) = z1_3 + x1 * y2 + c1 := u64_id (by omega) (by omega)
          simp only [kI]
          go_wp2
          go_quiet (fail)
          go_wp2
          exact ⟨⟨3, z1_0, z1_1, z1_2, (z1_3 + x1 * y2 + c1) % 65536, z1_4, 0, 0, 0, (z1_3 + x1 * y2 + c1) / 65536, _, by omega, rfl, rfl, by omega, ⟨hz1.b0, hz1.b1, hz1.b2, by omega, hz1.b4, by omega, by omega, by omega⟩, ⟨rfl, rfl, rfl⟩, ⟨by have := hE1.out; simp only [valS, pw, accS, rowS, Nat.reduceAdd] at this ⊢; omega⟩, set_draw _ _ _ _ _ _ _ hs.symm⟩, by simp [intOf]⟩
        · have hp := mul_dig hx.b1 hy.b3
          have hzk := hz1.b4
          have w1 : IntKind.u64.wrap (x1 * y3) = x1 * y3 := u64_id (by omega) (by omega)
          have w2 : IntKind.u64.wrap (z1_4 + x1 * y3) = z1_4 + x1 * y3 := u64_id (by omega) (by omega)
          have w3 : IntKind.u64.wrap (z1_4 + x1 * y3 + c1) = z1_4 + x1 * y3 + c1 := u64_id (by omega) (by omega)
          simp only [kI]
          go_wp2
          go_quiet (fail)
          go_wp2
          exact ⟨⟨4, z1_0, z1_1, z1_2, z1_3, (z1_4 + x1 * y3 + c1) % 65536, 0, 0, 0, (z1_4 + x1 * y3 + c1) / 65536, _, by omega, rfl, rfl, by omega, ⟨hz1.b0, hz1.b1, hz1.b2, hz1.b3, by omega, by omega, by omega, by omega⟩, ⟨rfl, rfl, rfl⟩, ⟨by have := hE1.out; simp only [valS, pw, accS, rowS, Nat.reduceAdd] at this ⊢; omega⟩, set_draw _ _ _ _ _ _ _ hs.symm⟩, by simp [intOf]⟩
        · simp only [kI]
          go_wp2
          rw [rounds_succ]; go_wp2
          go_loopw [9, 10] (fun c k wr => ∃ (kN : Nat) (z2_0 z2_1 z2_2 z2_3 z2_4 z2_5 z2_6 z2_7 c2 : Int) (n : Nat), kN ≤ 4 ∧ k = .int .i64 (kI kN) ∧ c = .int .u64 c2 ∧ (0 ≤ c2 ∧ c2 ≤ 65535) ∧ Dig8 z2_0 z2_1 z2_2 z2_3 z2_4 z2_5 z2_6 z2_7 ∧ (z2_6 = 0 ∧ z2_7 = 0) ∧ Aside0 (valS z2_0 z2_1 z2_2 z2_3 z2_4 z2_5 z2_6 z2_7 + c2 * pw (2 + kN) = accS x0 x1 x2 x3 y0 y1 y2 y3 2 + pw 2 * rowS x2 y0 y1 y2 y3 kN) ∧ wr = (B.alloc (.cells #[.int .u64 z2_0, .int .u64 z2_1, .int .u64 z2_2, .int .u64 z2_3, .int .u64 z2_4, .int .u64 z2_5, .int .u64 z2_6, .int .u64 z2_7] 63)).drewN n) (fun _ k _ => 4 - (intOf k).toNat)
          case atStart => exact ⟨0, z1_0, z1_1, z1_2, z1_3, z1_4, c1, 0, 0, 0, n1, by omega, rfl, rfl, by omega, ⟨hz1.b0, hz1.b1, hz1.b2, hz1.b3, hz1.b4, hc1, by omega, by omega⟩, ⟨rfl, rfl⟩, ⟨by have := hE1.out; simp only [valS, pw, accS, rowS, Nat.reduceAdd] at this ⊢; omega⟩, set_draw _ _ _ _ _ _ _ hs.symm⟩
          case round =>
            obtain ⟨kN, z2_0, z2_1, z2_2, z2_3, z2_4, z2_5, z2_6, z2_7, c2, n2, hk, rfl, rfl, hc2, hz2, ⟨rfl, rfl⟩, hE2, rfl⟩ := hrel
            rcases (by omega : kN = 0 ∨ kN = 1 ∨ kN = 2 ∨ kN = 3 ∨ kN = 4) with rfl | rfl | rfl | rfl | rfl
            · have hp := mul_dig hx.b2 hy.b0
              have hzk := hz2.b2
              have w1 : IntKind.u64.wrap (x2 * y0) = x2 * y0 := u64_id (by omega) (by omega)
              have w2 : IntKind.u64.wrap (z2_2 + x2 * y0) = z2_2 + x2 * y0 := u64_id (by omega) (by omega)
              have w3 : IntKind.u64.wrap (z2_2 + x2 * y0 + c2) = z2_2 + x2 * y0 + c2 := u64_id (by omega) (by omega)
              simp only [kI]
              go_wp2
              go_quiet (fail)
              go_wp2
              exact ⟨⟨1, z2_0, z2_1, (z2_2 + x2 * y0 + c2) % 65536, z2_3, z2_4, z2_5, 0, 0, (z2_2 + x2 * y0 + c2) / 65536, _, by omega, rfl, rfl, by omega, ⟨hz2.b0, hz2.b1, by omega, hz2.b3, hz2.b4, hz2.b5, by omega, by omega⟩, ⟨rfl, rfl⟩, ⟨by have := hE2.out; simp only [valS, pw, accS, rowS, Nat.reduceAdd] at this ⊢; omega⟩, set_draw _ _ _ _ _ _ _ hs.symm⟩, by simp [intOf]⟩
            · have hp := mul_dig hx.b2 hy.b1
              have hzk := hz2.b3
              have w1 : IntKind.u64.wrap (x2 * y1) = x2 * y1 := u64_id (by omega) (by omega)
              have w2 : IntKind.u64.wrap (z2_3 + x2 * y1) = z2_3 + x2 * y1 := u64_id (by omega) (by omega)
              have w3 : IntKind.u64.wrap (z2_3 + x2 * y1 + c2) = z2_3 + x2 * y1 + c2 := u64_id (by omega) (by omega)
              simp only [kI]
              go_wp2
              go_quiet (fail)
              go_wp2
              exact ⟨⟨2, z2_0, z2_1, z2_2, (z2_3 + x2 * y1 + c2) % 65536, z2_4, z2_5, 0, 0, (z2_3 + x2 * y1 + c2) / 65536, _, by omega, rfl, rfl, by omega, ⟨hz2.b0, hz2.b1, hz2.b2, by omega, hz2.b4, hz2.b5, by omega, by omega⟩, ⟨rfl, rfl⟩, ⟨by have := hE2.out; simp only [valS, pw, accS, rowS, Nat.reduceAdd] at this ⊢; omega⟩, set_draw _ _ _ _ _ _ _ hs.symm⟩, by simp [intOf]⟩
            · have hp := mul_dig hx.b2 hy.b2
              have hzk := hz2.b4
              have w1 : IntKind.u64.wrap (x2 * y2) = x2 * y2 := u64_id (by omega) (by omega)
              have w2 : IntKind.u64.wrap (z2_4 + x2 * y2) = z2_4 + x2 * y2 := u64_id (by omega) (by omega)
              have w3 : IntKind.u64.wrap (z2_4 + x2 * y2 + c2) = z2_4 + x2 * y2 + c2 := u64_id (by omega) (by omega)
              simp only [kI]
              go_wp2
              go_quiet (fail)
              go_wp2
              exact ⟨⟨3, z2_0, z2_1, z2_2, z2_3, (z2_4 + x2 * y2 + c2) % 65536, z2_5, 0, 0, (z2_4 + x2 * y2 + c2) / 65536, _, by omega, rfl, rfl, by omega, ⟨hz2.b0, hz2.b1, hz2.b2, hz2.b3, by omega, hz2.b5, by omega, by omega⟩, ⟨rfl, rfl⟩, ⟨by have := hE2.out; simp only [valS, pw, accS, rowS, Nat.reduceAdd] at this ⊢; omega⟩, set_draw _ _ _ _ _ _ _ hs.symm⟩, by simp [intOf]⟩
            · have hp := mul_dig hx.b2 hy.b3
              have hzk := hz2.b5
              have w1 : IntKind.u64.wrap (x2 * y3) = x2 * y3 := u64_id (by omega) (by omega)
              have w2 : IntKind.u64.wrap (z2_5 + x2 * y3) = z2_5 + x2 * y3 := u64_id (by omega) (by omega)
              have w3 : IntKind.u64.wrap (z2_5 + x2 * y3 + c2) = z2_5 + x2 * y3 + c2 := u64_id (by omega) (by omega)
              simp only [kI]
              go_wp2
              go_quiet (fail)
              go_wp2
              exact ⟨⟨4, z2_0, z2_1, z2_2, z2_3, z2_4, (z2_5 + x2 * y3 + c2) % 65536, 0, 0, (z2_5 + x2 * y3 + c2) / 65536, _, by omega, rfl, rfl, by omega, ⟨hz2.b0, hz2.b1, hz2.b2, hz2.b3, hz2.b4, by omega, by omega, by omega⟩, ⟨rfl, rfl⟩, ⟨by have := hE2.out; simp only [valS, pw, accS, rowS, Nat.reduceAdd] at this ⊢; omega⟩, set_draw _ _ _ _ _ _ _ hs.symm⟩, by simp [intOf]⟩
            · simp only [kI]
              go_wp2
              rw [rounds_succ]; go_wp2
              go_loopw [9, 10] (fun c k wr => ∃ (kN : Nat) (z3_0 z3_1 z3_2 z3_3 z3_4 z3_5 z3_6 z3_7 c3 : Int) (n : Nat), kN ≤ 4 ∧ k = .int .i64 (kI kN) ∧ c = .int .u64 c3 ∧ (0 ≤ c3 ∧ c3 ≤ 65535) ∧ Dig8 z3_0 z3_1 z3_2 z3_3 z3_4 z3_5 z3_6 z3_7 ∧ (z3_7 = 0) ∧ Aside0 (valS z3_0 z3_1 z3_2 z3_3 z3_4 z3_5 z3_6 z3_7 + c3 * pw (3 + kN) = accS x0 x1 x2 x3 y0 y1 y2 y3 3 + pw 3 * rowS x3 y0 y1 y2 y3 kN) ∧ wr = (B.alloc (.cells #[.int .u64 z3_0, .int .u64 z3_1, .int .u64 z3_2, .int .u64 z3_3, .int .u64 z3_4, .int .u64 z3_5, .int .u64 z3_6, .int .u64 z3_7] 63)).drewN n) (fun _ k _ => 4 - (intOf k).toNat)
              case atStart => exact ⟨0, z2_0, z2_1, z2_2, z2_3, z2_4, z2_5, c2, 0, 0, n2, by omega, rfl, rfl, by omega, ⟨hz2.b0, hz2.b1, hz2.b2, hz2.b3, hz2.b4, hz2.b5, hc2, by omega⟩, rfl, ⟨by have := hE2.out; simp only [valS, pw, accS, rowS, Nat.reduceAdd] at this ⊢; omega⟩, set_draw _ _ _ _ _ _ _ hs.symm⟩
              case round =>
                obtain ⟨kN, z3_0, z3_1, z3_2, z3_3, z3_4, z3_5, z3_6, z3_7, c3, n3, hk, rfl, rfl, hc3, hz3, rfl, hE3, rfl⟩ := hrel
                rcases (by omega : kN = 0 ∨ kN = 1 ∨ kN = 2 ∨ kN = 3 ∨ kN = 4) with rfl | rfl | rfl | rfl | rfl
                · have hp := mul_dig hx.b3 hy.b0
                  have hzk := hz3.b3
                  have w1 : IntKind.u64.wrap (x3 * y0) = x3 * y0 := u64_id (by omega) (by omega)
                  have w2 : IntKind.u64.wrap (z3_3 + x3 * y0) = z3_3 + x3 * y0 := u64_id (by omega) (by omega)
                  have w3 : IntKind.u64.wrap (z3_3 + x3 * y0 + c3) = z3_3 + x3 * y0 + c3 := u64_id (by omega) (by omega)
                  simp only [kI]
                  go_wp2
                  go_quiet (fail)
                  go_wp2
                  exact ⟨⟨1, z3_0, z3_1, z3_2, (z3_3 + x3 * y0 + c3) % 65536, z3_4, z3_5, z3_6, 0, (z3_3 + x3 * y0 + c3) / 65536, _, by omega, rfl, rfl, by omega, ⟨hz3.b0, hz3.b1, hz3.b2, by omega, hz3.b4, hz3.b5, hz3.b6, by omega⟩, rfl, ⟨by have := hE3.out; simp only [valS, pw, accS, rowS, Nat.reduceAdd] at this ⊢; omega⟩, set_draw _ _ _ _ _ _ _ hs.symm⟩, by simp [intOf]⟩
                · have hp := mul_dig hx.b3 hy.b1
                  have hzk := hz3.b4
                  have w1 : IntKind.u64.wrap (x3 * y1) = x3 * y1 := u64_id (by omega) (by omega)
                  have w2 : IntKind.u64.wrap (z3_4 + x3 * y1) = z3_4 + x3 * y1 := u64_id (by omega) (by omega)
                  have w3 : IntKind.u64.wrap (z3_4 + x3 * y1 + c3) = z3_4 + x3 * y1 + c3 := u64_id (by omega) (by omega)
                  simp only [kI]
                  go_wp2
                  go_quiet (fail)
                  go_wp2
                  exact ⟨⟨2, z3_0, z3_1, z3_2, z3_3, (z3_4 + x3 * y1 + c3) % 65536, z3_5, z3_6, 0, (z3_4 + x3 * y1 + c3) / 65536, _, by omega, rfl, rfl, by omega, ⟨hz3.b0, hz3.b1, hz3.b2, hz3.b3, by omega, hz3.b5, hz3.b6, by omega⟩, rfl, ⟨by have := hE3.out; simp only [valS, pw, accS, rowS, Nat.reduceAdd] at this ⊢; omega⟩, set_draw _ _ _ _ _ _ _ hs.symm⟩, by simp [intOf]⟩
                · have hp := mul_dig hx.b3 hy.b2
                  have hzk := hz3.b5
                  have w1 : IntKind.u64.wrap (x3 * y2) = x3 * y2 := u64_id (by omega) (by omega)
                  have w2 : IntKind.u64.wrap (z3_5 + x3 * y2) = z3_5 + x3 * y2 := u64_id (by omega) (by omega)
                  have w3 : IntKind.u64.wrap (z3_5 + x3 * y2 + c3) = z3_5 + x3 * y2 + c3 := u64_id (by omega) (by omega)
                  simp only [kI]
                  go_wp2
                  go_quiet (fail)
                  go_wp2
                  exact ⟨⟨3, z3_0, z3_1, z3_2, z3_3, z3_4, (z3_5 + x3 * y2 + c3) % 65536, z3_6, 0, (z3_5 + x3 * y2 + c3) / 65536, _, by omega, rfl, rfl, by omega, ⟨hz3.b0, hz3.b1, hz3.b2, hz3.b3, hz3.b4, by omega, hz3.b6, by omega⟩, rfl, ⟨by have := hE3.out; simp only [valS, pw, accS, rowS, Nat.reduceAdd] at this ⊢; omega⟩, set_draw _ _ _ _ _ _ _ hs.symm⟩, by simp [intOf]⟩
                · have hp := mul_dig hx.b3 hy.b3
                  have hzk := hz3.b6
                  have w1 : IntKind.u64.wrap (x3 * y3) = x3 * y3 := u64_id (by omega) (by omega)
                  have w2 : IntKind.u64.wrap (z3_6 + x3 * y3) = z3_6 + x3 * y3 := u64_id (by omega) (by omega)
                  have w3 : IntKind.u64.wrap (z3_6 + x3 * y3 + c3) = z3_6 + x3 * y3 + c3 := u64_id (by omega) (by omega)
                  simp only [kI]
                  go_wp2
                  go_quiet (fail)
                  go_wp2
                  exact ⟨⟨4, z3_0, z3_1, z3_2, z3_3, z3_4, z3_5, (z3_6 + x3 * y3 + c3) % 65536, 0, (z3_6 + x3 * y3 + c3) / 65536, _, by omega, rfl, rfl, by omega, ⟨hz3.b0, hz3.b1, hz3.b2, hz3.b3, hz3.b4, hz3.b5, by omega, by omega⟩, rfl, ⟨by have := hE3.out; simp only [valS, pw, accS, rowS, Nat.reduceAdd] at this ⊢; omega⟩, set_draw _ _ _ _ _ _ _ hs.symm⟩, by simp [intOf]⟩
                · simp only [kI]
                  go_wp2
                  rw [set_draw _ _ _ _ _ _ _ hs.symm]
                  obtain rfl := HBq.out
                  clear hs cx0 cx1 cx2 cx3 cy0 cy1 cy2 cy3 HBq
                  simp only [prodBase, bigO]
                  have hset := set_drewN
                  rw [rounds_succ]; go_wp2
                  have h1 := hE3.out
                  have h2 := hx.sum
                  have h3 := hy.sum
                  have hP : valS z3_0 z3_1 z3_2 z3_3 z3_4 z3_5 z3_6 c3 = mg a * mg b := prod_val h2 h3 (by simp only [valS, pw, accS, rowS, Nat.reduceAdd] at h1 ⊢; omega)
                  refine bodyPost_ret (v := bigV z3_0 z3_1 z3_2 z3_3 z3_4 z3_5 z3_6 c3) ?_ rfl (show ProdEnd (mg a * mg b) w _ _ from ⟨z3_0, z3_1, z3_2, z3_3, z3_4, z3_5, z3_6, c3, ⟨hz3.b0, hz3.b1, hz3.b2, hz3.b3, hz3.b4, hz3.b5, hz3.b6, hc3⟩, hP, rfl, ?_⟩)
                  · simp [results, Try.results34, go_sem, bigV]
                  · repeat (first | exact Below.refl _ _ | apply pw_below_drewN | apply below_alloc)
end Go.Proofs.Ytddooigcnbpliaa.Q
